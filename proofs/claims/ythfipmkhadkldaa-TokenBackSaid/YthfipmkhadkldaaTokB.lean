/-
  The law TokenBack. No condition.
-/
import Derived.Test.YthfipmkhadkldaaTok4
import Derived.Test.YthfipmkhadkldaaRX
namespace Go.Proofs.Ythfipmkhadkldaa
open Go.RowKit
set_option maxRecDepth 100000
set_option maxHeartbeats 4000000
set_option linter.unusedVariables false

theorem pad_getD (s : List UInt8) (t : Nat) : (pad s).getD t 0 = s.getD t 0 := by
  unfold pad
  rw [List.getD_eq_getElem?_getD, List.getD_eq_getElem?_getD]
  by_cases h : t < s.length
  · rw [List.getElem?_append_left h]
  · rw [List.getElem?_append_right (by omega), List.getElem?_eq_none (l := s) (by omega), List.getElem?_replicate]
    split <;> rfl
theorem pad_pin (s : List UInt8) (hz : ∀ t, t < s.length → s.getD t 0 ≠ 0) (hs : s.length ≤ 63) : pinE (pad s) = 0 ∧ pinS (pad s) = s := by
  have hp : (pad s).length = 64 := by rw [pad, List.length_append, List.length_replicate]; omega
  have hN : Lib.indexByte (pad s) 0 = s.length := by
    rcases firstZ (pad s) with ⟨z1, z2⟩ | ⟨N, z1, z2, z3, z4⟩
    · exact absurd (by rw [pad_getD, List.getD_eq_getElem?_getD, List.getElem?_eq_none (Nat.le_refl _)]; rfl) (z2 s.length (by omega))
    · rcases Nat.lt_trichotomy N s.length with h | h | h
      · rw [pad_getD] at z3; exact absurd z3 (hz N h)
      · omega
      · exact absurd (by rw [pad_getD, List.getD_eq_getElem?_getD, List.getElem?_eq_none (Nat.le_refl _)]; rfl) (z4 s.length h)
  have hN' : (Lib.indexByte (pad s) 0).toNat = s.length := by omega
  have e : pinE (pad s) = 0 := by
    rw [pinE, if_neg (by omega), hN', if_pos (fun i hi => by rw [pad_getD, List.getD_eq_getElem?_getD, List.getElem?_eq_none (by omega)]; rfl)]
  refine ⟨e, ?_⟩
  rw [pinS, if_pos e, hN', pad, List.take_append_of_le_length (Nat.le_refl _), List.take_length]
theorem tokenBack_law (shared nonce : UInt64) (s : List UInt8) (w : UInt64) (hs : s.length ≤ 9223372036854775807) : Ret Try.prog 8 [aw shared, aw nonce, as_ s, aw w] (ao true) := by
  have hw : (words [w]).length = 8 := by rw [words_len]; rfl
  obtain ⟨o1, o2⟩ := open_seal shared nonce [] (words [w]) (sealE_short (words [w]) (by omega))
  have w1 : openWE shared (sealWD shared nonce w) = 0 := by rw [sealWD, openWE, o1, o2, hw]; rfl
  have w2 : openWV shared (sealWD shared nonce w) = w := by rw [openWV, if_pos w1, sealWD, o2, words1, wordOf_be]
  refine Ret.of_fn Try.func8 (by kernel_rfl) 77 (by kernel_rfl) (by kernel_rfl) ?_
  skip
  refine AWP.regsK 1 [{  }] (by kernel_rfl) (s' := AS.mk [(8, ao false), (0, aw shared), (1, aw nonce), (2, AV.val (Value.string (ByteArray.mk s.toArray))), (3, aw w)] []) (C := []) (by kernel_rfl) trivial ?_
  refine AWP.seq (by kernel_rfl) ?_
  refine AWP.regsK 1 [{  }] (by kernel_rfl) (s' := AS.mk [(9, ai (0 : Int)), (8, ao false), (0, aw shared), (1, aw nonce), (2, AV.val (Value.string (ByteArray.mk s.toArray))), (3, aw w)] []) (C := []) (by kernel_rfl) trivial ?_
  refine AWP.block (id := 0) (by kernel_rfl) ?_
  refine AWP.loop (fun (i : Nat) => (⟨[(0, aw shared), (1, aw nonce), (2, AV.val (Value.string (ByteArray.mk s.toArray))), (3, aw w), (9, ai i)], []⟩ : AS)) (fun i => (i ≤ s.length ∧ (0 < i → s.length ≤ 63) ∧ ∀ t, t < i → s.getD t 0 ≠ 0)) (fun i => (s.length - i)) (by kernel_rfl) (0) ?_ (Weaks.of [.keep [0, 1, 2, 3, 9] []] (s1 := AS.mk [(0, aw shared), (1, aw nonce), (2, AV.val (Value.string (ByteArray.mk s.toArray))), (3, aw w), (9, ai (0 : Int))] []) (by kernel_rfl) rfl) ?_
  · exact ⟨by omega, by omega, by simp⟩
  rintro i ⟨hi, hi0, hz⟩
  skip
  refine AWP.seq (by kernel_rfl) ?_
  refine AWP.regsK 1 [{ hs := [(2, { av := some (ai (↑s.length : Int)) })] }] (by kernel_rfl) (s' := AS.mk [(19, ao (decide ((↑i : Int) < (↑s.length : Int)))), (18, ai (↑s.length : Int)), (17, AV.val (Value.string (ByteArray.mk s.toArray))), (16, ai (↑i : Int)), (0, aw shared), (1, aw nonce), (2, AV.val (Value.string (ByteArray.mk s.toArray))), (3, aw w), (9, ai (↑i : Int))] []) (C := [ai (↑(ByteArray.mk s.toArray).size : Int) = ai (↑s.length : Int)]) (by kernel_rfl) ⟨rfl, trivial⟩ ?_
  refine AWP.condD (x := Operand.tmp (19 : Nat)) (p := (↑i : Int) < (↑s.length : Int)) (by kernel_rfl) (by kernel_rfl) (fun h1 => ?_) (fun h1 => ?_)
  · by_cases h2 : s.getD i 0 = 0
    · skip
      refine AWP.skip (by kernel_rfl) ?_
      skip
      refine then_n ?_
      refine AWP.seq (by kernel_rfl) ?_
      refine AWP.block (id := 1) (by kernel_rfl) ?_
      refine AWP.regsK 1 [{ hs := [(2, { av := some (ab (s.getD i (0 : UInt8))), k := i }), (3, { av := some (ao (s.getD i (0 : UInt8) == (0 : UInt8))) })] }] (by kernel_rfl) (s' := AS.mk [(30, ao true), (29, AV.val (Value.tuple #[])), (28, AV.val (Value.tuple #[])), (27, AV.val (Value.tuple #[])), (26, ao (s.getD i (0 : UInt8) == (0 : UInt8))), (25, ao (s.getD i (0 : UInt8) == (0 : UInt8))), (24, ab (s.getD i (0 : UInt8))), (23, ai (↑i : Int)), (22, AV.val (Value.string (ByteArray.mk s.toArray))), (19, ao (decide ((↑i : Int) < (↑s.length : Int)))), (18, ai (↑s.length : Int)), (17, AV.val (Value.string (ByteArray.mk s.toArray))), (16, ai (↑i : Int)), (0, aw shared), (1, aw nonce), (2, AV.val (Value.string (ByteArray.mk s.toArray))), (3, aw w), (9, ai (↑i : Int))] []) (C := [ab (s.toArray.toList.getD i (0 : UInt8)) = ab (s.getD i (0 : UInt8)), (↑i : Int) = (↑i : Int), i < (ByteArray.mk s.toArray).size, ao (bv (s.getD i (0 : UInt8)) == (0 : Int)) = ao (s.getD i (0 : UInt8) == (0 : UInt8)), (s.getD i (0 : UInt8) == (0 : UInt8)) = true, (s.getD i (0 : UInt8) == (0 : UInt8)) = true, (s.getD i (0 : UInt8) == (0 : UInt8)) = true, (s.getD i (0 : UInt8) == (0 : UInt8)) = true]) (by kernel_rfl) ⟨rfl, rfl, (show _ < s.length by omega), (avb_eq (s.getD i (0 : UInt8)) ((0 : UInt8))), (decide_eq_true (by omega)), (decide_eq_true (by omega)), (decide_eq_true (by omega)), (decide_eq_true (by omega)), trivial⟩ ?_
      refine AWP.wk [.keep [30, 19, 0, 1, 2, 3, 9] []] (s' := AS.mk [(30, ao true), (19, ao (decide ((↑i : Int) < (↑s.length : Int)))), (0, aw shared), (1, aw nonce), (2, AV.val (Value.string (ByteArray.mk s.toArray))), (3, aw w), (9, ai (↑i : Int))] []) (by kernel_rfl) ?_
      refine AWP.condT (x := Operand.tmp (30 : Nat)) (b := true) (by kernel_rfl) (by kernel_rfl) rfl ?_
      refine AWP.regsK 1 [{ hs := [(0, { av := some (ao true) })] }] (by kernel_rfl) (s' := AS.mk [(8, ao true), (31, ao true), (30, ao true), (19, ao (decide ((↑i : Int) < (↑s.length : Int)))), (0, aw shared), (1, aw nonce), (2, AV.val (Value.string (ByteArray.mk s.toArray))), (3, aw w), (9, ai (↑i : Int))] []) (C := [Ret Try.prog (10 : Nat) [] (ao true)]) (by kernel_rfl) ⟨(awake12_ret), trivial⟩ ?_
      refine AWP.ret (by kernel_rfl) ?_
      skip
      refine inb_r ?_
      refine then_r ?_
      refine round_r ?_
      refine inb_r ?_
      refine then_r ?_
      refine Done.ret_ (C := [Value.bool true = Value.bool true]) (by kernel_rfl) ⟨rfl, trivial⟩
    · by_cases h3 : s.length > 63
      · skip
        refine AWP.skip (by kernel_rfl) ?_
        skip
        refine then_n ?_
        refine AWP.seq (by kernel_rfl) ?_
        refine AWP.block (id := 1) (by kernel_rfl) ?_
        refine AWP.regsK 1 [{ hs := [(2, { av := some (ab (s.getD i (0 : UInt8))), k := i }), (3, { av := some (ao (s.getD i (0 : UInt8) == (0 : UInt8))) }), (5, { g := false }), (6, { av := some (ai (↑s.length : Int)), g := false }), (7, { g := false }), (8, { b := false })] }] (by kernel_rfl) (s' := AS.mk [(30, ao (decide ((↑s.length : Int) > (63 : Int)))), (29, ao (decide ((↑s.length : Int) > (63 : Int)))), (28, ai (↑s.length : Int)), (27, AV.val (Value.string (ByteArray.mk s.toArray))), (26, ao (s.getD i (0 : UInt8) == (0 : UInt8))), (25, ao (s.getD i (0 : UInt8) == (0 : UInt8))), (24, ab (s.getD i (0 : UInt8))), (23, ai (↑i : Int)), (22, AV.val (Value.string (ByteArray.mk s.toArray))), (19, ao (decide ((↑i : Int) < (↑s.length : Int)))), (18, ai (↑s.length : Int)), (17, AV.val (Value.string (ByteArray.mk s.toArray))), (16, ai (↑i : Int)), (0, aw shared), (1, aw nonce), (2, AV.val (Value.string (ByteArray.mk s.toArray))), (3, aw w), (9, ai (↑i : Int))] []) (C := [ab (s.toArray.toList.getD i (0 : UInt8)) = ab (s.getD i (0 : UInt8)), (↑i : Int) = (↑i : Int), i < (ByteArray.mk s.toArray).size, ao (bv (s.getD i (0 : UInt8)) == (0 : Int)) = ao (s.getD i (0 : UInt8) == (0 : UInt8)), (s.getD i (0 : UInt8) == (0 : UInt8)) = false, (s.getD i (0 : UInt8) == (0 : UInt8)) = false, ai (↑(ByteArray.mk s.toArray).size : Int) = ai (↑s.length : Int), (s.getD i (0 : UInt8) == (0 : UInt8)) = false, (s.getD i (0 : UInt8) == (0 : UInt8)) = false]) (by kernel_rfl) ⟨rfl, rfl, (show _ < s.length by omega), (avb_eq (s.getD i (0 : UInt8)) ((0 : UInt8))), (decide_eq_false (by omega)), (decide_eq_false (by omega)), rfl, (decide_eq_false (by omega)), (decide_eq_false (by omega)), trivial⟩ ?_
        refine AWP.wk [.keep [30, 19, 0, 1, 2, 3, 9] []] (s' := AS.mk [(30, ao (decide ((↑s.length : Int) > (63 : Int)))), (19, ao (decide ((↑i : Int) < (↑s.length : Int)))), (0, aw shared), (1, aw nonce), (2, AV.val (Value.string (ByteArray.mk s.toArray))), (3, aw w), (9, ai (↑i : Int))] []) (by kernel_rfl) ?_
        refine AWP.condT (x := Operand.tmp (30 : Nat)) (b := decide ((↑s.length : Int) > (63 : Int))) (by kernel_rfl) (by kernel_rfl) (decide_eq_true (by omega)) ?_
        refine AWP.regsK 1 [{ hs := [(0, { av := some (ao true) })] }] (by kernel_rfl) (s' := AS.mk [(8, ao true), (31, ao true), (30, ao (decide ((↑s.length : Int) > (63 : Int)))), (19, ao (decide ((↑i : Int) < (↑s.length : Int)))), (0, aw shared), (1, aw nonce), (2, AV.val (Value.string (ByteArray.mk s.toArray))), (3, aw w), (9, ai (↑i : Int))] []) (C := [Ret Try.prog (10 : Nat) [] (ao true)]) (by kernel_rfl) ⟨(awake12_ret), trivial⟩ ?_
        refine AWP.ret (by kernel_rfl) ?_
        skip
        refine inb_r ?_
        refine then_r ?_
        refine round_r ?_
        refine inb_r ?_
        refine then_r ?_
        refine Done.ret_ (C := [Value.bool true = Value.bool true]) (by kernel_rfl) ⟨rfl, trivial⟩
      · skip
        refine AWP.skip (by kernel_rfl) ?_
        skip
        refine then_n ?_
        refine AWP.seq (by kernel_rfl) ?_
        refine AWP.block (id := 1) (by kernel_rfl) ?_
        refine AWP.regsK 1 [{ hs := [(2, { av := some (ab (s.getD i (0 : UInt8))), k := i }), (3, { av := some (ao (s.getD i (0 : UInt8) == (0 : UInt8))) }), (5, { g := false }), (6, { av := some (ai (↑s.length : Int)), g := false }), (7, { g := false }), (8, { b := false })] }] (by kernel_rfl) (s' := AS.mk [(30, ao (decide ((↑s.length : Int) > (63 : Int)))), (29, ao (decide ((↑s.length : Int) > (63 : Int)))), (28, ai (↑s.length : Int)), (27, AV.val (Value.string (ByteArray.mk s.toArray))), (26, ao (s.getD i (0 : UInt8) == (0 : UInt8))), (25, ao (s.getD i (0 : UInt8) == (0 : UInt8))), (24, ab (s.getD i (0 : UInt8))), (23, ai (↑i : Int)), (22, AV.val (Value.string (ByteArray.mk s.toArray))), (19, ao (decide ((↑i : Int) < (↑s.length : Int)))), (18, ai (↑s.length : Int)), (17, AV.val (Value.string (ByteArray.mk s.toArray))), (16, ai (↑i : Int)), (0, aw shared), (1, aw nonce), (2, AV.val (Value.string (ByteArray.mk s.toArray))), (3, aw w), (9, ai (↑i : Int))] []) (C := [ab (s.toArray.toList.getD i (0 : UInt8)) = ab (s.getD i (0 : UInt8)), (↑i : Int) = (↑i : Int), i < (ByteArray.mk s.toArray).size, ao (bv (s.getD i (0 : UInt8)) == (0 : Int)) = ao (s.getD i (0 : UInt8) == (0 : UInt8)), (s.getD i (0 : UInt8) == (0 : UInt8)) = false, (s.getD i (0 : UInt8) == (0 : UInt8)) = false, ai (↑(ByteArray.mk s.toArray).size : Int) = ai (↑s.length : Int), (s.getD i (0 : UInt8) == (0 : UInt8)) = false, (s.getD i (0 : UInt8) == (0 : UInt8)) = false]) (by kernel_rfl) ⟨rfl, rfl, (show _ < s.length by omega), (avb_eq (s.getD i (0 : UInt8)) ((0 : UInt8))), (decide_eq_false (by omega)), (decide_eq_false (by omega)), rfl, (decide_eq_false (by omega)), (decide_eq_false (by omega)), trivial⟩ ?_
        refine AWP.wk [.keep [30, 19, 0, 1, 2, 3, 9] []] (s' := AS.mk [(30, ao (decide ((↑s.length : Int) > (63 : Int)))), (19, ao (decide ((↑i : Int) < (↑s.length : Int)))), (0, aw shared), (1, aw nonce), (2, AV.val (Value.string (ByteArray.mk s.toArray))), (3, aw w), (9, ai (↑i : Int))] []) (by kernel_rfl) ?_
        refine AWP.condF (x := Operand.tmp (30 : Nat)) (b := decide ((↑s.length : Int) > (63 : Int))) (by kernel_rfl) (by kernel_rfl) (decide_eq_false (by omega)) ?_
        refine AWP.skip (by kernel_rfl) ?_
        skip
        refine inb_n ?_
        refine then_n ?_
        refine AWP.reg { hs := [(1, { av := some (ai ((↑i : Int) + (1 : Int))) })] } (s' := AS.mk [(9, ai ((↑i : Int) + (1 : Int))), (21, ai ((↑i : Int) + (1 : Int))), (20, ai (↑i : Int)), (30, ao (decide ((↑s.length : Int) > (63 : Int)))), (19, ao (decide ((↑i : Int) < (↑s.length : Int)))), (0, aw shared), (1, aw nonce), (2, AV.val (Value.string (ByteArray.mk s.toArray))), (3, aw w)] []) (C := [ai (IntKind.i64.wrap ((↑i : Int) + (1 : Int))) = ai ((↑i : Int) + (1 : Int))]) (by kernel_rfl) ⟨(av_i64 (by omega) (by omega)), trivial⟩ ?_
        refine round_n (i + 1) ⟨by omega, by omega, fun t ht => by by_cases q : t = i; (subst q; exact h2); exact hz t (by omega)⟩ (by omega) (Weaks.of [.keep [0, 1, 2, 3, 9] []] (s1 := AS.mk [(0, aw shared), (1, aw nonce), (2, AV.val (Value.string (ByteArray.mk s.toArray))), (3, aw w), (9, ai ((↑i : Int) + (1 : Int)))] []) (by kernel_rfl) rfl)
  · have h3 : s.length ≤ 63 := by by_cases q : 0 < i; exact hi0 q; omega
    obtain ⟨p1, p2⟩ := pad_pin s (fun t ht => hz t (by omega)) h3
    have hp : (pad s).length = 64 := by rw [pad, List.length_append, List.length_replicate]; omega
    have hE := sealE_short (pad s) (by omega)
    obtain ⟨k1, k2⟩ := open_seal shared nonce [] (pad s) hE
    have hd : sealPD shared nonce s = sealD shared nonce [] (pad s) := by rw [sealPD, if_neg (by omega)]
    have q0 : sealPE s = 0 := by rw [sealPE, if_neg (by omega)]
    have q1 : openPE shared (sealPD shared nonce s) = 0 := by rw [hd, openPE, if_neg (by omega), k2, p1]
    have q2 : openPS shared (sealPD shared nonce s) = s := by rw [hd, openPS, if_neg (by omega), k2, p2]
    skip
    refine AWP.exit (id := 0) (by kernel_rfl) ?_
    skip
    refine then_e ?_
    refine round_e ?_
    refine inb_e ?_
    refine then_n ?_
    refine AWP.regsK 4 [{ hs := [(3, { av := some (AV.tup [AV.own (1 : Nat) (bytesA (sealPD shared nonce s)), ai (sealPE s)]) })] }, { hs := [(2, { av := some (AV.tup [AV.val (Value.string (ByteArray.mk (openPS shared (sealPD shared nonce s)).toArray)), ai (openPE shared (sealPD shared nonce s))]) })] }, { hs := [(4, { av := some (AV.own (1 : Nat) (bytesA (sealWD shared nonce w))) }), (5, { av := some (AV.tup [aw (openWV shared (sealWD shared nonce w)), ai (openWE shared (sealWD shared nonce w))]) })] }, { hs := [(1, { av := some (ao true) }), (4, { av := some (ao true) }), (8, { av := some (ao true) }), (13, { av := some (ao true) }), (18, { av := some (ao true) }), (21, { av := some (ao true) })] }] (by kernel_rfl) (s' := AS.mk [(8, ao true), (76, ao true), (75, ao true), (74, ao true), (73, ao true), (72, ao true), (71, aw w), (70, aw (openWV shared (sealWD shared nonce w))), (69, ao true), (68, ao true), (67, ao true), (66, AV.val (Value.string (ByteArray.mk (openPS shared (sealPD shared nonce s)).toArray))), (65, AV.val (Value.string (ByteArray.mk s.toArray))), (64, ao true), (63, ao true), (62, ao true), (61, ai (openWE shared (sealWD shared nonce w))), (60, ao true), (59, ao true), (58, ao true), (57, ai (openPE shared (sealPD shared nonce s))), (56, ao true), (55, ao true), (54, ai (sealPE s)), (15, ai (openWE shared (sealWD shared nonce w))), (14, aw (openWV shared (sealWD shared nonce w))), (53, ai (openWE shared (sealWD shared nonce w))), (52, aw (openWV shared (sealWD shared nonce w))), (45, AV.tup [aw (openWV shared (sealWD shared nonce w)), ai (openWE shared (sealWD shared nonce w))]), (51, AV.tup [aw (openWV shared (sealWD shared nonce w)), ai (openWE shared (sealWD shared nonce w))]), (50, AV.ref (50 : Nat)), (49, aw w), (48, aw nonce), (47, aw shared), (46, aw shared), (13, ai (openPE shared (sealPD shared nonce s))), (12, AV.val (Value.string (ByteArray.mk (openPS shared (sealPD shared nonce s)).toArray))), (44, ai (openPE shared (sealPD shared nonce s))), (43, AV.val (Value.string (ByteArray.mk (openPS shared (sealPD shared nonce s)).toArray))), (39, AV.tup [AV.val (Value.string (ByteArray.mk (openPS shared (sealPD shared nonce s)).toArray)), ai (openPE shared (sealPD shared nonce s))]), (42, AV.tup [AV.val (Value.string (ByteArray.mk (openPS shared (sealPD shared nonce s)).toArray)), ai (openPE shared (sealPD shared nonce s))]), (41, AV.ref (1036 : Nat)), (40, aw shared), (11, ai (sealPE s)), (10, AV.ref (1036 : Nat)), (38, ai (sealPE s)), (37, AV.ref (1036 : Nat)), (32, AV.tup [AV.ref (1036 : Nat), ai (sealPE s)]), (36, AV.tup [AV.ref (1036 : Nat), ai (sealPE s)]), (35, AV.val (Value.string (ByteArray.mk s.toArray))), (34, aw nonce), (33, aw shared), (19, ao (decide ((↑i : Int) < (↑s.length : Int)))), (18, ai (↑s.length : Int)), (17, AV.val (Value.string (ByteArray.mk s.toArray))), (16, ai (↑i : Int)), (0, aw shared), (1, aw nonce), (2, AV.val (Value.string (ByteArray.mk s.toArray))), (3, aw w), (9, ai (↑i : Int))] [(50, Row.mk (1 : Nat) true false (bytesA (sealWD shared nonce w))), (1036, Row.mk (1 : Nat) true false (bytesA (sealPD shared nonce s)))]) (C := [Ret Try.prog (11 : Nat) [aw shared, aw nonce, AV.val (Value.string (ByteArray.mk s.toArray))] (AV.tup [AV.own (1 : Nat) (bytesA (sealPD shared nonce s)), ai (sealPE s)]), valR (bytesA (sealPD shared nonce s)), Ret Try.prog (26 : Nat) [aw shared, AV.sl (1 : Nat) (bytesA (sealPD shared nonce s))] (AV.tup [AV.val (Value.string (ByteArray.mk (openPS shared (sealPD shared nonce s)).toArray)), ai (openPE shared (sealPD shared nonce s))]), Ret Try.prog (28 : Nat) [aw shared, aw nonce, aw w] (AV.own (1 : Nat) (bytesA (sealWD shared nonce w))), valR (bytesA (sealWD shared nonce w)), Ret Try.prog (27 : Nat) [aw shared, AV.sl (1 : Nat) (bytesA (sealWD shared nonce w))] (AV.tup [aw (openWV shared (sealWD shared nonce w)), ai (openWE shared (sealWD shared nonce w))]), ao (sealPE s == (0 : Int)) = ao true, true = true, true = true, ao (openPE shared (sealPD shared nonce s) == (0 : Int)) = ao true, true = true, true = true, true = true, ao (openWE shared (sealWD shared nonce w) == (0 : Int)) = ao true, true = true, true = true, true = true, true = true, ao ((ByteArray.mk s.toArray).toList == (ByteArray.mk (openPS shared (sealPD shared nonce s)).toArray).toList) = ao true, true = true, true = true, true = true, true = true, ao (wv (openWV shared (sealWD shared nonce w)) == wv w) = ao true, true = true, true = true, Ret Try.prog (10 : Nat) [] (ao true), true = true]) (by kernel_rfl) ⟨(sealpin_ret (shared) (nonce) (s) (by assumption)), (valR_bytes _), (openpin_ret (shared) (sealPD shared nonce s)), (sealword_ret (shared) (nonce) (w)), (valR_bytes _), (openword_ret (shared) (sealWD shared nonce w)), (by rw [q0]; rfl), rfl, rfl, (by rw [q1]; rfl), rfl, rfl, rfl, (by rw [w1]; rfl), rfl, rfl, rfl, rfl, (by rw [q2]; simp), rfl, rfl, rfl, rfl, (by rw [w2]; simp), rfl, rfl, (awake12_ret), rfl, trivial⟩ ?_
    refine AWP.wk [.keep [8, 15, 14, 13, 12, 11, 10, 19, 0, 1, 2, 3, 9] [1036]] (s' := AS.mk [(8, ao true), (15, ai (openWE shared (sealWD shared nonce w))), (14, aw (openWV shared (sealWD shared nonce w))), (13, ai (openPE shared (sealPD shared nonce s))), (12, AV.val (Value.string (ByteArray.mk (openPS shared (sealPD shared nonce s)).toArray))), (11, ai (sealPE s)), (10, AV.ref (1036 : Nat)), (19, ao (decide ((↑i : Int) < (↑s.length : Int)))), (0, aw shared), (1, aw nonce), (2, AV.val (Value.string (ByteArray.mk s.toArray))), (3, aw w), (9, ai (↑i : Int))] [(1036, Row.mk (1 : Nat) true false (bytesA (sealPD shared nonce s)))]) (by kernel_rfl) ?_
    refine AWP.ret (by kernel_rfl) ?_
    refine Done.ret_ (C := [Value.bool true = Value.bool true]) (by kernel_rfl) ⟨rfl, trivial⟩
end Go.Proofs.Ythfipmkhadkldaa
