/-
  Plain laws of boxes; the contracts of the law's short, opens and awake; the laws SealStreams, SealCloses, SealBack. No condition.
-/
import Derived.Test.YtbehdllomepkdaaSeal2
namespace Go.Proofs.Ytbehdllomepkdaa
open Go.RowKit
set_option maxRecDepth 100000
set_option maxHeartbeats 4000000
set_option linter.unusedVariables false

/-- A nil slice reads as an empty one. -/
theorem Ret.nils {P : Program} {f : FuncId} {args args' : List AV} {r : AV} (h : Ret P f args r) (hl : args'.length = args.length) (ha : ∀ (j : Nat) x y, args'[j]? = some x → args[j]? = some y → x = y ∨ (x = .nil ∧ y = .sl 1 [])) : Ret P f args' r := by
  intro w S vs hS hv hr
  refine h w S vs hS (hv.trans hl) fun j v y hvj hy => ?_
  have hj : j < args'.length := by have := (List.getElem?_eq_some_iff.1 hy).1; omega
  have hx : args'[j]? = some args'[j] := List.getElem?_eq_getElem hj
  have hrep := hr j v _ hvj hx
  rcases ha j _ y hx hy with e | ⟨e1, e2⟩
  · rw [← e]; exact hrep
  · rw [e1] at hrep; rw [e2]; cases hrep; exact sl_empty none 0 0 1 (by simp) (Nat.le_refl _) (by simp)
section
variable (key nonce : UInt64) (bound text : List UInt8)
theorem mixL_mixL : mixL key nonce (mixL key nonce text) = text := by
  have hl := mixL_len key nonce text
  rw [show mixL key nonce (mixL key nonce text) = (List.range (mixL key nonce text).length).map fun i => (stream key nonce (mixL key nonce text).length).getD i 0 ^^^ (mixL key nonce text).getD i 0 from rfl, hl]
  apply List.ext_getElem (by simp)
  intro i h1 h2
  simp only [List.getElem_map, List.getElem_range]
  rw [show (mixL key nonce text).getD i 0 = (stream key nonce text.length).getD i 0 ^^^ text.getD i 0 by unfold mixL; rw [map_range_getD _ _ h2], ← UInt8.xor_assoc, UInt8.xor_self, UInt8.zero_xor]
  simp [h2]
theorem sealD_len (h : sealE bound text = 0) : (sealD key nonce bound text).length = text.length + 16 := by
  rw [sealD, if_pos h, List.length_append, List.length_append, mixL_len, tagB_len, words_len]; simp; omega
theorem sealE_zero : sealE bound text = 0 ↔ text.length ≤ 1024 ∧ bound.length ≤ 1024 := by
  unfold sealE; split <;> constructor <;> intro h <;> first | omega | (cases h)
theorem seal_parts (h : sealE bound text = 0) : openN (sealD key nonce bound text) = nonce ∧ openH (sealD key nonce bound text) = mixL key nonce text ∧ (sealD key nonce bound text).drop ((sealD key nonce bound text).length - 8) = tagB key nonce bound (mixL key nonce text) := by
  have hl := sealD_len key nonce bound text h
  have hm := mixL_len key nonce text
  have hw : (words [nonce]).length = 8 := by rw [words_len]; rfl
  have ht := tagB_len key nonce bound (mixL key nonce text)
  refine ⟨?_, ?_, ?_⟩
  · rw [openN, sealD, if_pos h, List.take_append_of_le_length (by omega), List.take_of_length_le (by omega), words1, wordOf_be]
  · rw [openH, hl, sealD, if_pos h, List.drop_append_of_le_length (by omega), List.drop_eq_nil_of_le (by omega), List.nil_append, List.take_append_of_le_length (by omega), List.take_of_length_le (by omega)]
  · rw [hl, sealD, if_pos h, ← List.append_assoc, List.drop_append, List.drop_eq_nil_of_le (by rw [List.length_append]; omega), List.nil_append, List.length_append, show text.length + 16 - 8 - ((words [nonce]).length + (mixL key nonce text).length) = 0 by omega, List.drop_zero]
theorem open_seal (h : sealE bound text = 0) : openE key bound (sealD key nonce bound text) = 0 ∧ openD key bound (sealD key nonce bound text) = text := by
  obtain ⟨h1, h2, h3⟩ := seal_parts key nonce bound text h
  have hl := sealD_len key nonce bound text h
  have hz := (sealE_zero bound text).1 h
  have e : openE key bound (sealD key nonce bound text) = 0 := by
    rw [openE, if_neg (by omega), if_neg (by omega), h1, h2, if_pos h3]
  refine ⟨e, ?_⟩
  rw [openD, if_pos e, h1, h2, mixL_mixL key nonce text]
end
theorem seal_open {key : UInt64} {bound box : List UInt8} (h : openE key bound box = 0) : 16 ≤ box.length ∧ sealE bound (openD key bound box) = 0 ∧ sealD key (openN box) bound (openD key bound box) = box := by
  have h' := h
  unfold openE at h'
  split at h'
  · cases h'
  split at h'
  · cases h'
  rename_i h1 h2
  have h3 : box.drop (box.length - 8) = tagB key (openN box) bound (openH box) := by
    split at h'
    · assumption
    · cases h'
  have hh : (openH box).length = box.length - 16 := by unfold openH; rw [List.length_take, List.length_drop]; omega
  have hD : openD key bound box = mixL key (openN box) (openH box) := by rw [openD, if_pos h]
  have hl : (openD key bound box).length = box.length - 16 := by rw [hD, mixL_len, hh]
  have hE : sealE bound (openD key bound box) = 0 := (sealE_zero _ _).2 ⟨by omega, by omega⟩
  refine ⟨by omega, hE, ?_⟩
  rw [sealD, if_pos hE, hD, mixL_mixL, ← h3, words1]
  have hb : be (openN box) = box.take 8 := be_wordOf _ (by rw [List.length_take]; omega)
  rw [hb, openH]
  conv => rhs; rw [← List.take_append_drop 8 box]
  congr 1
  conv => rhs; rw [← List.take_append_drop (box.length - 8 - 8) (box.drop 8)]
  rw [List.drop_drop, show 8 + (box.length - 8 - 8) = box.length - 8 by omega]
theorem short_any (l : List (List UInt8)) (h2 : l.length ≤ 1000) (b : Bool) (hb : b = l.all fun b => decide (b.length ≤ 300)) : Ret Try.prog 35 [.sl 1 (encA bytesC l)] (ao b) := by
  have hl : (encA bytesC l).length = l.length := by rw [encA_len (e := 1) (fun _ => rfl), Nat.mul_one]
  have hat : ∀ i, i < l.length → (encA bytesC l)[i]? = some (.sl 1 (bytesA (l.getD i default))) := fun i hi => by
    have := encA_at (f := bytesC) (e := 1) (fun _ => rfl) (j := 0) hi rfl
    rwa [Nat.mul_one, Nat.add_zero] at this
  refine Ret.of_fn Try.func35 (by kernel_rfl) 16 (by kernel_rfl) (by kernel_rfl) ?_
  skip
  refine AWP.regsK 1 [{  }] (by kernel_rfl) (s' := AS.mk [(2, ao false), (0, AV.sl (1 : Nat) (encA bytesC l))] []) (C := []) (by kernel_rfl) trivial ?_
  refine AWP.seq (by kernel_rfl) ?_
  refine AWP.regsK 1 [{  }] (by kernel_rfl) (s' := AS.mk [(3, ai (0 : Int)), (2, ao false), (0, AV.sl (1 : Nat) (encA bytesC l))] []) (C := []) (by kernel_rfl) trivial ?_
  refine AWP.block (id := 0) (by kernel_rfl) ?_
  refine AWP.loop (fun (i : Nat) => (⟨[(0, AV.sl (1 : Nat) (encA bytesC l)), (3, ai i)], []⟩ : AS)) (fun i => (i ≤ l.length ∧ b = (l.drop i).all fun b => decide (b.length ≤ 300))) (fun i => (l.length - i)) (by kernel_rfl) (0) ?_ (Weaks.of [.keep [0, 3] []] (s1 := AS.mk [(0, AV.sl (1 : Nat) (encA bytesC l)), (3, ai (0 : Int))] []) (by kernel_rfl) rfl) ?_
  · exact ⟨by omega, by simpa using hb⟩
  rintro i ⟨hi, hbi⟩
  skip
  refine AWP.seq (by kernel_rfl) ?_
  refine AWP.regsK 1 [{ hs := [(2, { k := (encA bytesC l).length })] }] (by kernel_rfl) (s' := AS.mk [(7, ao (decide ((↑i : Int) < (↑(encA bytesC l).length : Int)))), (6, ai (↑(encA bytesC l).length : Int)), (5, AV.sl (1 : Nat) (encA bytesC l)), (4, ai (↑i : Int)), (0, AV.sl (1 : Nat) (encA bytesC l)), (3, ai (↑i : Int))] []) (C := [(encA bytesC l).length = (encA bytesC l).length]) (by kernel_rfl) ⟨rfl, trivial⟩ ?_
  refine AWP.condD (x := Operand.tmp (7 : Nat)) (p := (↑i : Int) < (↑(encA bytesC l).length : Int)) (by kernel_rfl) (by kernel_rfl) (fun h3 => ?_) (fun h3 => ?_)
  · have hi' : i < l.length := by omega
    rw [List.drop_eq_getElem_cons hi', List.all_cons] at hbi
    have hg : l.getD i default = l[i] := by simp [hi']
    skip
    refine AWP.skip (by kernel_rfl) ?_
    skip
    refine then_n ?_
    refine AWP.seq (by kernel_rfl) ?_
    refine AWP.block (id := 1) (by kernel_rfl) ?_
    refine AWP.regsK 1 [{ hs := [(2, { k := i }), (3, { av := some (AV.sl (1 : Nat) (bytesA (l.getD i default))) }), (4, { k := (l.getD i default).length })] }] (by kernel_rfl) (s' := AS.mk [(15, ao (decide ((↑(l.getD i default).length : Int) > (300 : Int)))), (14, ai (↑(l.getD i default).length : Int)), (13, AV.sl (1 : Nat) (bytesA (l.getD i default))), (12, AV.ptr (encA bytesC l) i), (11, ai (↑i : Int)), (10, AV.sl (1 : Nat) (encA bytesC l)), (7, ao (decide ((↑i : Int) < (↑(encA bytesC l).length : Int)))), (6, ai (↑(encA bytesC l).length : Int)), (5, AV.sl (1 : Nat) (encA bytesC l)), (4, ai (↑i : Int)), (0, AV.sl (1 : Nat) (encA bytesC l)), (3, ai (↑i : Int))] []) (C := [(↑i : Int) = (↑i : Int), i < (encA bytesC l).length, (encA bytesC l)[i]? = some (AV.sl (1 : Nat) (bytesA (l.getD i default))), (bytesA (l.getD i default)).length = (l.getD i default).length]) (by kernel_rfl) ⟨rfl, (by omega), (hat i (by omega)), (bytesA_len _), trivial⟩ ?_
    refine AWP.condD (x := Operand.tmp (15 : Nat)) (p := (↑(l.getD i default).length : Int) > (300 : Int)) (by kernel_rfl) (by kernel_rfl) (fun h4 => ?_) (fun h4 => ?_)
    · have e : b = false := by rw [hbi, show decide (l[i].length ≤ 300) = false by rw [hg] at h4; simp; omega]; rfl
      skip
      refine AWP.regsK 1 [{  }] (by kernel_rfl) (s' := AS.mk [(2, ao false), (15, ao (decide ((↑(l.getD i default).length : Int) > (300 : Int)))), (14, ai (↑(l.getD i default).length : Int)), (13, AV.sl (1 : Nat) (bytesA (l.getD i default))), (12, AV.ptr (encA bytesC l) i), (11, ai (↑i : Int)), (10, AV.sl (1 : Nat) (encA bytesC l)), (7, ao (decide ((↑i : Int) < (↑(encA bytesC l).length : Int)))), (6, ai (↑(encA bytesC l).length : Int)), (5, AV.sl (1 : Nat) (encA bytesC l)), (4, ai (↑i : Int)), (0, AV.sl (1 : Nat) (encA bytesC l)), (3, ai (↑i : Int))] []) (C := []) (by kernel_rfl) trivial ?_
      refine AWP.wk [.keep [2, 15, 7, 0, 3] []] (s' := AS.mk [(2, ao false), (15, ao (decide ((↑(l.getD i default).length : Int) > (300 : Int)))), (7, ao (decide ((↑i : Int) < (↑(encA bytesC l).length : Int)))), (0, AV.sl (1 : Nat) (encA bytesC l)), (3, ai (↑i : Int))] []) (by kernel_rfl) ?_
      refine AWP.ret (by kernel_rfl) ?_
      skip
      refine inb_r ?_
      refine then_r ?_
      refine round_r ?_
      refine inb_r ?_
      refine then_r ?_
      refine Done.ret_ (C := [Value.bool false = Value.bool b]) (by kernel_rfl) ⟨(by rw [e]), trivial⟩
    · have e : b = (l.drop (i + 1)).all fun b => decide (b.length ≤ 300) := by rw [hbi, show decide (l[i].length ≤ 300) = true by rw [hg] at h4; simp; omega]; rfl
      skip
      refine AWP.skip (by kernel_rfl) ?_
      skip
      refine inb_n ?_
      refine then_n ?_
      refine AWP.reg { hs := [(1, { av := some (ai ((↑i : Int) + (1 : Int))) })] } (s' := AS.mk [(3, ai ((↑i : Int) + (1 : Int))), (9, ai ((↑i : Int) + (1 : Int))), (8, ai (↑i : Int)), (15, ao (decide ((↑(l.getD i default).length : Int) > (300 : Int)))), (14, ai (↑(l.getD i default).length : Int)), (13, AV.sl (1 : Nat) (bytesA (l.getD i default))), (12, AV.ptr (encA bytesC l) i), (11, ai (↑i : Int)), (10, AV.sl (1 : Nat) (encA bytesC l)), (7, ao (decide ((↑i : Int) < (↑(encA bytesC l).length : Int)))), (6, ai (↑(encA bytesC l).length : Int)), (5, AV.sl (1 : Nat) (encA bytesC l)), (4, ai (↑i : Int)), (0, AV.sl (1 : Nat) (encA bytesC l))] []) (C := [ai (IntKind.i64.wrap ((↑i : Int) + (1 : Int))) = ai ((↑i : Int) + (1 : Int))]) (by kernel_rfl) ⟨(av_i64 (by omega) (by omega)), trivial⟩ ?_
      refine round_n (i + 1) ⟨by omega, e⟩ (by omega) (Weaks.of [.keep [0, 3] []] (s1 := AS.mk [(0, AV.sl (1 : Nat) (encA bytesC l)), (3, ai ((↑i : Int) + (1 : Int)))] []) (by kernel_rfl) rfl)
  · have e : b = true := by rw [hbi, List.drop_eq_nil_of_le (by omega)]; rfl
    skip
    refine AWP.exit (id := 0) (by kernel_rfl) ?_
    skip
    refine then_e ?_
    refine round_e ?_
    refine inb_e ?_
    refine then_n ?_
    refine AWP.regsK 1 [{  }] (by kernel_rfl) (s' := AS.mk [(2, ao true), (7, ao (decide ((↑i : Int) < (↑(encA bytesC l).length : Int)))), (6, ai (↑(encA bytesC l).length : Int)), (5, AV.sl (1 : Nat) (encA bytesC l)), (4, ai (↑i : Int)), (0, AV.sl (1 : Nat) (encA bytesC l)), (3, ai (↑i : Int))] []) (C := []) (by kernel_rfl) trivial ?_
    refine AWP.ret (by kernel_rfl) ?_
    refine Done.ret_ (C := [Value.bool true = Value.bool b]) (by kernel_rfl) ⟨(by rw [e]), trivial⟩
theorem short2T_ret (a b : List UInt8) (ha : a.length ≤ 300) (hb : b.length ≤ 300) : Ret Try.prog 35 [.sl 1 [.sl 1 (bytesA a), .sl 1 (bytesA b)]] (ao true) := short_any [a, b] (by simp) true (by simp [ha, hb])
theorem short2F_ret (a b : List UInt8) (h : ¬ (a.length ≤ 300 ∧ b.length ≤ 300)) : Ret Try.prog 35 [.sl 1 [.sl 1 (bytesA a), .sl 1 (bytesA b)]] (ao false) := short_any [a, b] (by simp) false (by simp; omega)
theorem short3T_ret (a b c : List UInt8) (ha : a.length ≤ 300) (hb : b.length ≤ 300) (hc : c.length ≤ 300) : Ret Try.prog 35 [.sl 1 [.sl 1 (bytesA a), .sl 1 (bytesA b), .sl 1 (bytesA c)]] (ao true) := short_any [a, b, c] (by simp) true (by simp [ha, hb, hc])
theorem short3F_ret (a b c : List UInt8) (h : ¬ (a.length ≤ 300 ∧ b.length ≤ 300 ∧ c.length ≤ 300)) : Ret Try.prog 35 [.sl 1 [.sl 1 (bytesA a), .sl 1 (bytesA b), .sl 1 (bytesA c)]] (ao false) := short_any [a, b, c] (by simp) false (by simp; omega)
theorem sealN_ret (key nonce : UInt64) (text : List UInt8) : Ret Try.prog 36 [aw key, aw nonce, .nil, .sl 1 (bytesA text)] (.tup [.own 1 (bytesA (sealD key nonce [] text)), ai (sealE [] text)]) :=
  Ret.nils (seal_ret key nonce [] text) rfl (fun j x y hx hy => by
    match j with
    | 0 => cases hx; cases hy; exact .inl rfl
    | 1 => cases hx; cases hy; exact .inl rfl
    | 2 => cases hx; cases hy; exact .inr ⟨rfl, rfl⟩
    | 3 => cases hx; cases hy; exact .inl rfl
    | j + 4 => simp at hx)
theorem openN_ret (key : UInt64) (box : List UInt8) : Ret Try.prog 39 [aw key, .nil, .sl 1 (bytesA box)] (.tup [.own 1 (bytesA (openD key [] box)), ai (openE key [] box)]) :=
  Ret.nils (open_ret key [] box) rfl (fun j x y hx hy => by
    match j with
    | 0 => cases hx; cases hy; exact .inl rfl
    | 1 => cases hx; cases hy; exact .inr ⟨rfl, rfl⟩
    | 2 => cases hx; cases hy; exact .inl rfl
    | j + 3 => simp at hx)
theorem refopenN_ret (key : UInt64) (box : List UInt8) : Ret Try.prog 41 [aw key, .nil, .sl 1 (bytesA box)] (.tup [.own 1 (bytesA (openD key [] box)), ai (openE key [] box)]) :=
  Ret.nils (refopen_ret key [] box) rfl (fun j x y hx hy => by
    match j with
    | 0 => cases hx; cases hy; exact .inl rfl
    | 1 => cases hx; cases hy; exact .inr ⟨rfl, rfl⟩
    | 2 => cases hx; cases hy; exact .inl rfl
    | j + 3 => simp at hx)
theorem opens6_ret (key : UInt64) (bound box : List UInt8) : Ret Try.prog 38 [aw key, .sl 1 (bytesA bound), .sl 1 (bytesA box)] (ao true) := by
  refine Ret.of_fn Try.func38 (by kernel_rfl) 35 (by kernel_rfl) (by kernel_rfl) ?_
  skip
  refine AWP.regsK 4 [{  }, { hs := [(3, { av := some (AV.tup [AV.own (1 : Nat) (bytesA (openD key bound box)), ai (openE key bound box)]) })] }, { hs := [(3, { av := some (AV.tup [AV.own (1 : Nat) (bytesA (openD key bound box)), ai (openE key bound box)]) })] }, { hs := [(5, { av := some (AV.val (Value.string (ByteArray.mk (openD key bound box).toArray))) }), (7, { av := some (AV.val (Value.string (ByteArray.mk (openD key bound box).toArray))) }), (8, { av := some (ao (openD key bound box == openD key bound box)) })] }] (by kernel_rfl) (s' := AS.mk [(6, ao (openD key bound box == openD key bound box)), (34, ao (openD key bound box == openD key bound box)), (33, ao (openD key bound box == openD key bound box)), (32, AV.val (Value.string (ByteArray.mk (openD key bound box).toArray))), (31, AV.ref (1022 : Nat)), (30, AV.val (Value.string (ByteArray.mk (openD key bound box).toArray))), (29, AV.ref (1015 : Nat)), (28, ao (openE key bound box == openE key bound box)), (27, ao (openE key bound box == openE key bound box)), (26, ai (openE key bound box)), (25, ai (openE key bound box)), (10, ai (openE key bound box)), (9, AV.ref (1022 : Nat)), (24, ai (openE key bound box)), (23, AV.ref (1022 : Nat)), (18, AV.tup [AV.ref (1022 : Nat), ai (openE key bound box)]), (22, AV.tup [AV.ref (1022 : Nat), ai (openE key bound box)]), (21, AV.sl (1 : Nat) (bytesA box)), (20, AV.sl (1 : Nat) (bytesA bound)), (19, aw key), (8, ai (openE key bound box)), (7, AV.ref (1015 : Nat)), (17, ai (openE key bound box)), (16, AV.ref (1015 : Nat)), (11, AV.tup [AV.ref (1015 : Nat), ai (openE key bound box)]), (15, AV.tup [AV.ref (1015 : Nat), ai (openE key bound box)]), (14, AV.sl (1 : Nat) (bytesA box)), (13, AV.sl (1 : Nat) (bytesA bound)), (12, aw key), (0, aw key), (1, AV.sl (1 : Nat) (bytesA bound)), (2, AV.sl (1 : Nat) (bytesA box))] [(1022, Row.mk (1 : Nat) true false (bytesA (openD key bound box))), (1015, Row.mk (1 : Nat) true false (bytesA (openD key bound box)))]) (C := [Ret Try.prog (39 : Nat) [aw key, AV.sl (1 : Nat) (bytesA bound), AV.sl (1 : Nat) (bytesA box)] (AV.tup [AV.own (1 : Nat) (bytesA (openD key bound box)), ai (openE key bound box)]), valR (bytesA (openD key bound box)), Ret Try.prog (41 : Nat) [aw key, AV.sl (1 : Nat) (bytesA bound), AV.sl (1 : Nat) (bytesA box)] (AV.tup [AV.own (1 : Nat) (bytesA (openD key bound box)), ai (openE key bound box)]), valR (bytesA (openD key bound box)), (openE key bound box == openE key bound box) = true, (openE key bound box == openE key bound box) = true, bytesA (openD key bound box) = bytesA (openD key bound box).toArray.toList, (openE key bound box == openE key bound box) = true, (openE key bound box == openE key bound box) = true, bytesA (openD key bound box) = bytesA (openD key bound box).toArray.toList, (openE key bound box == openE key bound box) = true, ao ((ByteArray.mk (openD key bound box).toArray).toList == (ByteArray.mk (openD key bound box).toArray).toList) = ao (openD key bound box == openD key bound box), (openE key bound box == openE key bound box) = true]) (by kernel_rfl) ⟨(open_ret (key) (bound) (box)), (valR_bytes _), (refopen_ret (key) (bound) (box)), (valR_bytes _), (decide_eq_true (by omega)), (decide_eq_true (by omega)), rfl, (decide_eq_true (by omega)), (decide_eq_true (by omega)), rfl, (decide_eq_true (by omega)), (str_eq (openD key bound box) (openD key bound box)), (decide_eq_true (by omega)), trivial⟩ ?_
  refine AWP.wk [.keep [6, 10, 9, 8, 7, 0, 1, 2] [1022, 1015]] (s' := AS.mk [(6, ao (openD key bound box == openD key bound box)), (10, ai (openE key bound box)), (9, AV.ref (1022 : Nat)), (8, ai (openE key bound box)), (7, AV.ref (1015 : Nat)), (0, aw key), (1, AV.sl (1 : Nat) (bytesA bound)), (2, AV.sl (1 : Nat) (bytesA box))] [(1022, Row.mk (1 : Nat) true false (bytesA (openD key bound box))), (1015, Row.mk (1 : Nat) true false (bytesA (openD key bound box)))]) (by kernel_rfl) ?_
  refine AWP.ret (by kernel_rfl) ?_
  refine Done.ret_ (C := [Value.bool (openD key bound box == openD key bound box) = Value.bool true]) (by kernel_rfl) ⟨(by simp only [beq_self_eq_true]), trivial⟩
theorem awake6_ret : Ret Try.prog 34 [] (ao true) := by
  have hE : sealE [] [116, 101, 120, 116] = 0 := by decide
  obtain ⟨h1, h2⟩ := open_seal 1 2 [] [116, 101, 120, 116] hE
  have hl := sealD_len 1 2 [] [116, 101, 120, 116] hE
  have h3 : openE 1 [] ((sealD 1 2 [] [116, 101, 120, 116]).take 15) = 1 := by
    rw [openE, if_pos (by rw [List.length_take]; omega)]
  refine Ret.of_fn Try.func34 (by kernel_rfl) 47 (by kernel_rfl) (by kernel_rfl) ?_
  skip
  refine AWP.regsK 5 [{  }, { hs := [(0, { av := some (AV.arr (bytesA [(116 : UInt8), (101 : UInt8), (120 : UInt8), (116 : UInt8)])) }), (1, { av := some (AV.val (Value.string (ByteArray.mk #[(116 : UInt8), (101 : UInt8), (120 : UInt8), (116 : UInt8)]))) }), (2, { av := some (AV.tup [AV.own (1 : Nat) (bytesA (sealD (1 : UInt64) (2 : UInt64) [] [(116 : UInt8), (101 : UInt8), (120 : UInt8), (116 : UInt8)])), ai (sealE [] [(116 : UInt8), (101 : UInt8), (120 : UInt8), (116 : UInt8)])]) })] }, { hs := [(1, { av := some (AV.tup [AV.own (1 : Nat) (bytesA (openD (1 : UInt64) [] (sealD (1 : UInt64) (2 : UInt64) [] [(116 : UInt8), (101 : UInt8), (120 : UInt8), (116 : UInt8)]))), ai (openE (1 : UInt64) [] (sealD (1 : UInt64) (2 : UInt64) [] [(116 : UInt8), (101 : UInt8), (120 : UInt8), (116 : UInt8)]))]) })] }, { hs := [(2, { k := (sealD (1 : UInt64) (2 : UInt64) [] [(116 : UInt8), (101 : UInt8), (120 : UInt8), (116 : UInt8)]).length }), (4, { m := (if (15 : Int) < (↑(20 : Nat) : Int) then (15 : Int) else (↑(20 : Nat) : Int)).toNat }), (5, { av := some (AV.tup [AV.own (1 : Nat) (bytesA (openD (1 : UInt64) [] (List.take (15 : Nat) (sealD (1 : UInt64) (2 : UInt64) [] [(116 : UInt8), (101 : UInt8), (120 : UInt8), (116 : UInt8)])))), ai (openE (1 : UInt64) [] (List.take (15 : Nat) (sealD (1 : UInt64) (2 : UInt64) [] [(116 : UInt8), (101 : UInt8), (120 : UInt8), (116 : UInt8)])))]) })] }, { hs := [(8, { av := some (AV.val (Value.string (ByteArray.mk (openD (1 : UInt64) [] (sealD (1 : UInt64) (2 : UInt64) [] [(116 : UInt8), (101 : UInt8), (120 : UInt8), (116 : UInt8)])).toArray))) }), (9, { av := some (ao (openD (1 : UInt64) [] (sealD (1 : UInt64) (2 : UInt64) [] [(116 : UInt8), (101 : UInt8), (120 : UInt8), (116 : UInt8)]) == [(116 : UInt8), (101 : UInt8), (120 : UInt8), (116 : UInt8)])) }), (13, { k := (sealD (1 : UInt64) (2 : UInt64) [] [(116 : UInt8), (101 : UInt8), (120 : UInt8), (116 : UInt8)]).length })] }] (by kernel_rfl) (s' := AS.mk [(0, ao (openE (1 : UInt64) [] (List.take (15 : Nat) (sealD (1 : UInt64) (2 : UInt64) [] [(116 : UInt8), (101 : UInt8), (120 : UInt8), (116 : UInt8)])) == (1 : Int))), (46, ao (openE (1 : UInt64) [] (List.take (15 : Nat) (sealD (1 : UInt64) (2 : UInt64) [] [(116 : UInt8), (101 : UInt8), (120 : UInt8), (116 : UInt8)])) == (1 : Int))), (45, ao (openE (1 : UInt64) [] (List.take (15 : Nat) (sealD (1 : UInt64) (2 : UInt64) [] [(116 : UInt8), (101 : UInt8), (120 : UInt8), (116 : UInt8)])) == (1 : Int))), (44, ai (openE (1 : UInt64) [] (List.take (15 : Nat) (sealD (1 : UInt64) (2 : UInt64) [] [(116 : UInt8), (101 : UInt8), (120 : UInt8), (116 : UInt8)])))), (43, ao ((↑(20 : Nat) : Int) == (20 : Int))), (42, ao ((↑(20 : Nat) : Int) == (20 : Int))), (41, ao ((↑(20 : Nat) : Int) == (20 : Int))), (40, ai (↑(20 : Nat) : Int)), (39, AV.ref (1010 : Nat)), (38, ao (openD (1 : UInt64) [] (sealD (1 : UInt64) (2 : UInt64) [] [(116 : UInt8), (101 : UInt8), (120 : UInt8), (116 : UInt8)]) == [(116 : UInt8), (101 : UInt8), (120 : UInt8), (116 : UInt8)])), (37, ao (openD (1 : UInt64) [] (sealD (1 : UInt64) (2 : UInt64) [] [(116 : UInt8), (101 : UInt8), (120 : UInt8), (116 : UInt8)]) == [(116 : UInt8), (101 : UInt8), (120 : UInt8), (116 : UInt8)])), (36, ao (openD (1 : UInt64) [] (sealD (1 : UInt64) (2 : UInt64) [] [(116 : UInt8), (101 : UInt8), (120 : UInt8), (116 : UInt8)]) == [(116 : UInt8), (101 : UInt8), (120 : UInt8), (116 : UInt8)])), (35, AV.val (Value.string (ByteArray.mk (openD (1 : UInt64) [] (sealD (1 : UInt64) (2 : UInt64) [] [(116 : UInt8), (101 : UInt8), (120 : UInt8), (116 : UInt8)])).toArray))), (34, AV.ref (1015 : Nat)), (33, ao (openE (1 : UInt64) [] (sealD (1 : UInt64) (2 : UInt64) [] [(116 : UInt8), (101 : UInt8), (120 : UInt8), (116 : UInt8)]) == (0 : Int))), (32, ao (openE (1 : UInt64) [] (sealD (1 : UInt64) (2 : UInt64) [] [(116 : UInt8), (101 : UInt8), (120 : UInt8), (116 : UInt8)]) == (0 : Int))), (31, ao (openE (1 : UInt64) [] (sealD (1 : UInt64) (2 : UInt64) [] [(116 : UInt8), (101 : UInt8), (120 : UInt8), (116 : UInt8)]) == (0 : Int))), (30, ai (openE (1 : UInt64) [] (sealD (1 : UInt64) (2 : UInt64) [] [(116 : UInt8), (101 : UInt8), (120 : UInt8), (116 : UInt8)]))), (29, ao (sealE [] [(116 : UInt8), (101 : UInt8), (120 : UInt8), (116 : UInt8)] == (0 : Int))), (28, ao (sealE [] [(116 : UInt8), (101 : UInt8), (120 : UInt8), (116 : UInt8)] == (0 : Int))), (27, ai (sealE [] [(116 : UInt8), (101 : UInt8), (120 : UInt8), (116 : UInt8)])), (6, ai (openE (1 : UInt64) [] (List.take (15 : Nat) (sealD (1 : UInt64) (2 : UInt64) [] [(116 : UInt8), (101 : UInt8), (120 : UInt8), (116 : UInt8)])))), (5, AV.ref (1024 : Nat)), (26, ai (openE (1 : UInt64) [] (List.take (15 : Nat) (sealD (1 : UInt64) (2 : UInt64) [] [(116 : UInt8), (101 : UInt8), (120 : UInt8), (116 : UInt8)])))), (25, AV.ref (1024 : Nat)), (18, AV.tup [AV.ref (1024 : Nat), ai (openE (1 : UInt64) [] (List.take (15 : Nat) (sealD (1 : UInt64) (2 : UInt64) [] [(116 : UInt8), (101 : UInt8), (120 : UInt8), (116 : UInt8)])))]), (24, AV.tup [AV.ref (1024 : Nat), ai (openE (1 : UInt64) [] (List.take (15 : Nat) (sealD (1 : UInt64) (2 : UInt64) [] [(116 : UInt8), (101 : UInt8), (120 : UInt8), (116 : UInt8)])))]), (23, AV.pre (1010 : Nat) (15 : Nat)), (22, ai (if (15 : Int) < (↑(20 : Nat) : Int) then (15 : Int) else (↑(20 : Nat) : Int))), (21, ai (↑(20 : Nat) : Int)), (20, AV.ref (1010 : Nat)), (19, AV.ref (1010 : Nat)), (4, ai (openE (1 : UInt64) [] (sealD (1 : UInt64) (2 : UInt64) [] [(116 : UInt8), (101 : UInt8), (120 : UInt8), (116 : UInt8)]))), (3, AV.ref (1015 : Nat)), (17, ai (openE (1 : UInt64) [] (sealD (1 : UInt64) (2 : UInt64) [] [(116 : UInt8), (101 : UInt8), (120 : UInt8), (116 : UInt8)]))), (16, AV.ref (1015 : Nat)), (13, AV.tup [AV.ref (1015 : Nat), ai (openE (1 : UInt64) [] (sealD (1 : UInt64) (2 : UInt64) [] [(116 : UInt8), (101 : UInt8), (120 : UInt8), (116 : UInt8)]))]), (15, AV.tup [AV.ref (1015 : Nat), ai (openE (1 : UInt64) [] (sealD (1 : UInt64) (2 : UInt64) [] [(116 : UInt8), (101 : UInt8), (120 : UInt8), (116 : UInt8)]))]), (14, AV.ref (1010 : Nat)), (2, ai (sealE [] [(116 : UInt8), (101 : UInt8), (120 : UInt8), (116 : UInt8)])), (1, AV.ref (1010 : Nat)), (12, ai (sealE [] [(116 : UInt8), (101 : UInt8), (120 : UInt8), (116 : UInt8)])), (11, AV.ref (1010 : Nat)), (7, AV.tup [AV.ref (1010 : Nat), ai (sealE [] [(116 : UInt8), (101 : UInt8), (120 : UInt8), (116 : UInt8)])]), (10, AV.tup [AV.ref (1010 : Nat), ai (sealE [] [(116 : UInt8), (101 : UInt8), (120 : UInt8), (116 : UInt8)])]), (9, AV.sl (1 : Nat) (bytesA [(116 : UInt8), (101 : UInt8), (120 : UInt8), (116 : UInt8)])), (8, AV.dead)] [(1024, Row.mk (1 : Nat) true false (bytesA (openD (1 : UInt64) [] (List.take (15 : Nat) (sealD (1 : UInt64) (2 : UInt64) [] [(116 : UInt8), (101 : UInt8), (120 : UInt8), (116 : UInt8)]))))), (1015, Row.mk (1 : Nat) true false (bytesA (openD (1 : UInt64) [] (sealD (1 : UInt64) (2 : UInt64) [] [(116 : UInt8), (101 : UInt8), (120 : UInt8), (116 : UInt8)])))), (1010, Row.mk (1 : Nat) true false (bytesA (sealD (1 : UInt64) (2 : UInt64) [] [(116 : UInt8), (101 : UInt8), (120 : UInt8), (116 : UInt8)])))]) (C := [[AV.val (Value.int IntKind.u8 (116 : Int)), AV.val (Value.int IntKind.u8 (101 : Int)), AV.val (Value.int IntKind.u8 (120 : Int)), AV.val (Value.int IntKind.u8 (116 : Int))] = bytesA [(116 : UInt8), (101 : UInt8), (120 : UInt8), (116 : UInt8)], (0 : Nat) < (bytesA [(116 : UInt8), (101 : UInt8), (120 : UInt8), (116 : UInt8)]).length, Ret Try.prog (36 : Nat) [AV.val (Value.int IntKind.u64 (1 : Int)), AV.val (Value.int IntKind.u64 (2 : Int)), AV.nil, AV.sl (1 : Nat) (bytesA [(116 : UInt8), (101 : UInt8), (120 : UInt8), (116 : UInt8)])] (AV.tup [AV.own (1 : Nat) (bytesA (sealD (1 : UInt64) (2 : UInt64) [] [(116 : UInt8), (101 : UInt8), (120 : UInt8), (116 : UInt8)])), ai (sealE [] [(116 : UInt8), (101 : UInt8), (120 : UInt8), (116 : UInt8)])]), valR (bytesA (sealD (1 : UInt64) (2 : UInt64) [] [(116 : UInt8), (101 : UInt8), (120 : UInt8), (116 : UInt8)])), Ret Try.prog (39 : Nat) [AV.val (Value.int IntKind.u64 (1 : Int)), AV.nil, AV.sl (1 : Nat) (bytesA (sealD (1 : UInt64) (2 : UInt64) [] [(116 : UInt8), (101 : UInt8), (120 : UInt8), (116 : UInt8)]))] (AV.tup [AV.own (1 : Nat) (bytesA (openD (1 : UInt64) [] (sealD (1 : UInt64) (2 : UInt64) [] [(116 : UInt8), (101 : UInt8), (120 : UInt8), (116 : UInt8)]))), ai (openE (1 : UInt64) [] (sealD (1 : UInt64) (2 : UInt64) [] [(116 : UInt8), (101 : UInt8), (120 : UInt8), (116 : UInt8)]))]), valR (bytesA (openD (1 : UInt64) [] (sealD (1 : UInt64) (2 : UInt64) [] [(116 : UInt8), (101 : UInt8), (120 : UInt8), (116 : UInt8)]))), (bytesA (sealD (1 : UInt64) (2 : UInt64) [] [(116 : UInt8), (101 : UInt8), (120 : UInt8), (116 : UInt8)])).length = (20 : Nat), (if (15 : Int) < (↑(20 : Nat) : Int) then (15 : Int) else (↑(20 : Nat) : Int)) = (↑(15 : Nat) : Int), (15 : Nat) ≤ (bytesA (sealD (1 : UInt64) (2 : UInt64) [] [(116 : UInt8), (101 : UInt8), (120 : UInt8), (116 : UInt8)])).length, Ret Try.prog (39 : Nat) [AV.val (Value.int IntKind.u64 (1 : Int)), AV.nil, AV.sl (1 : Nat) (List.take (15 : Nat) (bytesA (sealD (1 : UInt64) (2 : UInt64) [] [(116 : UInt8), (101 : UInt8), (120 : UInt8), (116 : UInt8)])))] (AV.tup [AV.own (1 : Nat) (bytesA (openD (1 : UInt64) [] (List.take (15 : Nat) (sealD (1 : UInt64) (2 : UInt64) [] [(116 : UInt8), (101 : UInt8), (120 : UInt8), (116 : UInt8)])))), ai (openE (1 : UInt64) [] (List.take (15 : Nat) (sealD (1 : UInt64) (2 : UInt64) [] [(116 : UInt8), (101 : UInt8), (120 : UInt8), (116 : UInt8)])))]), valR (bytesA (openD (1 : UInt64) [] (List.take (15 : Nat) (sealD (1 : UInt64) (2 : UInt64) [] [(116 : UInt8), (101 : UInt8), (120 : UInt8), (116 : UInt8)])))), (sealE [] [(116 : UInt8), (101 : UInt8), (120 : UInt8), (116 : UInt8)] == (0 : Int)) = true, (sealE [] [(116 : UInt8), (101 : UInt8), (120 : UInt8), (116 : UInt8)] == (0 : Int)) = true, (sealE [] [(116 : UInt8), (101 : UInt8), (120 : UInt8), (116 : UInt8)] == (0 : Int)) = true, (openE (1 : UInt64) [] (sealD (1 : UInt64) (2 : UInt64) [] [(116 : UInt8), (101 : UInt8), (120 : UInt8), (116 : UInt8)]) == (0 : Int)) = true, (openE (1 : UInt64) [] (sealD (1 : UInt64) (2 : UInt64) [] [(116 : UInt8), (101 : UInt8), (120 : UInt8), (116 : UInt8)]) == (0 : Int)) = true, bytesA (openD (1 : UInt64) [] (sealD (1 : UInt64) (2 : UInt64) [] [(116 : UInt8), (101 : UInt8), (120 : UInt8), (116 : UInt8)])) = bytesA (openD (1 : UInt64) [] (sealD (1 : UInt64) (2 : UInt64) [] [(116 : UInt8), (101 : UInt8), (120 : UInt8), (116 : UInt8)])).toArray.toList, (openE (1 : UInt64) [] (sealD (1 : UInt64) (2 : UInt64) [] [(116 : UInt8), (101 : UInt8), (120 : UInt8), (116 : UInt8)]) == (0 : Int)) = true, ao ((ByteArray.mk (openD (1 : UInt64) [] (sealD (1 : UInt64) (2 : UInt64) [] [(116 : UInt8), (101 : UInt8), (120 : UInt8), (116 : UInt8)])).toArray).toList == (ByteArray.mk #[(116 : UInt8), (101 : UInt8), (120 : UInt8), (116 : UInt8)]).toList) = ao (openD (1 : UInt64) [] (sealD (1 : UInt64) (2 : UInt64) [] [(116 : UInt8), (101 : UInt8), (120 : UInt8), (116 : UInt8)]) == [(116 : UInt8), (101 : UInt8), (120 : UInt8), (116 : UInt8)]), (openE (1 : UInt64) [] (sealD (1 : UInt64) (2 : UInt64) [] [(116 : UInt8), (101 : UInt8), (120 : UInt8), (116 : UInt8)]) == (0 : Int)) = true, (openD (1 : UInt64) [] (sealD (1 : UInt64) (2 : UInt64) [] [(116 : UInt8), (101 : UInt8), (120 : UInt8), (116 : UInt8)]) == [(116 : UInt8), (101 : UInt8), (120 : UInt8), (116 : UInt8)]) = true, (openD (1 : UInt64) [] (sealD (1 : UInt64) (2 : UInt64) [] [(116 : UInt8), (101 : UInt8), (120 : UInt8), (116 : UInt8)]) == [(116 : UInt8), (101 : UInt8), (120 : UInt8), (116 : UInt8)]) = true, (bytesA (sealD (1 : UInt64) (2 : UInt64) [] [(116 : UInt8), (101 : UInt8), (120 : UInt8), (116 : UInt8)])).length = (20 : Nat), (openD (1 : UInt64) [] (sealD (1 : UInt64) (2 : UInt64) [] [(116 : UInt8), (101 : UInt8), (120 : UInt8), (116 : UInt8)]) == [(116 : UInt8), (101 : UInt8), (120 : UInt8), (116 : UInt8)]) = true, (openD (1 : UInt64) [] (sealD (1 : UInt64) (2 : UInt64) [] [(116 : UInt8), (101 : UInt8), (120 : UInt8), (116 : UInt8)]) == [(116 : UInt8), (101 : UInt8), (120 : UInt8), (116 : UInt8)]) = true, ((↑(20 : Nat) : Int) == (20 : Int)) = true, ((↑(20 : Nat) : Int) == (20 : Int)) = true, ((↑(20 : Nat) : Int) == (20 : Int)) = true]) (by kernel_rfl) ⟨rfl, (by decide), (sealN_ret ((1 : UInt64)) ((2 : UInt64)) ([(116 : UInt8), (101 : UInt8), (120 : UInt8), (116 : UInt8)])), (valR_bytes _), (openN_ret ((1 : UInt64)) (sealD (1 : UInt64) (2 : UInt64) [] [(116 : UInt8), (101 : UInt8), (120 : UInt8), (116 : UInt8)])), (valR_bytes _), rfl, rfl, (by decide), (by simp only [bytesA_take]; exact (openN_ret ((1 : UInt64)) (List.take (15 : Nat) (sealD (1 : UInt64) (2 : UInt64) [] [(116 : UInt8), (101 : UInt8), (120 : UInt8), (116 : UInt8)])))), (valR_bytes _), (decide_eq_true (by omega)), (decide_eq_true (by omega)), (decide_eq_true (by omega)), (decide_eq_true (by omega)), (decide_eq_true (by omega)), rfl, (decide_eq_true (by omega)), (str_eq (openD (1 : UInt64) [] (sealD (1 : UInt64) (2 : UInt64) [] [(116 : UInt8), (101 : UInt8), (120 : UInt8), (116 : UInt8)])) ([(116 : UInt8), (101 : UInt8), (120 : UInt8), (116 : UInt8)])), (decide_eq_true (by omega)), (by simp_all; done), (by simp_all; done), rfl, (by simp_all; done), (by simp_all; done), (decide_eq_true (by omega)), (decide_eq_true (by omega)), (decide_eq_true (by omega)), trivial⟩ ?_
  refine AWP.wk [.keep [0, 6, 4, 3, 2, 1] [1015, 1010]] (s' := AS.mk [(0, ao (openE (1 : UInt64) [] (List.take (15 : Nat) (sealD (1 : UInt64) (2 : UInt64) [] [(116 : UInt8), (101 : UInt8), (120 : UInt8), (116 : UInt8)])) == (1 : Int))), (6, ai (openE (1 : UInt64) [] (List.take (15 : Nat) (sealD (1 : UInt64) (2 : UInt64) [] [(116 : UInt8), (101 : UInt8), (120 : UInt8), (116 : UInt8)])))), (4, ai (openE (1 : UInt64) [] (sealD (1 : UInt64) (2 : UInt64) [] [(116 : UInt8), (101 : UInt8), (120 : UInt8), (116 : UInt8)]))), (3, AV.ref (1015 : Nat)), (2, ai (sealE [] [(116 : UInt8), (101 : UInt8), (120 : UInt8), (116 : UInt8)])), (1, AV.ref (1010 : Nat))] [(1015, Row.mk (1 : Nat) true false (bytesA (openD (1 : UInt64) [] (sealD (1 : UInt64) (2 : UInt64) [] [(116 : UInt8), (101 : UInt8), (120 : UInt8), (116 : UInt8)])))), (1010, Row.mk (1 : Nat) true false (bytesA (sealD (1 : UInt64) (2 : UInt64) [] [(116 : UInt8), (101 : UInt8), (120 : UInt8), (116 : UInt8)])))]) (by kernel_rfl) ?_
  refine AWP.ret (by kernel_rfl) ?_
  refine Done.ret_ (C := [Value.bool (openE (1 : UInt64) [] (List.take (15 : Nat) (sealD (1 : UInt64) (2 : UInt64) [] [(116 : UInt8), (101 : UInt8), (120 : UInt8), (116 : UInt8)])) == (1 : Int)) = Value.bool true]) (by kernel_rfl) ⟨rfl, trivial⟩
end Go.Proofs.Ytbehdllomepkdaa
