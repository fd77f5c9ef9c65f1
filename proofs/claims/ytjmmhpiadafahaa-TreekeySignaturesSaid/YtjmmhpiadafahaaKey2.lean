/-
  The contracts of treekey.words, DecodeKey and of the reference's DecodeKey. No condition.
-/
import Derived.Test.YtjmmhpiadafahaaKey1
namespace Go.Proofs.Ytjmmhpiadafahaa
open Go.RowKit
set_option maxRecDepth 100000
set_option maxHeartbeats 4000000
set_option linter.unusedVariables false

/-- The words of which bytes consist. -/
def tw (b : List UInt8) : List UInt64 := (List.range (b.length / 8)).map fun i => wordOf ((b.drop (8 * i)).take 8)
/-- The key that bytes contain. -/
def dkBad (b : List UInt8) : Prop := ¬ b.length = 9 ∨ badH (bv (b.getD 0 0))
instance (b : List UInt8) : Decidable (dkBad b) := inferInstanceAs (Decidable (_ ∨ _))
def dkE (b : List UInt8) : Int := if dkBad b then 2 else 0
def dkH (b : List UInt8) : Int := if dkBad b then 0 else bv (b.getD 0 0)
def dkR (b : List UInt8) : UInt64 := if dkBad b then 0 else wordOf (b.drop 1)
theorem dk_bad (b : List UInt8) (h : dkBad b) : dkE b = 2 ∧ dkH b = 0 ∧ dkR b = 0 := ⟨if_pos h, if_pos h, if_pos h⟩
theorem dk_ok (b : List UInt8) (h1 : b.length = 9) (h2 : ¬ badH (bv (b.getD 0 0))) : dkE b = 0 ∧ dkH b = bv (b.getD 0 0) ∧ dkR b = wordOf (b.drop 1) := by
  have h : ¬ dkBad b := by rintro (h | h); exact h h1; exact h2 h
  exact ⟨if_neg h, if_neg h, if_neg h⟩
def rowW (b : List UInt8) (i j : Nat) : List UInt64 := (List.range (b.length / 8)).map fun k => if k < i then wordOf ((b.drop (8 * k)).take 8) else if k = i then wordOf ((b.drop (8 * i)).take j) else 0
theorem rowW_len (b : List UInt8) (i j : Nat) : (rowW b i j).length = b.length / 8 := by simp [rowW]
theorem rowW_zero (b : List UInt8) : rowW b 0 0 = List.replicate (b.length / 8) 0 := by
  apply List.ext_getElem (by simp [rowW])
  intro k h1 h2
  simp only [rowW, List.getElem_map, List.getElem_range, List.getElem_replicate]
  rw [if_neg (by omega)]
  split <;> rfl
theorem rowW_next (b : List UInt8) (i : Nat) : rowW b i 8 = rowW b (i + 1) 0 := by
  unfold rowW
  apply List.map_congr_left
  intro k _
  by_cases h1 : k < i
  · rw [if_pos h1, if_pos (by omega)]
  · rw [if_neg h1]
    by_cases h2 : k = i
    · rw [if_pos h2, if_pos (by omega), h2]
    · rw [if_neg h2, if_neg (by omega)]
      by_cases h3 : k = i + 1
      · rw [if_pos h3]; rfl
      · rw [if_neg h3]
theorem rowW_end (b : List UInt8) : rowW b (b.length / 8) 0 = tw b := by
  unfold rowW tw
  apply List.map_congr_left
  intro k hk
  rw [if_pos (List.mem_range.1 hk)]
theorem rowW_at {b : List UInt8} {i j : Nat} (h : i < b.length / 8) : (rowW b i j).getD i 0 = wordOf ((b.drop (8 * i)).take j) := by
  rw [rowW, List.getD_eq_getElem?_getD]
  simp [h]
theorem rowW_set {b : List UInt8} {i j : Nat} (h : i < b.length / 8) (hj : j < 8) : (rowW b i j).set i (wstep (wordOf ((b.drop (8 * i)).take j)) ((b.drop (8 * i)).getD j 0)) = rowW b i (j + 1) := by
  rw [wordOf_take (by rw [List.length_drop]; omega)]
  apply List.ext_getElem (by simp [rowW])
  intro k h1 h2
  rw [List.getElem_set]
  simp only [rowW, List.getElem_map, List.getElem_range]
  by_cases hk : i = k
  · subst hk; rw [if_pos rfl, if_neg (by omega), if_pos rfl]
  · rw [if_neg hk]
    by_cases h3 : k < i
    · rw [if_pos h3, if_pos h3]
    · rw [if_neg h3, if_neg h3, if_neg (by omega), if_neg (by omega)]
theorem twords_ret (b : List UInt8) (h : b.length ≤ 1000000) : Ret Try.prog 43 [.sl 1 (bytesA b)] (.own 1 (wordsA (tw b))) := by
  refine Ret.of_fn Try.func43 (by kernel_rfl) 42 (by kernel_rfl) (by kernel_rfl) ?_
  refine AWP.regsP 2 [{  }, { hs := [(1, { k := b.length }), (2, { av := some (ai ((↑b.length : Int) / (8 : Int))) }), (3, { av := some (AV.arr (wordsA (List.replicate (b.length / (8 : Nat)) (0 : UInt64)))), k := b.length / (8 : Nat), m := b.length / (8 : Nat) })] }] [.keep [3, 2, 0] [10]] (by kernel_rfl) (s' := AS.mk [(3, AV.ref 10), (2, AV.nil), (0, AV.sl 1 (bytesA b))] [(10, Row.mk 1 true false (wordsA (List.replicate (b.length / (8 : Nat)) (0 : UInt64))))]) (C := [(bytesA b).length = b.length, ai (IntKind.i64.wrap ((↑b.length : Int).tdiv (8 : Int))) = ai ((↑b.length : Int) / (8 : Int)), (8 : Int) ≠ (0 : Int), List.replicate (b.length / (8 : Nat)) (AV.val (Value.int .u64 0)) = wordsA (List.replicate (b.length / (8 : Nat)) (0 : UInt64)), (↑b.length : Int) / (8 : Int) = (↑(b.length / (8 : Nat)) : Int), (↑b.length : Int) / (8 : Int) = (↑(b.length / (8 : Nat)) : Int), b.length / (8 : Nat) ≤ b.length / (8 : Nat), (8 : Nat) * (b.length / (8 : Nat)) ≤ (281474976710656 : Nat), b.length / (8 : Nat) ≤ maxLen]) (by kernel_rfl) ⟨(bytesA_len _), (avi_div (by omega) (by omega) (by omega)), (by omega), (wordsA_rep _), rfl, rfl, (by omega), (by omega), (by unfold maxLen; omega), trivial⟩ ?_
  refine AWP.seq (by kernel_rfl) ?_
  refine AWP.regsK 1 [{ hs := [(1, { k := b.length / (8 : Nat) })] }] (by kernel_rfl) (s' := AS.mk [(13, ai 0), (12, ai (↑(b.length / (8 : Nat)) : Int)), (11, AV.ref 10), (3, AV.ref 10), (2, AV.nil), (0, AV.sl 1 (bytesA b))] [(10, Row.mk 1 true false (wordsA (List.replicate (b.length / (8 : Nat)) (0 : UInt64))))]) (C := [(wordsA (List.replicate (b.length / (8 : Nat)) (0 : UInt64))).length = b.length / (8 : Nat)]) (by kernel_rfl) ⟨(by simp only [wordsA_len, List.length_replicate]), trivial⟩ ?_
  refine AWP.block (id := 0) (by kernel_rfl) ?_
  refine AWP.loop (fun (i : Nat) => (⟨[(12, ai (↑(b.length / (8 : Nat)) : Int)), (3, AV.ref 10), (2, AV.nil), (0, AV.sl 1 (bytesA b)), (13, ai i)], [(10, ⟨1, true, false, wordsA (rowW b i 0)⟩)]⟩ : AS)) (fun i => (i ≤ b.length / 8)) (fun i => (b.length / 8 - i)) (by kernel_rfl) (0) ?_ (Weaks.of [.keep [12, 3, 2, 0, 13] [10]] (s1 := AS.mk [(12, ai (↑(b.length / (8 : Nat)) : Int)), (3, AV.ref 10), (2, AV.nil), (0, AV.sl 1 (bytesA b)), (13, ai 0)] [(10, Row.mk 1 true false (wordsA (List.replicate (b.length / (8 : Nat)) (0 : UInt64))))]) (by kernel_rfl) (as_eq (f_cons rfl (f_cons rfl (f_cons rfl (f_cons rfl (f_cons rfl rfl))))) (h_cons (congrArg wordsA (rowW_zero b).symm) rfl))) ?_
  · omega
  intro i hi
  refine AWP.regsK 1 [{  }] (by kernel_rfl) (s' := AS.mk [(14, ao (decide ((↑i : Int) < (↑(b.length / (8 : Nat)) : Int)))), (12, ai (↑(b.length / (8 : Nat)) : Int)), (3, AV.ref 10), (2, AV.nil), (0, AV.sl 1 (bytesA b)), (13, ai (↑i : Int))] [(10, Row.mk 1 true false (wordsA (rowW b i (0 : Nat))))]) (C := []) (by kernel_rfl) trivial ?_
  refine AWP.seq (by kernel_rfl) ?_
  refine AWP.condD (x := .tmp 14) (p := (↑i : Int) < (↑(b.length / (8 : Nat)) : Int)) (by kernel_rfl) (by kernel_rfl) (fun h1 => ?_) (fun h1 => ?_)
  · have e8 : (b.drop (8 * i)).length ≥ 8 := by rw [List.length_drop]; omega
    have e9 : ((b.drop (8 * i)).take 8).length = 8 := by rw [List.length_take]; omega
    refine AWP.skip (by kernel_rfl) ?_
    refine then_n ?_
    refine AWP.seq (by kernel_rfl) ?_
    refine AWP.block (id := 1) (by kernel_rfl) ?_
    refine AWP.regsP 2 [{  }, { hs := [(2, { av := some (ai ((8 : Int) * (↑i : Int))) }), (4, { av := some (ai ((8 : Int) * (↑i : Int))) }), (5, { av := some (ai ((8 : Int) * (↑i : Int) + (8 : Int))) }), (6, { av := some (AV.sl 1 (bytesA (List.take 8 (List.drop ((8 : Nat) * i) b)))), k := 8 * i, m := 8 * i + (8 : Nat) }), (7, { k := (List.take 8 (List.drop ((8 : Nat) * i) b)).length })] }] [.keep [24, 23, 22, 4, 14, 12, 3, 2, 0, 13] [10]] (by kernel_rfl) (s' := AS.mk [(24, ai 0), (23, ai (↑(List.take 8 (List.drop ((8 : Nat) * i) b)).length : Int)), (22, AV.sl 1 (bytesA (List.take 8 (List.drop ((8 : Nat) * i) b)))), (4, ai (↑i : Int)), (14, ao (decide ((↑i : Int) < (↑(b.length / (8 : Nat)) : Int)))), (12, ai (↑(b.length / (8 : Nat)) : Int)), (3, AV.ref 10), (2, AV.nil), (0, AV.sl 1 (bytesA b)), (13, ai (↑i : Int))] [(10, Row.mk 1 true false (wordsA (rowW b i (0 : Nat))))]) (C := [ai (IntKind.i64.wrap ((8 : Int) * (↑i : Int))) = ai ((8 : Int) * (↑i : Int)), ai (IntKind.i64.wrap ((8 : Int) * (↑i : Int))) = ai ((8 : Int) * (↑i : Int)), ai (IntKind.i64.wrap ((8 : Int) * (↑i : Int) + (8 : Int))) = ai ((8 : Int) * (↑i : Int) + (8 : Int)), AV.sl 1 (List.take ((8 : Nat) * i + (8 : Nat) - (8 : Nat) * i) (List.drop ((8 : Nat) * i) (bytesA b))) = AV.sl 1 (bytesA (List.take 8 (List.drop ((8 : Nat) * i) b))), (8 : Int) * (↑i : Int) = (↑((8 : Nat) * i) : Int), (8 : Int) * (↑i : Int) + (8 : Int) = (↑((8 : Nat) * i + (8 : Nat)) : Int), (8 : Nat) * i ≤ (8 : Nat) * i + (8 : Nat), (8 : Nat) * i + (8 : Nat) ≤ (bytesA b).length, (bytesA (List.take 8 (List.drop ((8 : Nat) * i) b))).length = (List.take 8 (List.drop ((8 : Nat) * i) b)).length]) (by kernel_rfl) ⟨(av_i64 (by omega) (by omega)), (av_i64 (by omega) (by omega)), (av_i64 (by omega) (by omega)), (by rw [show 8 * i + 8 - 8 * i = 8 by omega, bytesA_drop, bytesA_take]), rfl, rfl, (by omega), (by simp only [bytesA_len]; omega), (bytesA_len _), trivial⟩ ?_
    refine AWP.block (id := 2) (by kernel_rfl) ?_
    refine AWP.loop (fun (j : Nat) => (⟨[(23, ai (↑(List.take 8 (List.drop ((8 : Nat) * i) b)).length : Int)), (22, AV.sl 1 (bytesA (List.take 8 (List.drop ((8 : Nat) * i) b)))), (4, ai (↑i : Int)), (14, ao (decide ((↑i : Int) < (↑(b.length / (8 : Nat)) : Int)))), (12, ai (↑(b.length / (8 : Nat)) : Int)), (3, AV.ref 10), (2, AV.nil), (0, AV.sl 1 (bytesA b)), (13, ai (↑i : Int)), (24, ai j)], [(10, ⟨1, true, false, wordsA (rowW b i j)⟩)]⟩ : AS)) (fun j => (j ≤ 8)) (fun j => (8 - j)) (by kernel_rfl) (0) ?_ (Weaks.of [.keep [23, 22, 4, 14, 12, 3, 2, 0, 13, 24] [10]] (s1 := AS.mk [(23, ai (↑(List.take 8 (List.drop ((8 : Nat) * i) b)).length : Int)), (22, AV.sl 1 (bytesA (List.take 8 (List.drop ((8 : Nat) * i) b)))), (4, ai (↑i : Int)), (14, ao (decide ((↑i : Int) < (↑(b.length / (8 : Nat)) : Int)))), (12, ai (↑(b.length / (8 : Nat)) : Int)), (3, AV.ref 10), (2, AV.nil), (0, AV.sl 1 (bytesA b)), (13, ai (↑i : Int)), (24, ai 0)] [(10, Row.mk 1 true false (wordsA (rowW b i (0 : Nat))))]) (by kernel_rfl) rfl) ?_
    · omega
    intro j hj
    refine AWP.regsK 1 [{  }] (by kernel_rfl) (s' := AS.mk [(25, ao (decide ((↑j : Int) < (↑(List.take 8 (List.drop ((8 : Nat) * i) b)).length : Int)))), (23, ai (↑(List.take 8 (List.drop ((8 : Nat) * i) b)).length : Int)), (22, AV.sl 1 (bytesA (List.take 8 (List.drop ((8 : Nat) * i) b)))), (4, ai (↑i : Int)), (14, ao (decide ((↑i : Int) < (↑(b.length / (8 : Nat)) : Int)))), (12, ai (↑(b.length / (8 : Nat)) : Int)), (3, AV.ref 10), (2, AV.nil), (0, AV.sl 1 (bytesA b)), (13, ai (↑i : Int)), (24, ai (↑j : Int))] [(10, Row.mk 1 true false (wordsA (rowW b i j)))]) (C := []) (by kernel_rfl) trivial ?_
    refine AWP.seq (by kernel_rfl) ?_
    refine AWP.condD (x := .tmp 25) (p := (↑j : Int) < (↑(List.take 8 (List.drop ((8 : Nat) * i) b)).length : Int)) (by kernel_rfl) (by kernel_rfl) (fun h2 => ?_) (fun h2 => ?_)
    · have e1 := rowW_at (b := b) (i := i) (j := j) (by omega)
      have e2 := rowW_set (b := b) (i := i) (j := j) (by omega) (by omega)
      have e3 : ((b.drop (8 * i)).take 8).getD j 0 = (b.drop (8 * i)).getD j 0 := by
        rw [List.getD_eq_getElem?_getD, List.getD_eq_getElem?_getD, List.getElem?_take, if_pos (by omega)]
      refine AWP.skip (by kernel_rfl) ?_
      refine then_n ?_
      refine AWP.seq (by kernel_rfl) ?_
      refine AWP.block (id := 3) (by kernel_rfl) ?_
      refine AWP.regsP 1 [{ hs := [(0, { k := j }), (1, { av := some (ab ((List.take 8 (List.drop ((8 : Nat) * i) b)).getD j (0 : UInt8))) })] }] [.keep [6, 25, 23, 22, 4, 14, 12, 3, 2, 0, 13, 24] [10]] (by kernel_rfl) (s' := AS.mk [(6, ab ((List.take 8 (List.drop ((8 : Nat) * i) b)).getD j (0 : UInt8))), (25, ao (decide ((↑j : Int) < (↑(List.take 8 (List.drop ((8 : Nat) * i) b)).length : Int)))), (23, ai (↑(List.take 8 (List.drop ((8 : Nat) * i) b)).length : Int)), (22, AV.sl 1 (bytesA (List.take 8 (List.drop ((8 : Nat) * i) b)))), (4, ai (↑i : Int)), (14, ao (decide ((↑i : Int) < (↑(b.length / (8 : Nat)) : Int)))), (12, ai (↑(b.length / (8 : Nat)) : Int)), (3, AV.ref 10), (2, AV.nil), (0, AV.sl 1 (bytesA b)), (13, ai (↑i : Int)), (24, ai (↑j : Int))] [(10, Row.mk 1 true false (wordsA (rowW b i j)))]) (C := [(↑j : Int) = (↑j : Int), j < (bytesA (List.take 8 (List.drop ((8 : Nat) * i) b))).length, (bytesA (List.take 8 (List.drop ((8 : Nat) * i) b)))[j]? = some (ab ((List.take 8 (List.drop ((8 : Nat) * i) b)).getD j (0 : UInt8)))]) (by kernel_rfl) ⟨rfl, (by simp only [bytesA_len]; omega), (bytesA_at (by omega)), trivial⟩ ?_
      refine AWP.reg { hs := [(4, { k := i }), (5, { av := some (aw ((rowW b i j).getD i (0 : UInt64))) }), (6, { av := some (aw ((rowW b i j).getD i (0 : UInt64) <<< (8 : UInt64))) }), (8, { av := some (aw (((List.take 8 (List.drop ((8 : Nat) * i) b)).getD j (0 : UInt8)).toUInt64)) }), (9, { av := some (aw ((rowW b i j).getD i (0 : UInt64) <<< (8 : UInt64) ||| ((List.take 8 (List.drop ((8 : Nat) * i) b)).getD j (0 : UInt8)).toUInt64)) }), (10, { k := i }), (11, { av := some (AV.arr (wordsA ((rowW b i j).set i ((rowW b i j).getD i (0 : UInt64) <<< (8 : UInt64) ||| ((List.take 8 (List.drop ((8 : Nat) * i) b)).getD j (0 : UInt8)).toUInt64)))) })] } (s' := AS.mk [(38, AV.addr 10 i), (37, aw ((rowW b i j).getD i (0 : UInt64) <<< (8 : UInt64) ||| ((List.take 8 (List.drop ((8 : Nat) * i) b)).getD j (0 : UInt8)).toUInt64)), (36, aw (((List.take 8 (List.drop ((8 : Nat) * i) b)).getD j (0 : UInt8)).toUInt64)), (35, ab ((List.take 8 (List.drop ((8 : Nat) * i) b)).getD j (0 : UInt8))), (34, aw ((rowW b i j).getD i (0 : UInt64) <<< (8 : UInt64))), (33, aw ((rowW b i j).getD i (0 : UInt64))), (32, AV.addr 10 i), (31, ai (↑i : Int)), (30, AV.ref 10), (29, ai (↑i : Int)), (28, AV.ref 10), (6, ab ((List.take 8 (List.drop ((8 : Nat) * i) b)).getD j (0 : UInt8))), (25, ao (decide ((↑j : Int) < (↑(List.take 8 (List.drop ((8 : Nat) * i) b)).length : Int)))), (23, ai (↑(List.take 8 (List.drop ((8 : Nat) * i) b)).length : Int)), (22, AV.sl 1 (bytesA (List.take 8 (List.drop ((8 : Nat) * i) b)))), (4, ai (↑i : Int)), (14, ao (decide ((↑i : Int) < (↑(b.length / (8 : Nat)) : Int)))), (12, ai (↑(b.length / (8 : Nat)) : Int)), (3, AV.ref 10), (2, AV.nil), (0, AV.sl 1 (bytesA b)), (13, ai (↑i : Int)), (24, ai (↑j : Int))] [(10, Row.mk 1 true false (wordsA ((rowW b i j).set i ((rowW b i j).getD i (0 : UInt64) <<< (8 : UInt64) ||| ((List.take 8 (List.drop ((8 : Nat) * i) b)).getD j (0 : UInt8)).toUInt64))))]) (C := [(↑i : Int) = (↑i : Int), i < (wordsA (rowW b i j)).length, (wordsA (rowW b i j))[i]? = some (aw ((rowW b i j).getD i (0 : UInt64))), AV.val (Value.int .u64 (IntKind.u64.wrap (wv ((rowW b i j).getD i (0 : UInt64)) * (2 : Int) ^ min (Int.toNat (8 : Int)) IntKind.u64.bits))) = aw ((rowW b i j).getD i (0 : UInt64) <<< (8 : UInt64)), (0 : Int) ≤ (8 : Int), AV.val (Value.int .u64 (IntKind.u64.wrap (bv ((List.take 8 (List.drop ((8 : Nat) * i) b)).getD j (0 : UInt8))))) = aw (((List.take 8 (List.drop ((8 : Nat) * i) b)).getD j (0 : UInt8)).toUInt64), AV.val (Value.int .u64 (IntKind.u64.wrap (↑(BitVec.ofInt IntKind.u64.bits (wv ((rowW b i j).getD i (0 : UInt64) <<< (8 : UInt64))) ||| BitVec.ofInt IntKind.u64.bits (wv ((List.take 8 (List.drop ((8 : Nat) * i) b)).getD j (0 : UInt8)).toUInt64)).toNat : Int))) = aw ((rowW b i j).getD i (0 : UInt64) <<< (8 : UInt64) ||| ((List.take 8 (List.drop ((8 : Nat) * i) b)).getD j (0 : UInt8)).toUInt64), (↑i : Int) = (↑i : Int), i < (wordsA (rowW b i j)).length, (wordsA (rowW b i j)).set i (aw ((rowW b i j).getD i (0 : UInt64) <<< (8 : UInt64) ||| ((List.take 8 (List.drop ((8 : Nat) * i) b)).getD j (0 : UInt8)).toUInt64)) = wordsA ((rowW b i j).set i ((rowW b i j).getD i (0 : UInt64) <<< (8 : UInt64) ||| ((List.take 8 (List.drop ((8 : Nat) * i) b)).getD j (0 : UInt8)).toUInt64)), i + (1 : Nat) ≤ (wordsA (rowW b i j)).length]) (by kernel_rfl) ⟨rfl, (by simp only [wordsA_len, rowW_len]; omega), (wordsA_at (by simp only [rowW_len]; omega)), (avw_shl ((rowW b i j).getD i (0 : UInt64)) ((8 : Int)) (by omega) (by omega)), (by omega), (avw_bv ((List.take 8 (List.drop ((8 : Nat) * i) b)).getD j (0 : UInt8))), (avw_or ((rowW b i j).getD i (0 : UInt64) <<< (8 : UInt64)) (((List.take 8 (List.drop ((8 : Nat) * i) b)).getD j (0 : UInt8)).toUInt64)), rfl, (by simp only [wordsA_len, rowW_len]; omega), (wordsA_set _ _ _), (by simp only [wordsA_len, rowW_len]; omega), trivial⟩ ?_
      refine inb_n ?_
      refine then_n ?_
      refine AWP.reg { hs := [(0, { av := some (ai ((↑j : Int) + (1 : Int))) })] } (s' := AS.mk [(24, ai ((↑j : Int) + (1 : Int))), (39, ai ((↑j : Int) + (1 : Int))), (38, AV.addr 10 i), (37, aw ((rowW b i j).getD i (0 : UInt64) <<< (8 : UInt64) ||| ((List.take 8 (List.drop ((8 : Nat) * i) b)).getD j (0 : UInt8)).toUInt64)), (36, aw (((List.take 8 (List.drop ((8 : Nat) * i) b)).getD j (0 : UInt8)).toUInt64)), (35, ab ((List.take 8 (List.drop ((8 : Nat) * i) b)).getD j (0 : UInt8))), (34, aw ((rowW b i j).getD i (0 : UInt64) <<< (8 : UInt64))), (33, aw ((rowW b i j).getD i (0 : UInt64))), (32, AV.addr 10 i), (31, ai (↑i : Int)), (30, AV.ref 10), (29, ai (↑i : Int)), (28, AV.ref 10), (6, ab ((List.take 8 (List.drop ((8 : Nat) * i) b)).getD j (0 : UInt8))), (25, ao (decide ((↑j : Int) < (↑(List.take 8 (List.drop ((8 : Nat) * i) b)).length : Int)))), (23, ai (↑(List.take 8 (List.drop ((8 : Nat) * i) b)).length : Int)), (22, AV.sl 1 (bytesA (List.take 8 (List.drop ((8 : Nat) * i) b)))), (4, ai (↑i : Int)), (14, ao (decide ((↑i : Int) < (↑(b.length / (8 : Nat)) : Int)))), (12, ai (↑(b.length / (8 : Nat)) : Int)), (3, AV.ref 10), (2, AV.nil), (0, AV.sl 1 (bytesA b)), (13, ai (↑i : Int))] [(10, Row.mk 1 true false (wordsA ((rowW b i j).set i ((rowW b i j).getD i (0 : UInt64) <<< (8 : UInt64) ||| ((List.take 8 (List.drop ((8 : Nat) * i) b)).getD j (0 : UInt8)).toUInt64))))]) (C := [ai (IntKind.i64.wrap ((↑j : Int) + (1 : Int))) = ai ((↑j : Int) + (1 : Int))]) (by kernel_rfl) ⟨(av_i64 (by omega) (by omega)), trivial⟩ ?_
      refine round_n (j + 1) (by omega) (by omega) (Weaks.of [.keep [23, 22, 4, 14, 12, 3, 2, 0, 13, 24] [10]] (s1 := AS.mk [(23, ai (↑(List.take 8 (List.drop ((8 : Nat) * i) b)).length : Int)), (22, AV.sl 1 (bytesA (List.take 8 (List.drop ((8 : Nat) * i) b)))), (4, ai (↑i : Int)), (14, ao (decide ((↑i : Int) < (↑(b.length / (8 : Nat)) : Int)))), (12, ai (↑(b.length / (8 : Nat)) : Int)), (3, AV.ref 10), (2, AV.nil), (0, AV.sl 1 (bytesA b)), (13, ai (↑i : Int)), (24, ai ((↑j : Int) + (1 : Int)))] [(10, Row.mk 1 true false (wordsA ((rowW b i j).set i ((rowW b i j).getD i (0 : UInt64) <<< (8 : UInt64) ||| ((List.take 8 (List.drop ((8 : Nat) * i) b)).getD j (0 : UInt8)).toUInt64))))]) (by kernel_rfl) (as_eq (f_cons rfl (f_cons rfl (f_cons rfl (f_cons rfl (f_cons rfl (f_cons rfl (f_cons rfl (f_cons rfl (f_cons rfl (f_cons rfl rfl)))))))))) (h_cons (by rw [e1, e3]; exact congrArg wordsA e2) rfl)))
    · have j8 : j = 8 := by omega
      subst j8
      refine AWP.exit (id := 2) (by kernel_rfl) ?_
      refine then_e ?_
      refine round_e ?_
      refine inb_e ?_
      refine inb_n ?_
      refine then_n ?_
      refine AWP.reg { hs := [(0, { av := some (ai ((↑i : Int) + (1 : Int))) })] } (s' := AS.mk [(13, ai ((↑i : Int) + (1 : Int))), (40, ai ((↑i : Int) + (1 : Int))), (25, ao (decide ((↑(8 : Nat) : Int) < (↑(List.take 8 (List.drop ((8 : Nat) * i) b)).length : Int)))), (23, ai (↑(List.take 8 (List.drop ((8 : Nat) * i) b)).length : Int)), (22, AV.sl 1 (bytesA (List.take 8 (List.drop ((8 : Nat) * i) b)))), (4, ai (↑i : Int)), (14, ao (decide ((↑i : Int) < (↑(b.length / (8 : Nat)) : Int)))), (12, ai (↑(b.length / (8 : Nat)) : Int)), (3, AV.ref 10), (2, AV.nil), (0, AV.sl 1 (bytesA b)), (24, ai (↑(8 : Nat) : Int))] [(10, Row.mk 1 true false (wordsA (rowW b i (8 : Nat))))]) (C := [ai (IntKind.i64.wrap ((↑i : Int) + (1 : Int))) = ai ((↑i : Int) + (1 : Int))]) (by kernel_rfl) ⟨(av_i64 (by omega) (by omega)), trivial⟩ ?_
      refine round_n (i + 1) (by omega) (by omega) (Weaks.of [.keep [12, 3, 2, 0, 13] [10]] (s1 := AS.mk [(12, ai (↑(b.length / (8 : Nat)) : Int)), (3, AV.ref 10), (2, AV.nil), (0, AV.sl 1 (bytesA b)), (13, ai ((↑i : Int) + (1 : Int)))] [(10, Row.mk 1 true false (wordsA (rowW b i (8 : Nat))))]) (by kernel_rfl) (as_eq (f_cons rfl (f_cons rfl (f_cons rfl (f_cons rfl (f_cons rfl rfl))))) (h_cons (congrArg wordsA (rowW_next b i)) rfl)))
  · have e : i = b.length / 8 := by omega
    refine AWP.exit (id := 0) (by kernel_rfl) ?_
    refine then_e ?_
    refine round_e ?_
    refine inb_e ?_
    refine then_n ?_
    refine AWP.regsK 1 [{  }] (by kernel_rfl) (s' := AS.mk [(2, AV.ref 10), (41, AV.ref 10), (14, ao (decide ((↑i : Int) < (↑(b.length / (8 : Nat)) : Int)))), (12, ai (↑(b.length / (8 : Nat)) : Int)), (3, AV.ref 10), (0, AV.sl 1 (bytesA b)), (13, ai (↑i : Int))] [(10, Row.mk 1 true false (wordsA (rowW b i (0 : Nat))))]) (C := []) (by kernel_rfl) trivial ?_
    refine AWP.ret (by kernel_rfl) ?_
    refine Done.ret_ (C := [wordsA (rowW b i (0 : Nat)) = wordsA (tw b)]) (by kernel_rfl) ⟨(by rw [e, rowW_end]), trivial⟩
end Go.Proofs.Ytjmmhpiadafahaa
