/-
  The contract of slices.Concat (bytes). Condition: Concat of at most 2^46 bytes.
-/
import Derived.Test.YtmmnkloadooobaaRX
import Derived.Test.YtmmnkloadooobaaRH
import Derived.Test.YtmmnkloadooobaaDR
import Derived.Test.YtmmnkloadooobaaGrow
namespace Go.Proofs.Ytmmnkloadooobaa
open Go.RowKit
set_option maxRecDepth 100000
set_option maxHeartbeats 4000000
set_option linter.unusedVariables false

def bytesC (b : List UInt8) : List AV := [.sl 1 (bytesA b)]
def lensum (l : List (List UInt8)) : Nat := (l.map List.length).foldr (· + ·) 0
theorem lensum_take (l : List (List UInt8)) (i : Nat) (h : i < l.length) : lensum (l.take (i + 1)) = lensum (l.take i) + (l.getD i default).length := by
  induction l generalizing i with
  | nil => simp at h
  | cons a l ih =>
    cases i with
    | zero => simp [lensum]
    | succ i =>
      have := ih i (by simpa using h)
      simp [lensum] at this ⊢
      omega
theorem lensum_le (l : List (List UInt8)) (i : Nat) : lensum (l.take i) ≤ lensum l := by
  induction l generalizing i with
  | nil => simp [lensum]
  | cons a l ih =>
    cases i with
    | zero => simp [lensum]
    | succ i => have := ih i; simp [lensum] at this ⊢; omega
theorem flat_take (l : List (List UInt8)) (i : Nat) (h : i < l.length) : (l.take i).flatten ++ l.getD i default = (l.take (i + 1)).flatten := by
  rw [List.take_add_one, List.flatten_append]
  simp [h]
theorem flat_len (l : List (List UInt8)) : l.flatten.length = lensum l := by
  induction l with
  | nil => rfl
  | cons a l ih => simp [lensum, ih]
theorem concat_ret (l : List (List UInt8)) (h : lensum l ≤ 70368744177664) (h2 : l.length ≤ 1000) : Ret Try.prog 40 [.sl 1 (encA bytesC l)] (.own 1 (bytesA l.flatten)) := by
  have hl : (encA bytesC l).length = l.length := by rw [encA_len (e := 1) (fun _ => rfl), Nat.mul_one]
  have hat : ∀ i, i < l.length → (encA bytesC l)[i]? = some (.sl 1 (bytesA (l.getD i default))) := fun i hi => by
    have := encA_at (f := bytesC) (e := 1) (fun _ => rfl) (j := 0) hi rfl
    rwa [Nat.mul_one, Nat.add_zero] at this
  have ht : l.take l.length = l := List.take_of_length_le (Nat.le_refl _)
  refine Ret.of_fn Try.func40 (by kernel_rfl) 36 (by kernel_rfl) (by kernel_rfl) ?_
  skip
  refine AWP.regsK 2 [{  }, {  }] (by kernel_rfl) (s' := AS.mk [(3, ai (0 : Int)), (2, AV.nil), (0, AV.sl (1 : Nat) (encA bytesC l))] []) (C := []) (by kernel_rfl) trivial ?_
  refine AWP.seq (by kernel_rfl) ?_
  refine AWP.regsK 1 [{ hs := [(1, { k := (encA bytesC l).length })] }] (by kernel_rfl) (s' := AS.mk [(11, ai (0 : Int)), (10, ai (↑(encA bytesC l).length : Int)), (9, AV.sl (1 : Nat) (encA bytesC l)), (3, ai (0 : Int)), (2, AV.nil), (0, AV.sl (1 : Nat) (encA bytesC l))] []) (C := [(encA bytesC l).length = (encA bytesC l).length]) (by kernel_rfl) ⟨rfl, trivial⟩ ?_
  refine AWP.block (id := 0) (by kernel_rfl) ?_
  refine AWP.loop (fun (i : Nat) => (⟨[(10, ai (↑(encA bytesC l).length : Int)), (9, AV.sl (1 : Nat) (encA bytesC l)), (2, AV.nil), (0, AV.sl (1 : Nat) (encA bytesC l)), (11, ai i), (3, ai (lensum (l.take i)))], []⟩ : AS)) (fun i => (i ≤ l.length)) (fun i => (l.length - i)) (by kernel_rfl) (0) ?_ (Weaks.of [.keep [10, 9, 2, 0, 11, 3] []] (s1 := AS.mk [(10, ai (↑(encA bytesC l).length : Int)), (9, AV.sl (1 : Nat) (encA bytesC l)), (2, AV.nil), (0, AV.sl (1 : Nat) (encA bytesC l)), (11, ai (0 : Int)), (3, ai (0 : Int))] []) (by kernel_rfl) rfl) ?_
  · omega
  intro i hi
  have hle := lensum_le l i
  have hle1 := lensum_le l (i + 1)
  skip
  refine AWP.regsK 1 [{  }] (by kernel_rfl) (s' := AS.mk [(12, ao (decide ((↑i : Int) < (↑(encA bytesC l).length : Int)))), (10, ai (↑(encA bytesC l).length : Int)), (9, AV.sl (1 : Nat) (encA bytesC l)), (2, AV.nil), (0, AV.sl (1 : Nat) (encA bytesC l)), (11, ai (↑i : Int)), (3, ai (↑(lensum (List.take i l)) : Int))] []) (C := []) (by kernel_rfl) trivial ?_
  refine AWP.seq (by kernel_rfl) ?_
  refine AWP.condD (x := Operand.tmp (12 : Nat)) (p := (↑i : Int) < (↑(encA bytesC l).length : Int)) (by kernel_rfl) (by kernel_rfl) (fun h3 => ?_) (fun h3 => ?_)
  · have hi' : i < l.length := by omega
    have h4 := lensum_take l i hi'
    skip
    refine AWP.skip (by kernel_rfl) ?_
    skip
    refine then_n ?_
    refine AWP.seq (by kernel_rfl) ?_
    refine AWP.block (id := 1) (by kernel_rfl) ?_
    refine AWP.regsK 3 [{ hs := [(0, { k := i }), (1, { av := some (AV.sl (1 : Nat) (bytesA (l.getD i default))) })] }, { hs := [(2, { k := (l.getD i default).length }), (3, { av := some (ai ((↑(lensum (List.take i l)) : Int) + (↑(l.getD i default).length : Int))) })] }, {  }] (by kernel_rfl) (s' := AS.mk [(20, ao (decide ((↑(lensum (List.take i l)) : Int) + (↑(l.getD i default).length : Int) < (0 : Int)))), (19, ai ((↑(lensum (List.take i l)) : Int) + (↑(l.getD i default).length : Int))), (3, ai ((↑(lensum (List.take i l)) : Int) + (↑(l.getD i default).length : Int))), (18, ai ((↑(lensum (List.take i l)) : Int) + (↑(l.getD i default).length : Int))), (17, ai (↑(l.getD i default).length : Int)), (16, AV.sl (1 : Nat) (bytesA (l.getD i default))), (15, ai (↑(lensum (List.take i l)) : Int)), (5, AV.sl (1 : Nat) (bytesA (l.getD i default))), (14, AV.sl (1 : Nat) (bytesA (l.getD i default))), (13, AV.ptr (encA bytesC l) i), (12, ao (decide ((↑i : Int) < (↑(encA bytesC l).length : Int)))), (10, ai (↑(encA bytesC l).length : Int)), (9, AV.sl (1 : Nat) (encA bytesC l)), (2, AV.nil), (0, AV.sl (1 : Nat) (encA bytesC l)), (11, ai (↑i : Int))] []) (C := [(↑i : Int) = (↑i : Int), i < (encA bytesC l).length, (encA bytesC l)[i]? = some (AV.sl (1 : Nat) (bytesA (l.getD i default))), (bytesA (l.getD i default)).length = (l.getD i default).length, ai (IntKind.i64.wrap ((↑(lensum (List.take i l)) : Int) + (↑(l.getD i default).length : Int))) = ai ((↑(lensum (List.take i l)) : Int) + (↑(l.getD i default).length : Int))]) (by kernel_rfl) ⟨rfl, (by omega), (hat i (by omega)), (bytesA_len _), (av_i64 (by omega) (by omega)), trivial⟩ ?_
    refine AWP.wk [.keep [20, 3, 5, 12, 10, 9, 2, 0, 11] []] (s' := AS.mk [(20, ao (decide ((↑(lensum (List.take i l)) : Int) + (↑(l.getD i default).length : Int) < (0 : Int)))), (3, ai ((↑(lensum (List.take i l)) : Int) + (↑(l.getD i default).length : Int))), (5, AV.sl (1 : Nat) (bytesA (l.getD i default))), (12, ao (decide ((↑i : Int) < (↑(encA bytesC l).length : Int)))), (10, ai (↑(encA bytesC l).length : Int)), (9, AV.sl (1 : Nat) (encA bytesC l)), (2, AV.nil), (0, AV.sl (1 : Nat) (encA bytesC l)), (11, ai (↑i : Int))] []) (by kernel_rfl) ?_
    refine AWP.condF (x := Operand.tmp (20 : Nat)) (b := decide ((↑(lensum (List.take i l)) : Int) + (↑(l.getD i default).length : Int) < (0 : Int))) (by kernel_rfl) (by kernel_rfl) (decide_eq_false (by omega)) ?_
    refine AWP.skip (by kernel_rfl) ?_
    skip
    refine inb_n ?_
    refine then_n ?_
    refine AWP.reg { hs := [(0, { av := some (ai ((↑i : Int) + (1 : Int))) })] } (s' := AS.mk [(11, ai ((↑i : Int) + (1 : Int))), (22, ai ((↑i : Int) + (1 : Int))), (20, ao (decide ((↑(lensum (List.take i l)) : Int) + (↑(l.getD i default).length : Int) < (0 : Int)))), (3, ai ((↑(lensum (List.take i l)) : Int) + (↑(l.getD i default).length : Int))), (5, AV.sl (1 : Nat) (bytesA (l.getD i default))), (12, ao (decide ((↑i : Int) < (↑(encA bytesC l).length : Int)))), (10, ai (↑(encA bytesC l).length : Int)), (9, AV.sl (1 : Nat) (encA bytesC l)), (2, AV.nil), (0, AV.sl (1 : Nat) (encA bytesC l))] []) (C := [ai (IntKind.i64.wrap ((↑i : Int) + (1 : Int))) = ai ((↑i : Int) + (1 : Int))]) (by kernel_rfl) ⟨(av_i64 (by omega) (by omega)), trivial⟩ ?_
    refine round_n (i + 1) (by assumption) (by omega) (Weaks.of [.keep [10, 9, 2, 0, 11, 3] []] (s1 := AS.mk [(10, ai (↑(encA bytesC l).length : Int)), (9, AV.sl (1 : Nat) (encA bytesC l)), (2, AV.nil), (0, AV.sl (1 : Nat) (encA bytesC l)), (11, ai ((↑i : Int) + (1 : Int))), (3, ai ((↑(lensum (List.take i l)) : Int) + (↑(l.getD i default).length : Int)))] []) (by kernel_rfl) (as_eq (f_cons rfl (f_cons rfl (f_cons rfl (f_cons rfl (f_cons (congrArg (fun n => AV.val (.int .i64 n)) (by omega)) (f_cons (congrArg (fun n => AV.val (.int .i64 n)) (by omega)) rfl)))))) rfl))
  · have e : i = l.length := by omega
    subst e
    rw [ht]
    skip
    refine AWP.exit (id := 0) (by kernel_rfl) ?_
    skip
    refine then_e ?_
    refine round_e ?_
    refine inb_e ?_
    refine then_n ?_
    refine AWP.regsK 1 [{ hs := [(1, { av := some (AV.own (1 : Nat) (bytesA [])) })] }] (by kernel_rfl) (s' := AS.mk [(6, AV.ref (24 : Nat)), (24, AV.ref (24 : Nat)), (23, ai (↑(lensum l) : Int)), (12, ao (decide ((↑l.length : Int) < (↑(encA bytesC l).length : Int)))), (10, ai (↑(encA bytesC l).length : Int)), (9, AV.sl (1 : Nat) (encA bytesC l)), (2, AV.nil), (0, AV.sl (1 : Nat) (encA bytesC l)), (11, ai (↑l.length : Int)), (3, ai (↑(lensum l) : Int))] [(24, Row.mk (1 : Nat) true false (bytesA []))]) (C := [Ret Try.prog (56 : Nat) [AV.nil, ai (↑(lensum l) : Int)] (AV.own (1 : Nat) (bytesA [])), valR (bytesA [])]) (by kernel_rfl) ⟨(grow_ret (lensum l) (by assumption)), (valR_bytes _), trivial⟩ ?_
    refine AWP.seq (by kernel_rfl) ?_
    refine AWP.regsK 1 [{ hs := [(1, { k := (encA bytesC l).length })] }] (by kernel_rfl) (s' := AS.mk [(27, ai (0 : Int)), (26, ai (↑(encA bytesC l).length : Int)), (25, AV.sl (1 : Nat) (encA bytesC l)), (6, AV.ref (24 : Nat)), (24, AV.ref (24 : Nat)), (23, ai (↑(lensum l) : Int)), (12, ao (decide ((↑l.length : Int) < (↑(encA bytesC l).length : Int)))), (10, ai (↑(encA bytesC l).length : Int)), (9, AV.sl (1 : Nat) (encA bytesC l)), (2, AV.nil), (0, AV.sl (1 : Nat) (encA bytesC l)), (11, ai (↑l.length : Int)), (3, ai (↑(lensum l) : Int))] [(24, Row.mk (1 : Nat) true false (bytesA []))]) (C := [(encA bytesC l).length = (encA bytesC l).length]) (by kernel_rfl) ⟨rfl, trivial⟩ ?_
    refine AWP.block (id := 2) (by kernel_rfl) ?_
    refine AWP.loop (fun (i : Nat) => (⟨[(26, ai (↑(encA bytesC l).length : Int)), (25, AV.sl (1 : Nat) (encA bytesC l)), (12, ao (decide ((↑l.length : Int) < (↑(encA bytesC l).length : Int)))), (10, ai (↑(encA bytesC l).length : Int)), (9, AV.sl (1 : Nat) (encA bytesC l)), (2, AV.nil), (0, AV.sl (1 : Nat) (encA bytesC l)), (11, ai (↑l.length : Int)), (3, ai (↑(lensum l) : Int)), (27, ai i), (6, AV.ref 33)], [(33, ⟨1, true, false, bytesA (l.take i).flatten⟩)]⟩ : AS)) (fun i => (i ≤ l.length)) (fun i => (l.length - i)) (by kernel_rfl) (0) ?_ (Weaks.of [.ren 24 33, .keep [26, 25, 12, 10, 9, 2, 0, 11, 3, 27, 6] [33]] (s1 := AS.mk [(26, ai (↑(encA bytesC l).length : Int)), (25, AV.sl (1 : Nat) (encA bytesC l)), (12, ao (decide ((↑l.length : Int) < (↑(encA bytesC l).length : Int)))), (10, ai (↑(encA bytesC l).length : Int)), (9, AV.sl (1 : Nat) (encA bytesC l)), (2, AV.nil), (0, AV.sl (1 : Nat) (encA bytesC l)), (11, ai (↑l.length : Int)), (3, ai (↑(lensum l) : Int)), (27, ai (0 : Int)), (6, AV.ref (33 : Nat))] [(33, Row.mk (1 : Nat) true false (bytesA []))]) (by kernel_rfl) rfl) ?_
    · omega
    intro i hi
    have hle := lensum_le l i
    have hle1 := lensum_le l (i + 1)
    have hfl := flat_len (l.take i)
    skip
    refine AWP.regsK 1 [{  }] (by kernel_rfl) (s' := AS.mk [(28, ao (decide ((↑i : Int) < (↑(encA bytesC l).length : Int)))), (26, ai (↑(encA bytesC l).length : Int)), (25, AV.sl (1 : Nat) (encA bytesC l)), (12, ao (decide ((↑l.length : Int) < (↑(encA bytesC l).length : Int)))), (10, ai (↑(encA bytesC l).length : Int)), (9, AV.sl (1 : Nat) (encA bytesC l)), (2, AV.nil), (0, AV.sl (1 : Nat) (encA bytesC l)), (11, ai (↑l.length : Int)), (3, ai (↑(lensum l) : Int)), (27, ai (↑i : Int)), (6, AV.ref (33 : Nat))] [(33, Row.mk (1 : Nat) true false (bytesA (List.take i l).flatten))]) (C := []) (by kernel_rfl) trivial ?_
    refine AWP.seq (by kernel_rfl) ?_
    refine AWP.condD (x := Operand.tmp (28 : Nat)) (p := (↑i : Int) < (↑(encA bytesC l).length : Int)) (by kernel_rfl) (by kernel_rfl) (fun h3 => ?_) (fun h3 => ?_)
    · have hi' : i < l.length := by omega
      have h4 := lensum_take l i hi'
      have h5 := flat_take l i hi'
      skip
      refine AWP.skip (by kernel_rfl) ?_
      skip
      refine then_n ?_
      refine AWP.seq (by kernel_rfl) ?_
      refine AWP.block (id := 3) (by kernel_rfl) ?_
      refine AWP.regsK 1 [{ hs := [(0, { k := i }), (1, { av := some (AV.sl (1 : Nat) (bytesA (l.getD i default))) })] }] (by kernel_rfl) (s' := AS.mk [(8, AV.sl (1 : Nat) (bytesA (l.getD i default))), (30, AV.sl (1 : Nat) (bytesA (l.getD i default))), (29, AV.ptr (encA bytesC l) i), (28, ao (decide ((↑i : Int) < (↑(encA bytesC l).length : Int)))), (26, ai (↑(encA bytesC l).length : Int)), (25, AV.sl (1 : Nat) (encA bytesC l)), (12, ao (decide ((↑l.length : Int) < (↑(encA bytesC l).length : Int)))), (10, ai (↑(encA bytesC l).length : Int)), (9, AV.sl (1 : Nat) (encA bytesC l)), (2, AV.nil), (0, AV.sl (1 : Nat) (encA bytesC l)), (11, ai (↑l.length : Int)), (3, ai (↑(lensum l) : Int)), (27, ai (↑i : Int)), (6, AV.ref (33 : Nat))] [(33, Row.mk (1 : Nat) true false (bytesA (List.take i l).flatten))]) (C := [(↑i : Int) = (↑i : Int), i < (encA bytesC l).length, (encA bytesC l)[i]? = some (AV.sl (1 : Nat) (bytesA (l.getD i default)))]) (by kernel_rfl) ⟨rfl, (by omega), (hat i (by omega)), trivial⟩ ?_
      refine AWP.reg { hs := [(2, { av := some (AV.arr (bytesA ((List.take i l).flatten ++ l.getD i default))), b := false })] } (s' := AS.mk [(6, AV.ref (33 : Nat)), (33, AV.ref (33 : Nat)), (32, AV.sl (1 : Nat) (bytesA (l.getD i default))), (31, AV.dead), (8, AV.sl (1 : Nat) (bytesA (l.getD i default))), (30, AV.sl (1 : Nat) (bytesA (l.getD i default))), (29, AV.ptr (encA bytesC l) i), (28, ao (decide ((↑i : Int) < (↑(encA bytesC l).length : Int)))), (26, ai (↑(encA bytesC l).length : Int)), (25, AV.sl (1 : Nat) (encA bytesC l)), (12, ao (decide ((↑l.length : Int) < (↑(encA bytesC l).length : Int)))), (10, ai (↑(encA bytesC l).length : Int)), (9, AV.sl (1 : Nat) (encA bytesC l)), (2, AV.nil), (0, AV.sl (1 : Nat) (encA bytesC l)), (11, ai (↑l.length : Int)), (3, ai (↑(lensum l) : Int)), (27, ai (↑i : Int))] [(33, Row.mk (1 : Nat) true false (bytesA ((List.take i l).flatten ++ l.getD i default)))]) (C := [bytesA (List.take i l).flatten ++ bytesA (l.getD i default) = bytesA ((List.take i l).flatten ++ l.getD i default), plainR (bytesA (l.getD i default)), ((bytesA (List.take i l).flatten).length + (bytesA (l.getD i default)).length) * (1 : Nat) ≤ (140737488355328 : Nat)]) (by kernel_rfl) ⟨(bytesA_app _ _), (plainR_bytes _), (by simp only [bytesA_len]; omega), trivial⟩ ?_
      skip
      refine inb_n ?_
      refine then_n ?_
      refine AWP.reg { hs := [(0, { av := some (ai ((↑i : Int) + (1 : Int))) })] } (s' := AS.mk [(27, ai ((↑i : Int) + (1 : Int))), (34, ai ((↑i : Int) + (1 : Int))), (6, AV.ref (33 : Nat)), (33, AV.ref (33 : Nat)), (32, AV.sl (1 : Nat) (bytesA (l.getD i default))), (31, AV.dead), (8, AV.sl (1 : Nat) (bytesA (l.getD i default))), (30, AV.sl (1 : Nat) (bytesA (l.getD i default))), (29, AV.ptr (encA bytesC l) i), (28, ao (decide ((↑i : Int) < (↑(encA bytesC l).length : Int)))), (26, ai (↑(encA bytesC l).length : Int)), (25, AV.sl (1 : Nat) (encA bytesC l)), (12, ao (decide ((↑l.length : Int) < (↑(encA bytesC l).length : Int)))), (10, ai (↑(encA bytesC l).length : Int)), (9, AV.sl (1 : Nat) (encA bytesC l)), (2, AV.nil), (0, AV.sl (1 : Nat) (encA bytesC l)), (11, ai (↑l.length : Int)), (3, ai (↑(lensum l) : Int))] [(33, Row.mk (1 : Nat) true false (bytesA ((List.take i l).flatten ++ l.getD i default)))]) (C := [ai (IntKind.i64.wrap ((↑i : Int) + (1 : Int))) = ai ((↑i : Int) + (1 : Int))]) (by kernel_rfl) ⟨(av_i64 (by omega) (by omega)), trivial⟩ ?_
      refine round_n (i + 1) (by assumption) (by omega) (Weaks.of [.keep [26, 25, 12, 10, 9, 2, 0, 11, 3, 27, 6] [33]] (s1 := AS.mk [(26, ai (↑(encA bytesC l).length : Int)), (25, AV.sl (1 : Nat) (encA bytesC l)), (12, ao (decide ((↑l.length : Int) < (↑(encA bytesC l).length : Int)))), (10, ai (↑(encA bytesC l).length : Int)), (9, AV.sl (1 : Nat) (encA bytesC l)), (2, AV.nil), (0, AV.sl (1 : Nat) (encA bytesC l)), (11, ai (↑l.length : Int)), (3, ai (↑(lensum l) : Int)), (27, ai ((↑i : Int) + (1 : Int))), (6, AV.ref (33 : Nat))] [(33, Row.mk (1 : Nat) true false (bytesA ((List.take i l).flatten ++ l.getD i default)))]) (by kernel_rfl) (as_eq (f_cons rfl (f_cons rfl (f_cons rfl (f_cons rfl (f_cons rfl (f_cons rfl (f_cons rfl (f_cons rfl (f_cons rfl (f_cons rfl (f_cons rfl rfl))))))))))) (h_cons (congrArg bytesA h5) rfl)))
    · have e : i = l.length := by omega
      subst e
      skip
      refine AWP.exit (id := 2) (by kernel_rfl) ?_
      skip
      refine then_e ?_
      refine round_e ?_
      refine inb_e ?_
      refine then_n ?_
      refine AWP.regsK 1 [{  }] (by kernel_rfl) (s' := AS.mk [(2, AV.ref (33 : Nat)), (35, AV.ref (33 : Nat)), (28, ao (decide ((↑l.length : Int) < (↑(encA bytesC l).length : Int)))), (26, ai (↑(encA bytesC l).length : Int)), (25, AV.sl (1 : Nat) (encA bytesC l)), (12, ao (decide ((↑l.length : Int) < (↑(encA bytesC l).length : Int)))), (10, ai (↑(encA bytesC l).length : Int)), (9, AV.sl (1 : Nat) (encA bytesC l)), (0, AV.sl (1 : Nat) (encA bytesC l)), (11, ai (↑l.length : Int)), (3, ai (↑(lensum l) : Int)), (27, ai (↑l.length : Int)), (6, AV.ref (33 : Nat))] [(33, Row.mk (1 : Nat) true false (bytesA (List.take l.length l).flatten))]) (C := []) (by kernel_rfl) trivial ?_
      refine AWP.ret (by kernel_rfl) ?_
      refine Done.ret_ (C := [bytesA (List.take l.length l).flatten = bytesA l.flatten]) (by kernel_rfl) ⟨(by rw [ht]), trivial⟩
theorem u64_succ (k : Int) : u64 k + 1 = u64 (k + 1) := by
  unfold u64; rw [UInt64.ofInt_add]; rfl
theorem smix_get {A B : List UInt8} {j : Nat} (ha : j < A.length) : (A.take j ++ B.drop j).getD j 0 = B.getD j 0 := by
  rw [List.getD_eq_getElem?_getD, List.getElem?_append_right (by rw [List.length_take]; omega), List.length_take, Nat.min_eq_left (by omega), Nat.sub_self, List.getElem?_drop, Nat.add_zero, List.getD_eq_getElem?_getD]
theorem smix_set {A B : List UInt8} {j : Nat} (c : UInt8) (ha : j < A.length) (hb : j < B.length) (hc : c = A.getD j 0) : (A.take j ++ B.drop j).set j c = A.take (j + 1) ++ B.drop (j + 1) := by
  rw [List.set_append_right _ _ (by rw [List.length_take]; omega), List.length_take, Nat.min_eq_left (by omega), Nat.sub_self, List.drop_eq_getElem_cons hb, List.set_cons_zero, List.take_add_one, hc, List.getD_eq_getElem?_getD, List.getElem?_eq_getElem ha, Option.getD_some, List.append_assoc]
  rfl
theorem map_range_getD {α : Type} (g : Nat → α) (d : α) {j n : Nat} (h : j < n) : ((List.range n).map g).getD j d = g j := by
  rw [List.getD_eq_getElem?_getD, List.getElem?_map, List.getElem?_range h]; rfl
theorem concat3_ret (a b c : List UInt8) (h : a.length + b.length + c.length ≤ 1000000) : Ret Try.prog 40 [.sl 1 [.sl 1 (bytesA a), .sl 1 (bytesA b), .sl 1 (bytesA c)]] (.own 1 (bytesA (a ++ (b ++ c)))) := by
  have := concat_ret [a, b, c] (by simp [lensum]; omega) (by simp)
  rw [show [a, b, c].flatten = a ++ (b ++ c) by simp] at this
  exact this
end Go.Proofs.Ytmmnkloadooobaa
