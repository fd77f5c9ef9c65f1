/-
  The contracts of sharing.check, At, Join. No condition.
-/
import Derived.Test.YtbehdllomepkdaaSh3
namespace Go.Proofs.Ytbehdllomepkdaa
open Go.RowKit
set_option maxRecDepth 100000
set_option maxHeartbeats 4000000
set_option linter.unusedVariables false

abbrev Sh := Int × List UInt8
/-- The first error of shares. -/
def chk (first : Nat) : List Bool → List Sh → Int
  | _, [] => 0
  | seen, p :: l => if p.1 < 1 ∨ 255 < p.1 then 9 else if seen.getD p.1.toNat false then 10 else if p.2.length ≠ first then 4 else if 64 < p.2.length then 8 else chk first (seen.set p.1.toNat true) l
def chkE (l : List Sh) : Int := chk (l.getD 0 default).2.length (List.replicate 256 false) l
theorem drop_getD {l : List Sh} {i : Nat} (h : i < l.length) : l.drop i = l.getD i default :: l.drop (i + 1) := by
  rw [List.drop_eq_getElem_cons h]; simp [h]

set_option maxRecDepth 100000 in
theorem check_ret (l : List Sh) : Ret Try.prog 44 [.sl 2 (encA shareC l)] (ai (chkE l)) := by
  refine Ret.len 0 rfl fun hlen => ?_
  rw [encA_len (e := 2) (fun _ => rfl)] at hlen
  refine Ret.of_fn Try.func44 (by kernel_rfl) 41 (by kernel_rfl) (by kernel_rfl) ?_
  skip
  refine AWP.regsK 2 [{  }, { hs := [(0, { av := some (AV.arr (boolsA (List.replicate (256 : Nat) false))) })] }] (by kernel_rfl) (s' := AS.mk [(3, AV.addr 3 0), (2, ai 0), (0, AV.sl 2 (encA shareC l))] [(3, Row.mk 1 true true (boolsA (List.replicate (256 : Nat) false)))]) (C := [[ao false, ao false, ao false, ao false, ao false, ao false, ao false, ao false, ao false, ao false, ao false, ao false, ao false, ao false, ao false, ao false, ao false, ao false, ao false, ao false, ao false, ao false, ao false, ao false, ao false, ao false, ao false, ao false, ao false, ao false, ao false, ao false, ao false, ao false, ao false, ao false, ao false, ao false, ao false, ao false, ao false, ao false, ao false, ao false, ao false, ao false, ao false, ao false, ao false, ao false, ao false, ao false, ao false, ao false, ao false, ao false, ao false, ao false, ao false, ao false, ao false, ao false, ao false, ao false, ao false, ao false, ao false, ao false, ao false, ao false, ao false, ao false, ao false, ao false, ao false, ao false, ao false, ao false, ao false, ao false, ao false, ao false, ao false, ao false, ao false, ao false, ao false, ao false, ao false, ao false, ao false, ao false, ao false, ao false, ao false, ao false, ao false, ao false, ao false, ao false, ao false, ao false, ao false, ao false, ao false, ao false, ao false, ao false, ao false, ao false, ao false, ao false, ao false, ao false, ao false, ao false, ao false, ao false, ao false, ao false, ao false, ao false, ao false, ao false, ao false, ao false, ao false, ao false, ao false, ao false, ao false, ao false, ao false, ao false, ao false, ao false, ao false, ao false, ao false, ao false, ao false, ao false, ao false, ao false, ao false, ao false, ao false, ao false, ao false, ao false, ao false, ao false, ao false, ao false, ao false, ao false, ao false, ao false, ao false, ao false, ao false, ao false, ao false, ao false, ao false, ao false, ao false, ao false, ao false, ao false, ao false, ao false, ao false, ao false, ao false, ao false, ao false, ao false, ao false, ao false, ao false, ao false, ao false, ao false, ao false, ao false, ao false, ao false, ao false, ao false, ao false, ao false, ao false, ao false, ao false, ao false, ao false, ao false, ao false, ao false, ao false, ao false, ao false, ao false, ao false, ao false, ao false, ao false, ao false, ao false, ao false, ao false, ao false, ao false, ao false, ao false, ao false, ao false, ao false, ao false, ao false, ao false, ao false, ao false, ao false, ao false, ao false, ao false, ao false, ao false, ao false, ao false, ao false, ao false, ao false, ao false, ao false, ao false, ao false, ao false, ao false, ao false, ao false, ao false, ao false, ao false, ao false, ao false, ao false, ao false, ao false, ao false, ao false, ao false, ao false, ao false] = boolsA (List.replicate (256 : Nat) false)]) (by kernel_rfl) ⟨rfl, trivial⟩ ?_
  refine AWP.seq (by kernel_rfl) ?_
  refine AWP.regsK 1 [{ hs := [(1, { k := l.length })] }] (by kernel_rfl) (s' := AS.mk [(8, ai 0), (7, ai (↑l.length : Int)), (6, AV.sl 2 (encA shareC l)), (3, AV.addr 3 0), (2, ai 0), (0, AV.sl 2 (encA shareC l))] [(3, Row.mk 1 true true (boolsA (List.replicate (256 : Nat) false)))]) (C := [(encA shareC l).length = l.length * (2 : Nat)]) (by kernel_rfl) ⟨(by simp only [encA_len (f := shareC) (e := 2) (fun _ => rfl)]), trivial⟩ ?_
  refine AWP.block (id := 0) (by kernel_rfl) ?_
  refine AWP.loop (fun (k : Nat × List Bool) => (⟨[(0, AV.sl 2 (encA shareC l)), (3, AV.addr 3 0), (6, AV.sl 2 (encA shareC l)), (7, ai (↑l.length : Int)), (8, ai k.1)], [(3, ⟨1, true, false, boolsA k.2⟩)]⟩ : AS)) (fun k => (k.1 ≤ l.length ∧ k.2.length = 256 ∧ chk (l.getD 0 default).2.length k.2 (l.drop k.1) = chkE l)) (fun k => (l.length - k.1)) (by kernel_rfl) ((0, List.replicate 256 false)) ?_ (Weaks.of [.loose 3, .keep [0, 3, 6, 7, 8] [3]] (s1 := AS.mk [(0, AV.sl 2 (encA shareC l)), (3, AV.addr 3 0), (6, AV.sl 2 (encA shareC l)), (7, ai (↑l.length : Int)), (8, ai 0)] [(3, Row.mk 1 true false (boolsA (List.replicate (256 : Nat) false)))]) (by kernel_rfl) rfl) ?_
  · exact ⟨by omega, by simp, rfl⟩
  rintro ⟨i, seen⟩ ⟨hi, hs, hc⟩
  simp only at hi hs hc
  skip
  refine AWP.regsK 1 [{  }] (by kernel_rfl) (s' := AS.mk [(9, ao (decide ((↑i : Int) < (↑l.length : Int)))), (0, AV.sl 2 (encA shareC l)), (3, AV.addr 3 0), (6, AV.sl 2 (encA shareC l)), (7, ai (↑l.length : Int)), (8, ai (↑i : Int))] [(3, Row.mk 1 true false (boolsA seen))]) (C := []) (by kernel_rfl) trivial ?_
  refine AWP.seq (by kernel_rfl) ?_
  refine AWP.condD (x := Operand.tmp (9 : Nat)) (p := (↑i : Int) < (↑l.length : Int)) (by kernel_rfl) (by kernel_rfl) (fun h1 => ?_) (fun h1 => ?_)
  · have hi' : i < l.length := by omega
    rw [drop_getD hi', chk] at hc
    by_cases hr : (l.getD i default).1 < 1
    · skip
      refine AWP.skip (by kernel_rfl) ?_
      skip
      refine then_n ?_
      refine AWP.seq (by kernel_rfl) ?_
      refine AWP.block (id := 1) (by kernel_rfl) ?_
      refine AWP.regsK 1 [{ hs := [(0, { k := i }), (1, { av := some (AV.agg [ai ((l.getD i default).fst), AV.sl 1 (bytesA (l.getD i default).snd)]) })] }] (by kernel_rfl) (s' := AS.mk [(5, AV.addr 5 0), (11, AV.agg [ai ((l.getD i default).fst), AV.sl 1 (bytesA (l.getD i default).snd)]), (10, AV.ptr (encA shareC l) (i * (2 : Nat))), (9, ao (decide ((↑i : Int) < (↑l.length : Int)))), (0, AV.sl 2 (encA shareC l)), (3, AV.addr 3 0), (6, AV.sl 2 (encA shareC l)), (7, ai (↑l.length : Int)), (8, ai (↑i : Int))] [(5, Row.mk 1 false true [ai ((l.getD i default).fst), AV.sl 1 (bytesA (l.getD i default).snd)]), (3, Row.mk 1 true false (boolsA seen))]) (C := [(↑i : Int) = (↑i : Int), i * (2 : Nat) < (encA shareC l).length, List.take (2 : Nat) (List.drop (i * (2 : Nat)) (encA shareC l)) = [ai ((l.getD i default).fst), AV.sl 1 (bytesA (l.getD i default).snd)], [ai ((l.getD i default).fst), AV.sl 1 (bytesA (l.getD i default).snd)].length = (2 : Nat), (2 : Nat) ≤ (2 : Nat)]) (by kernel_rfl) ⟨rfl, (by simp only [encA_len (f := shareC) (e := 2) (fun _ => rfl)]; omega), (encA_sub (f := shareC) (e := 2) (k := i) (j := 0) (fun _ => rfl) (by omega) (by decide) rfl), rfl, (by omega), trivial⟩ ?_
      refine AWP.wk [.keep [5, 9, 0, 3, 6, 7, 8] [5, 3]] (s' := AS.mk [(5, AV.addr 5 0), (9, ao (decide ((↑i : Int) < (↑l.length : Int)))), (0, AV.sl 2 (encA shareC l)), (3, AV.addr 3 0), (6, AV.sl 2 (encA shareC l)), (7, ai (↑l.length : Int)), (8, ai (↑i : Int))] [(5, Row.mk 1 false true [ai ((l.getD i default).fst), AV.sl 1 (bytesA (l.getD i default).snd)]), (3, Row.mk 1 true false (boolsA seen))]) (by kernel_rfl) ?_
      refine AWP.seq (by kernel_rfl) ?_
      refine AWP.regsK 1 [{  }] (by kernel_rfl) (s' := AS.mk [(19, ao true), (18, AV.val (Value.tuple #[])), (17, AV.val (Value.tuple #[])), (16, AV.val (Value.tuple #[])), (15, ao (decide ((l.getD i default).fst < (1 : Int)))), (14, ao (decide ((l.getD i default).fst < (1 : Int)))), (13, ai ((l.getD i default).fst)), (12, AV.addr 5 0), (5, AV.addr 5 0), (9, ao (decide ((↑i : Int) < (↑l.length : Int)))), (0, AV.sl 2 (encA shareC l)), (3, AV.addr 3 0), (6, AV.sl 2 (encA shareC l)), (7, ai (↑l.length : Int)), (8, ai (↑i : Int))] [(5, Row.mk 1 false true [ai ((l.getD i default).fst), AV.sl 1 (bytesA (l.getD i default).snd)]), (3, Row.mk 1 true false (boolsA seen))]) (C := [decide ((l.getD i default).fst < (1 : Int)) = true, decide ((l.getD i default).fst < (1 : Int)) = true, decide ((l.getD i default).fst < (1 : Int)) = true, decide ((l.getD i default).fst < (1 : Int)) = true]) (by kernel_rfl) ⟨(decide_eq_true (by omega)), (decide_eq_true (by omega)), (decide_eq_true (by omega)), (decide_eq_true (by omega)), trivial⟩ ?_
      refine AWP.wk [.keep [19, 5, 9, 0, 3, 6, 7, 8] [5, 3]] (s' := AS.mk [(19, ao true), (5, AV.addr 5 0), (9, ao (decide ((↑i : Int) < (↑l.length : Int)))), (0, AV.sl 2 (encA shareC l)), (3, AV.addr 3 0), (6, AV.sl 2 (encA shareC l)), (7, ai (↑l.length : Int)), (8, ai (↑i : Int))] [(5, Row.mk 1 false true [ai ((l.getD i default).fst), AV.sl 1 (bytesA (l.getD i default).snd)]), (3, Row.mk 1 true false (boolsA seen))]) (by kernel_rfl) ?_
      refine AWP.condT (x := Operand.tmp (19 : Nat)) (b := true) (by kernel_rfl) (by kernel_rfl) rfl ?_
      refine AWP.regsK 1 [{  }] (by kernel_rfl) (s' := AS.mk [(2, ai 9), (19, ao true), (5, AV.addr 5 0), (9, ao (decide ((↑i : Int) < (↑l.length : Int)))), (0, AV.sl 2 (encA shareC l)), (3, AV.addr 3 0), (6, AV.sl 2 (encA shareC l)), (7, ai (↑l.length : Int)), (8, ai (↑i : Int))] [(5, Row.mk 1 false true [ai ((l.getD i default).fst), AV.sl 1 (bytesA (l.getD i default).snd)]), (3, Row.mk 1 true false (boolsA seen))]) (C := []) (by kernel_rfl) trivial ?_
      refine AWP.ret (by kernel_rfl) ?_
      skip
      refine then_r ?_
      refine inb_r ?_
      refine then_r ?_
      refine round_r ?_
      refine inb_r ?_
      refine then_r ?_
      refine Done.ret_ (C := [Value.int IntKind.i64 (9 : Int) = Value.int IntKind.i64 (chkE l)]) (by kernel_rfl) ⟨(by rw [← hc, if_pos (Or.inl hr)]), trivial⟩
    by_cases hr2 : 255 < (l.getD i default).1
    · skip
      refine AWP.skip (by kernel_rfl) ?_
      skip
      refine then_n ?_
      refine AWP.seq (by kernel_rfl) ?_
      refine AWP.block (id := 1) (by kernel_rfl) ?_
      refine AWP.regsK 1 [{ hs := [(0, { k := i }), (1, { av := some (AV.agg [ai ((l.getD i default).fst), AV.sl 1 (bytesA (l.getD i default).snd)]) })] }] (by kernel_rfl) (s' := AS.mk [(5, AV.addr 5 0), (11, AV.agg [ai ((l.getD i default).fst), AV.sl 1 (bytesA (l.getD i default).snd)]), (10, AV.ptr (encA shareC l) (i * (2 : Nat))), (9, ao (decide ((↑i : Int) < (↑l.length : Int)))), (0, AV.sl 2 (encA shareC l)), (3, AV.addr 3 0), (6, AV.sl 2 (encA shareC l)), (7, ai (↑l.length : Int)), (8, ai (↑i : Int))] [(5, Row.mk 1 false true [ai ((l.getD i default).fst), AV.sl 1 (bytesA (l.getD i default).snd)]), (3, Row.mk 1 true false (boolsA seen))]) (C := [(↑i : Int) = (↑i : Int), i * (2 : Nat) < (encA shareC l).length, List.take (2 : Nat) (List.drop (i * (2 : Nat)) (encA shareC l)) = [ai ((l.getD i default).fst), AV.sl 1 (bytesA (l.getD i default).snd)], [ai ((l.getD i default).fst), AV.sl 1 (bytesA (l.getD i default).snd)].length = (2 : Nat), (2 : Nat) ≤ (2 : Nat)]) (by kernel_rfl) ⟨rfl, (by simp only [encA_len (f := shareC) (e := 2) (fun _ => rfl)]; omega), (encA_sub (f := shareC) (e := 2) (k := i) (j := 0) (fun _ => rfl) (by omega) (by decide) rfl), rfl, (by omega), trivial⟩ ?_
      refine AWP.wk [.keep [5, 9, 0, 3, 6, 7, 8] [5, 3]] (s' := AS.mk [(5, AV.addr 5 0), (9, ao (decide ((↑i : Int) < (↑l.length : Int)))), (0, AV.sl 2 (encA shareC l)), (3, AV.addr 3 0), (6, AV.sl 2 (encA shareC l)), (7, ai (↑l.length : Int)), (8, ai (↑i : Int))] [(5, Row.mk 1 false true [ai ((l.getD i default).fst), AV.sl 1 (bytesA (l.getD i default).snd)]), (3, Row.mk 1 true false (boolsA seen))]) (by kernel_rfl) ?_
      refine AWP.seq (by kernel_rfl) ?_
      refine AWP.regsK 1 [{ hs := [(4, { g := false }), (5, { g := false }), (6, { g := false }), (7, { b := false })] }] (by kernel_rfl) (s' := AS.mk [(19, ao (decide ((l.getD i default).fst > (255 : Int)))), (18, ao (decide ((l.getD i default).fst > (255 : Int)))), (17, ai ((l.getD i default).fst)), (16, AV.addr 5 0), (15, ao (decide ((l.getD i default).fst < (1 : Int)))), (14, ao (decide ((l.getD i default).fst < (1 : Int)))), (13, ai ((l.getD i default).fst)), (12, AV.addr 5 0), (5, AV.addr 5 0), (9, ao (decide ((↑i : Int) < (↑l.length : Int)))), (0, AV.sl 2 (encA shareC l)), (3, AV.addr 3 0), (6, AV.sl 2 (encA shareC l)), (7, ai (↑l.length : Int)), (8, ai (↑i : Int))] [(5, Row.mk 1 false true [ai ((l.getD i default).fst), AV.sl 1 (bytesA (l.getD i default).snd)]), (3, Row.mk 1 true false (boolsA seen))]) (C := [decide ((l.getD i default).fst < (1 : Int)) = false, decide ((l.getD i default).fst < (1 : Int)) = false, decide ((l.getD i default).fst < (1 : Int)) = false, decide ((l.getD i default).fst < (1 : Int)) = false]) (by kernel_rfl) ⟨(decide_eq_false (by omega)), (decide_eq_false (by omega)), (decide_eq_false (by omega)), (decide_eq_false (by omega)), trivial⟩ ?_
      refine AWP.wk [.keep [19, 5, 9, 0, 3, 6, 7, 8] [5, 3]] (s' := AS.mk [(19, ao (decide ((l.getD i default).fst > (255 : Int)))), (5, AV.addr 5 0), (9, ao (decide ((↑i : Int) < (↑l.length : Int)))), (0, AV.sl 2 (encA shareC l)), (3, AV.addr 3 0), (6, AV.sl 2 (encA shareC l)), (7, ai (↑l.length : Int)), (8, ai (↑i : Int))] [(5, Row.mk 1 false true [ai ((l.getD i default).fst), AV.sl 1 (bytesA (l.getD i default).snd)]), (3, Row.mk 1 true false (boolsA seen))]) (by kernel_rfl) ?_
      refine AWP.condT (x := Operand.tmp (19 : Nat)) (b := decide ((l.getD i default).fst > (255 : Int))) (by kernel_rfl) (by kernel_rfl) (decide_eq_true (by omega)) ?_
      refine AWP.regsK 1 [{  }] (by kernel_rfl) (s' := AS.mk [(2, ai 9), (19, ao (decide ((l.getD i default).fst > (255 : Int)))), (5, AV.addr 5 0), (9, ao (decide ((↑i : Int) < (↑l.length : Int)))), (0, AV.sl 2 (encA shareC l)), (3, AV.addr 3 0), (6, AV.sl 2 (encA shareC l)), (7, ai (↑l.length : Int)), (8, ai (↑i : Int))] [(5, Row.mk 1 false true [ai ((l.getD i default).fst), AV.sl 1 (bytesA (l.getD i default).snd)]), (3, Row.mk 1 true false (boolsA seen))]) (C := []) (by kernel_rfl) trivial ?_
      refine AWP.ret (by kernel_rfl) ?_
      skip
      refine then_r ?_
      refine inb_r ?_
      refine then_r ?_
      refine round_r ?_
      refine inb_r ?_
      refine then_r ?_
      refine Done.ret_ (C := [Value.int IntKind.i64 (9 : Int) = Value.int IntKind.i64 (chkE l)]) (by kernel_rfl) ⟨(by rw [← hc, if_pos (Or.inr hr2)]), trivial⟩
    rw [if_neg (by omega)] at hc
    skip
    refine AWP.skip (by kernel_rfl) ?_
    skip
    refine then_n ?_
    refine AWP.seq (by kernel_rfl) ?_
    refine AWP.block (id := 1) (by kernel_rfl) ?_
    refine AWP.regsK 1 [{ hs := [(0, { k := i }), (1, { av := some (AV.agg [ai ((l.getD i default).fst), AV.sl 1 (bytesA (l.getD i default).snd)]) })] }] (by kernel_rfl) (s' := AS.mk [(5, AV.addr 5 0), (11, AV.agg [ai ((l.getD i default).fst), AV.sl 1 (bytesA (l.getD i default).snd)]), (10, AV.ptr (encA shareC l) (i * (2 : Nat))), (9, ao (decide ((↑i : Int) < (↑l.length : Int)))), (0, AV.sl 2 (encA shareC l)), (3, AV.addr 3 0), (6, AV.sl 2 (encA shareC l)), (7, ai (↑l.length : Int)), (8, ai (↑i : Int))] [(5, Row.mk 1 false true [ai ((l.getD i default).fst), AV.sl 1 (bytesA (l.getD i default).snd)]), (3, Row.mk 1 true false (boolsA seen))]) (C := [(↑i : Int) = (↑i : Int), i * (2 : Nat) < (encA shareC l).length, List.take (2 : Nat) (List.drop (i * (2 : Nat)) (encA shareC l)) = [ai ((l.getD i default).fst), AV.sl 1 (bytesA (l.getD i default).snd)], [ai ((l.getD i default).fst), AV.sl 1 (bytesA (l.getD i default).snd)].length = (2 : Nat), (2 : Nat) ≤ (2 : Nat)]) (by kernel_rfl) ⟨rfl, (by simp only [encA_len (f := shareC) (e := 2) (fun _ => rfl)]; omega), (encA_sub (f := shareC) (e := 2) (k := i) (j := 0) (fun _ => rfl) (by omega) (by decide) rfl), rfl, (by omega), trivial⟩ ?_
    refine AWP.wk [.keep [5, 9, 0, 3, 6, 7, 8] [5, 3]] (s' := AS.mk [(5, AV.addr 5 0), (9, ao (decide ((↑i : Int) < (↑l.length : Int)))), (0, AV.sl 2 (encA shareC l)), (3, AV.addr 3 0), (6, AV.sl 2 (encA shareC l)), (7, ai (↑l.length : Int)), (8, ai (↑i : Int))] [(5, Row.mk 1 false true [ai ((l.getD i default).fst), AV.sl 1 (bytesA (l.getD i default).snd)]), (3, Row.mk 1 true false (boolsA seen))]) (by kernel_rfl) ?_
    refine AWP.seq (by kernel_rfl) ?_
    refine AWP.regsK 1 [{ hs := [(4, { g := false }), (5, { g := false }), (6, { g := false }), (7, { b := false })] }] (by kernel_rfl) (s' := AS.mk [(19, ao (decide ((l.getD i default).fst > (255 : Int)))), (18, ao (decide ((l.getD i default).fst > (255 : Int)))), (17, ai ((l.getD i default).fst)), (16, AV.addr 5 0), (15, ao (decide ((l.getD i default).fst < (1 : Int)))), (14, ao (decide ((l.getD i default).fst < (1 : Int)))), (13, ai ((l.getD i default).fst)), (12, AV.addr 5 0), (5, AV.addr 5 0), (9, ao (decide ((↑i : Int) < (↑l.length : Int)))), (0, AV.sl 2 (encA shareC l)), (3, AV.addr 3 0), (6, AV.sl 2 (encA shareC l)), (7, ai (↑l.length : Int)), (8, ai (↑i : Int))] [(5, Row.mk 1 false true [ai ((l.getD i default).fst), AV.sl 1 (bytesA (l.getD i default).snd)]), (3, Row.mk 1 true false (boolsA seen))]) (C := [decide ((l.getD i default).fst < (1 : Int)) = false, decide ((l.getD i default).fst < (1 : Int)) = false, decide ((l.getD i default).fst < (1 : Int)) = false, decide ((l.getD i default).fst < (1 : Int)) = false]) (by kernel_rfl) ⟨(decide_eq_false (by omega)), (decide_eq_false (by omega)), (decide_eq_false (by omega)), (decide_eq_false (by omega)), trivial⟩ ?_
    refine AWP.wk [.keep [19, 5, 9, 0, 3, 6, 7, 8] [5, 3]] (s' := AS.mk [(19, ao (decide ((l.getD i default).fst > (255 : Int)))), (5, AV.addr 5 0), (9, ao (decide ((↑i : Int) < (↑l.length : Int)))), (0, AV.sl 2 (encA shareC l)), (3, AV.addr 3 0), (6, AV.sl 2 (encA shareC l)), (7, ai (↑l.length : Int)), (8, ai (↑i : Int))] [(5, Row.mk 1 false true [ai ((l.getD i default).fst), AV.sl 1 (bytesA (l.getD i default).snd)]), (3, Row.mk 1 true false (boolsA seen))]) (by kernel_rfl) ?_
    refine AWP.condF (x := Operand.tmp (19 : Nat)) (b := decide ((l.getD i default).fst > (255 : Int))) (by kernel_rfl) (by kernel_rfl) (decide_eq_false (by omega)) ?_
    refine AWP.skip (by kernel_rfl) ?_
    skip
    refine then_n ?_
    refine AWP.seq (by kernel_rfl) ?_
    refine AWP.regsK 1 [{ hs := [(2, { k := (l.getD i default).fst.toNat }), (3, { av := some (ao (seen.getD (l.getD i default).fst.toNat false)) })] }] (by kernel_rfl) (s' := AS.mk [(23, ao (seen.getD (l.getD i default).fst.toNat false)), (22, AV.addr 3 (l.getD i default).fst.toNat), (21, ai ((l.getD i default).fst)), (20, AV.addr 5 0), (19, ao (decide ((l.getD i default).fst > (255 : Int)))), (5, AV.addr 5 0), (9, ao (decide ((↑i : Int) < (↑l.length : Int)))), (0, AV.sl 2 (encA shareC l)), (3, AV.addr 3 0), (6, AV.sl 2 (encA shareC l)), (7, ai (↑l.length : Int)), (8, ai (↑i : Int))] [(5, Row.mk 1 false true [ai ((l.getD i default).fst), AV.sl 1 (bytesA (l.getD i default).snd)]), (3, Row.mk 1 true false (boolsA seen))]) (C := [(l.getD i default).fst = (↑(l.getD i default).fst.toNat : Int), (l.getD i default).fst.toNat < (256 : Nat), (boolsA seen)[(l.getD i default).fst.toNat]? = some (ao (seen.getD (l.getD i default).fst.toNat false))]) (by kernel_rfl) ⟨(by omega), (by omega), (boolsA_at (by omega)), trivial⟩ ?_
    refine AWP.wk [.keep [23, 19, 5, 9, 0, 3, 6, 7, 8] [5, 3]] (s' := AS.mk [(23, ao (seen.getD (l.getD i default).fst.toNat false)), (19, ao (decide ((l.getD i default).fst > (255 : Int)))), (5, AV.addr 5 0), (9, ao (decide ((↑i : Int) < (↑l.length : Int)))), (0, AV.sl 2 (encA shareC l)), (3, AV.addr 3 0), (6, AV.sl 2 (encA shareC l)), (7, ai (↑l.length : Int)), (8, ai (↑i : Int))] [(5, Row.mk 1 false true [ai ((l.getD i default).fst), AV.sl 1 (bytesA (l.getD i default).snd)]), (3, Row.mk 1 true false (boolsA seen))]) (by kernel_rfl) ?_
    refine AWP.cond (x := Operand.tmp (23 : Nat)) (b := seen.getD (l.getD i default).fst.toNat false) (by kernel_rfl) (by kernel_rfl) (fun h4 => ?_) (fun h4 => ?_)
    · skip
      refine AWP.regsK 1 [{  }] (by kernel_rfl) (s' := AS.mk [(2, ai 10), (23, ao (seen.getD (l.getD i default).fst.toNat false)), (19, ao (decide ((l.getD i default).fst > (255 : Int)))), (5, AV.addr 5 0), (9, ao (decide ((↑i : Int) < (↑l.length : Int)))), (0, AV.sl 2 (encA shareC l)), (3, AV.addr 3 0), (6, AV.sl 2 (encA shareC l)), (7, ai (↑l.length : Int)), (8, ai (↑i : Int))] [(5, Row.mk 1 false true [ai ((l.getD i default).fst), AV.sl 1 (bytesA (l.getD i default).snd)]), (3, Row.mk 1 true false (boolsA seen))]) (C := []) (by kernel_rfl) trivial ?_
      refine AWP.ret (by kernel_rfl) ?_
      skip
      refine then_r ?_
      refine inb_r ?_
      refine then_r ?_
      refine round_r ?_
      refine inb_r ?_
      refine then_r ?_
      refine Done.ret_ (C := [Value.int IntKind.i64 (10 : Int) = Value.int IntKind.i64 (chkE l)]) (by kernel_rfl) ⟨(by rw [← hc, if_pos h4]), trivial⟩
    rw [h4, if_neg (by decide)] at hc
    skip
    refine AWP.skip (by kernel_rfl) ?_
    skip
    refine then_n ?_
    refine AWP.regsK 1 [{ hs := [(2, { k := (l.getD i default).fst.toNat }), (3, { av := some (AV.arr (boolsA (seen.set (l.getD i default).fst.toNat true))) })] }] (by kernel_rfl) (s' := AS.mk [(26, AV.addr 3 (l.getD i default).fst.toNat), (25, ai ((l.getD i default).fst)), (24, AV.addr 5 0), (23, ao (seen.getD (l.getD i default).fst.toNat false)), (19, ao (decide ((l.getD i default).fst > (255 : Int)))), (5, AV.addr 5 0), (9, ao (decide ((↑i : Int) < (↑l.length : Int)))), (0, AV.sl 2 (encA shareC l)), (3, AV.addr 3 0), (6, AV.sl 2 (encA shareC l)), (7, ai (↑l.length : Int)), (8, ai (↑i : Int))] [(3, Row.mk 1 true false (boolsA (seen.set (l.getD i default).fst.toNat true))), (5, Row.mk 1 false true [ai ((l.getD i default).fst), AV.sl 1 (bytesA (l.getD i default).snd)])]) (C := [(l.getD i default).fst = (↑(l.getD i default).fst.toNat : Int), (l.getD i default).fst.toNat < (256 : Nat), (boolsA seen).set (l.getD i default).fst.toNat (ao true) = boolsA (seen.set (l.getD i default).fst.toNat true), (l.getD i default).fst.toNat + (1 : Nat) ≤ (boolsA seen).length]) (by kernel_rfl) ⟨(by omega), (by omega), (boolsA_set _ _ _), (by simp only [boolsA_len]; omega), trivial⟩ ?_
    refine AWP.wk [.keep [23, 19, 5, 9, 0, 3, 6, 7, 8] [3, 5]] (s' := AS.mk [(23, ao (seen.getD (l.getD i default).fst.toNat false)), (19, ao (decide ((l.getD i default).fst > (255 : Int)))), (5, AV.addr 5 0), (9, ao (decide ((↑i : Int) < (↑l.length : Int)))), (0, AV.sl 2 (encA shareC l)), (3, AV.addr 3 0), (6, AV.sl 2 (encA shareC l)), (7, ai (↑l.length : Int)), (8, ai (↑i : Int))] [(3, Row.mk 1 true false (boolsA (seen.set (l.getD i default).fst.toNat true))), (5, Row.mk 1 false true [ai ((l.getD i default).fst), AV.sl 1 (bytesA (l.getD i default).snd)])]) (by kernel_rfl) ?_
    refine AWP.seq (by kernel_rfl) ?_
    refine AWP.regsK 1 [{ hs := [(2, { k := (l.getD i default).snd.length }), (4, { k := (0 : Nat) }), (6, { av := some (AV.sl 1 (bytesA (l.getD (0 : Nat) default).snd)) }), (7, { k := (l.getD (0 : Nat) default).snd.length })], T := 8 }] (by kernel_rfl) (s' := AS.mk [(35, ao ((↑(l.getD i default).snd.length : Int) != (↑(l.getD (0 : Nat) default).snd.length : Int))), (27, AV.addr 5 1), (28, AV.sl 1 (bytesA (l.getD i default).snd)), (29, ai (↑(l.getD i default).snd.length : Int)), (30, AV.sl 2 (encA shareC l)), (31, AV.ptr (encA shareC l) (0 : Nat)), (32, AV.ptr (encA shareC l) (1 : Nat)), (33, AV.sl 1 (bytesA (l.getD (0 : Nat) default).snd)), (34, ai (↑(l.getD (0 : Nat) default).snd.length : Int)), (23, ao (seen.getD (l.getD i default).fst.toNat false)), (19, ao (decide ((l.getD i default).fst > (255 : Int)))), (5, AV.addr 5 0), (9, ao (decide ((↑i : Int) < (↑l.length : Int)))), (0, AV.sl 2 (encA shareC l)), (3, AV.addr 3 0), (6, AV.sl 2 (encA shareC l)), (7, ai (↑l.length : Int)), (8, ai (↑i : Int))] [(3, Row.mk 1 true false (boolsA (seen.set (l.getD i default).fst.toNat true))), (5, Row.mk 1 false true [ai ((l.getD i default).fst), AV.sl 1 (bytesA (l.getD i default).snd)])]) (C := [(bytesA (l.getD i default).snd).length = (l.getD i default).snd.length, (0 : Int) = (↑(0 : Nat) : Int), (0 : Nat) < (encA shareC l).length, (encA shareC l)[(1 : Nat)]? = some (AV.sl 1 (bytesA (l.getD (0 : Nat) default).snd)), (bytesA (l.getD (0 : Nat) default).snd).length = (l.getD (0 : Nat) default).snd.length]) (by kernel_rfl) ⟨(bytesA_len _), rfl, (by simp only [encA_len (f := shareC) (e := 2) (fun _ => rfl)]; omega), (encA_at (f := shareC) (e := 2) (k := (0 : Nat)) (j := 1) (fun _ => rfl) (by omega) rfl), (bytesA_len _), trivial⟩ ?_
    refine AWP.wk [.keep [35, 23, 19, 5, 9, 0, 3, 6, 7, 8] [3, 5]] (s' := AS.mk [(35, ao ((↑(l.getD i default).snd.length : Int) != (↑(l.getD (0 : Nat) default).snd.length : Int))), (23, ao (seen.getD (l.getD i default).fst.toNat false)), (19, ao (decide ((l.getD i default).fst > (255 : Int)))), (5, AV.addr 5 0), (9, ao (decide ((↑i : Int) < (↑l.length : Int)))), (0, AV.sl 2 (encA shareC l)), (3, AV.addr 3 0), (6, AV.sl 2 (encA shareC l)), (7, ai (↑l.length : Int)), (8, ai (↑i : Int))] [(3, Row.mk 1 true false (boolsA (seen.set (l.getD i default).fst.toNat true))), (5, Row.mk 1 false true [ai ((l.getD i default).fst), AV.sl 1 (bytesA (l.getD i default).snd)])]) (by kernel_rfl) ?_
    refine AWP.condN (x := Operand.tmp (35 : Nat)) (u := (↑(l.getD i default).snd.length : Int)) (v := (↑(l.getD (0 : Nat) default).snd.length : Int)) (by kernel_rfl) (by kernel_rfl) (fun h5 => ?_) (fun h5 => ?_)
    · rw [if_pos (by omega)] at hc
      skip
      refine AWP.regsK 1 [{  }] (by kernel_rfl) (s' := AS.mk [(2, ai 4), (35, ao ((↑(l.getD i default).snd.length : Int) != (↑(l.getD (0 : Nat) default).snd.length : Int))), (23, ao (seen.getD (l.getD i default).fst.toNat false)), (19, ao (decide ((l.getD i default).fst > (255 : Int)))), (5, AV.addr 5 0), (9, ao (decide ((↑i : Int) < (↑l.length : Int)))), (0, AV.sl 2 (encA shareC l)), (3, AV.addr 3 0), (6, AV.sl 2 (encA shareC l)), (7, ai (↑l.length : Int)), (8, ai (↑i : Int))] [(3, Row.mk 1 true false (boolsA (seen.set (l.getD i default).fst.toNat true))), (5, Row.mk 1 false true [ai ((l.getD i default).fst), AV.sl 1 (bytesA (l.getD i default).snd)])]) (C := []) (by kernel_rfl) trivial ?_
      refine AWP.ret (by kernel_rfl) ?_
      skip
      refine then_r ?_
      refine inb_r ?_
      refine then_r ?_
      refine round_r ?_
      refine inb_r ?_
      refine then_r ?_
      refine Done.ret_ (C := [Value.int IntKind.i64 (4 : Int) = Value.int IntKind.i64 (chkE l)]) (by kernel_rfl) ⟨(by rw [← hc]), trivial⟩
    rw [if_neg (by omega)] at hc
    skip
    refine AWP.skip (by kernel_rfl) ?_
    skip
    refine then_n ?_
    refine AWP.regsK 1 [{ hs := [(2, { k := (l.getD i default).snd.length })] }] (by kernel_rfl) (s' := AS.mk [(39, ao (decide ((↑(l.getD i default).snd.length : Int) > (64 : Int)))), (38, ai (↑(l.getD i default).snd.length : Int)), (37, AV.sl 1 (bytesA (l.getD i default).snd)), (36, AV.addr 5 1), (35, ao ((↑(l.getD i default).snd.length : Int) != (↑(l.getD (0 : Nat) default).snd.length : Int))), (23, ao (seen.getD (l.getD i default).fst.toNat false)), (19, ao (decide ((l.getD i default).fst > (255 : Int)))), (5, AV.addr 5 0), (9, ao (decide ((↑i : Int) < (↑l.length : Int)))), (0, AV.sl 2 (encA shareC l)), (3, AV.addr 3 0), (6, AV.sl 2 (encA shareC l)), (7, ai (↑l.length : Int)), (8, ai (↑i : Int))] [(3, Row.mk 1 true false (boolsA (seen.set (l.getD i default).fst.toNat true))), (5, Row.mk 1 false true [ai ((l.getD i default).fst), AV.sl 1 (bytesA (l.getD i default).snd)])]) (C := [(bytesA (l.getD i default).snd).length = (l.getD i default).snd.length]) (by kernel_rfl) ⟨(bytesA_len _), trivial⟩ ?_
    refine AWP.wk [.keep [39, 35, 23, 19, 5, 9, 0, 3, 6, 7, 8] [3, 5]] (s' := AS.mk [(39, ao (decide ((↑(l.getD i default).snd.length : Int) > (64 : Int)))), (35, ao ((↑(l.getD i default).snd.length : Int) != (↑(l.getD (0 : Nat) default).snd.length : Int))), (23, ao (seen.getD (l.getD i default).fst.toNat false)), (19, ao (decide ((l.getD i default).fst > (255 : Int)))), (5, AV.addr 5 0), (9, ao (decide ((↑i : Int) < (↑l.length : Int)))), (0, AV.sl 2 (encA shareC l)), (3, AV.addr 3 0), (6, AV.sl 2 (encA shareC l)), (7, ai (↑l.length : Int)), (8, ai (↑i : Int))] [(3, Row.mk 1 true false (boolsA (seen.set (l.getD i default).fst.toNat true))), (5, Row.mk 1 false true [ai ((l.getD i default).fst), AV.sl 1 (bytesA (l.getD i default).snd)])]) (by kernel_rfl) ?_
    refine AWP.condD (x := Operand.tmp (39 : Nat)) (p := (↑(l.getD i default).snd.length : Int) > (64 : Int)) (by kernel_rfl) (by kernel_rfl) (fun h6 => ?_) (fun h6 => ?_)
    · rw [if_pos (by omega)] at hc
      skip
      refine AWP.regsK 1 [{  }] (by kernel_rfl) (s' := AS.mk [(2, ai 8), (39, ao (decide ((↑(l.getD i default).snd.length : Int) > (64 : Int)))), (35, ao ((↑(l.getD i default).snd.length : Int) != (↑(l.getD (0 : Nat) default).snd.length : Int))), (23, ao (seen.getD (l.getD i default).fst.toNat false)), (19, ao (decide ((l.getD i default).fst > (255 : Int)))), (5, AV.addr 5 0), (9, ao (decide ((↑i : Int) < (↑l.length : Int)))), (0, AV.sl 2 (encA shareC l)), (3, AV.addr 3 0), (6, AV.sl 2 (encA shareC l)), (7, ai (↑l.length : Int)), (8, ai (↑i : Int))] [(3, Row.mk 1 true false (boolsA (seen.set (l.getD i default).fst.toNat true))), (5, Row.mk 1 false true [ai ((l.getD i default).fst), AV.sl 1 (bytesA (l.getD i default).snd)])]) (C := []) (by kernel_rfl) trivial ?_
      refine AWP.ret (by kernel_rfl) ?_
      skip
      refine inb_r ?_
      refine then_r ?_
      refine round_r ?_
      refine inb_r ?_
      refine then_r ?_
      refine Done.ret_ (C := [Value.int IntKind.i64 (8 : Int) = Value.int IntKind.i64 (chkE l)]) (by kernel_rfl) ⟨(by rw [← hc]), trivial⟩
    rw [if_neg (by omega)] at hc
    skip
    refine AWP.skip (by kernel_rfl) ?_
    skip
    refine inb_n ?_
    refine then_n ?_
    refine AWP.reg { hs := [(0, { av := some (ai ((↑i : Int) + (1 : Int))) })] } (s' := AS.mk [(8, ai ((↑i : Int) + (1 : Int))), (40, ai ((↑i : Int) + (1 : Int))), (39, ao (decide ((↑(l.getD i default).snd.length : Int) > (64 : Int)))), (35, ao ((↑(l.getD i default).snd.length : Int) != (↑(l.getD (0 : Nat) default).snd.length : Int))), (23, ao (seen.getD (l.getD i default).fst.toNat false)), (19, ao (decide ((l.getD i default).fst > (255 : Int)))), (5, AV.addr 5 0), (9, ao (decide ((↑i : Int) < (↑l.length : Int)))), (0, AV.sl 2 (encA shareC l)), (3, AV.addr 3 0), (6, AV.sl 2 (encA shareC l)), (7, ai (↑l.length : Int))] [(3, Row.mk 1 true false (boolsA (seen.set (l.getD i default).fst.toNat true))), (5, Row.mk 1 false true [ai ((l.getD i default).fst), AV.sl 1 (bytesA (l.getD i default).snd)])]) (C := [ai (IntKind.i64.wrap ((↑i : Int) + (1 : Int))) = ai ((↑i : Int) + (1 : Int))]) (by kernel_rfl) ⟨(av_i64 (by omega) (by omega)), trivial⟩ ?_
    refine round_n (i + 1, seen.set (l.getD i default).1.toNat true) ⟨by omega, by simpa using hs, hc⟩ (by omega) (Weaks.of [.keep [0, 3, 6, 7, 8] [3]] (s1 := AS.mk [(0, AV.sl 2 (encA shareC l)), (3, AV.addr 3 0), (6, AV.sl 2 (encA shareC l)), (7, ai (↑l.length : Int)), (8, ai ((↑i : Int) + (1 : Int)))] [(3, Row.mk 1 true false (boolsA (seen.set (l.getD i default).fst.toNat true)))]) (by kernel_rfl) rfl)
  · have e : i = l.length := by omega
    subst e
    skip
    refine AWP.exit (id := 0) (by kernel_rfl) ?_
    skip
    refine then_e ?_
    refine round_e ?_
    refine inb_e ?_
    refine then_n ?_
    refine AWP.regsK 1 [{  }] (by kernel_rfl) (s' := AS.mk [(2, ai 0), (9, ao (decide ((↑l.length : Int) < (↑l.length : Int)))), (0, AV.sl 2 (encA shareC l)), (3, AV.addr 3 0), (6, AV.sl 2 (encA shareC l)), (7, ai (↑l.length : Int)), (8, ai (↑l.length : Int))] [(3, Row.mk 1 true false (boolsA seen))]) (C := []) (by kernel_rfl) trivial ?_
    refine AWP.ret (by kernel_rfl) ?_
    refine Done.ret_ (C := [Value.int IntKind.i64 (0 : Int) = Value.int IntKind.i64 (chkE l)]) (by kernel_rfl) ⟨(by rw [← hc, List.drop_length]; rfl), trivial⟩
end Go.Proofs.Ytbehdllomepkdaa
