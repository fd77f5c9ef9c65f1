/-
  The contracts of the reference's share, At, Join. No condition.
-/
import Derived.Test.YtbehdllomepkdaaShF
import Derived.Test.YtbehdllomepkdaaSh6
import Derived.Test.YtbehdllomepkdaaRJ
namespace Go.Proofs.Ytbehdllomepkdaa
open Go.RowKit
set_option maxRecDepth 100000
set_option maxHeartbeats 4000000
set_option linter.unusedVariables false

/-- Is this number among the first shares'? -/
def dupB (l : List Sh) (v : Int) : Nat → Bool
  | 0 => false
  | k + 1 => dupB l v k || decide ((l.getD k default).1 = v)
/-- The error of one share. -/
def shE (l : List Sh) (i : Nat) : Int := if (l.getD i default).1 < 1 ∨ 255 < (l.getD i default).1 then 9 else if dupB l (l.getD i default).1 i = true then 10 else if (l.getD i default).2.length ≠ (l.getD 0 default).2.length then 4 else if 64 < (l.getD i default).2.length then 8 else 0
theorem dupB_up {l : List Sh} {v : Int} : ∀ {k n : Nat}, k < n → (l.getD k default).1 = v → dupB l v n = true
  | k, 0, h, _ => by omega
  | k, n + 1, h, e => by
    rw [dupB]
    by_cases hk : k = n
    · subst hk; rw [decide_eq_true e, Bool.or_true]
    · rw [dupB_up (show k < n by omega) e, Bool.true_or]
theorem refshare_ret (l : List Sh) (i : Nat) (hi : i < l.length) : Ret Try.prog 56 [.sl 2 (encA shareC l), ai i] (ai (shE l i)) := by
  refine Ret.len 0 rfl fun hlen => ?_
  rw [encA_len (e := 2) (fun _ => rfl)] at hlen
  by_cases hr : (l.getD i default).1 < 1
  · have e : shE l i = 9 := by rw [shE, if_pos (.inl hr)]
    refine Ret.of_fn Try.func56 (by kernel_rfl) 55 (by kernel_rfl) (by kernel_rfl) ?_
    refine AWP.regsK 1 [{  }] (by kernel_rfl) (s' := AS.mk [(4, ai 0), (0, AV.sl 2 (encA shareC l)), (1, ai (↑i : Int))] []) (C := []) (by kernel_rfl) trivial ?_
    refine AWP.seq (by kernel_rfl) ?_
    refine AWP.regsK 1 [{ hs := [(2, { k := i }), (4, { av := some (ai ((l.getD i default).fst)) })] }] (by kernel_rfl) (s' := AS.mk [(19, ao true), (18, AV.val (Value.tuple #[])), (17, AV.val (Value.tuple #[])), (16, AV.val (Value.tuple #[])), (15, AV.val (Value.tuple #[])), (14, AV.val (Value.tuple #[])), (13, AV.val (Value.tuple #[])), (12, ao (decide ((l.getD i default).fst < (1 : Int)))), (11, ao (decide ((l.getD i default).fst < (1 : Int)))), (10, ai ((l.getD i default).fst)), (9, AV.ptr (encA shareC l) (i * (2 : Nat))), (8, AV.ptr (encA shareC l) (i * (2 : Nat))), (7, ai (↑i : Int)), (6, AV.sl 2 (encA shareC l)), (4, ai 0), (0, AV.sl 2 (encA shareC l)), (1, ai (↑i : Int))] []) (C := [(↑i : Int) = (↑i : Int), i * (2 : Nat) < (encA shareC l).length, (encA shareC l)[i * (2 : Nat)]? = some (ai ((l.getD i default).fst)), decide ((l.getD i default).fst < (1 : Int)) = true, decide ((l.getD i default).fst < (1 : Int)) = true, decide ((l.getD i default).fst < (1 : Int)) = true, decide ((l.getD i default).fst < (1 : Int)) = true, decide ((l.getD i default).fst < (1 : Int)) = true, decide ((l.getD i default).fst < (1 : Int)) = true, decide ((l.getD i default).fst < (1 : Int)) = true]) (by kernel_rfl) ⟨rfl, (by simp only [encA_len (f := shareC) (e := 2) (fun _ => rfl)]; omega), (encA_at (f := shareC) (e := 2) (k := i) (j := 0) (fun _ => rfl) (by omega) rfl), (decide_eq_true (by omega)), (decide_eq_true (by omega)), (decide_eq_true (by omega)), (decide_eq_true (by omega)), (decide_eq_true (by omega)), (decide_eq_true (by omega)), (decide_eq_true (by omega)), trivial⟩ ?_
    refine AWP.wk [.keep [19, 4, 0, 1] []] (s' := AS.mk [(19, ao true), (4, ai 0), (0, AV.sl 2 (encA shareC l)), (1, ai (↑i : Int))] []) (by kernel_rfl) ?_
    refine AWP.condT (x := .tmp 19) (b := true) (by kernel_rfl) (by kernel_rfl) rfl ?_
    refine AWP.regsK 1 [{  }] (by kernel_rfl) (s' := AS.mk [(4, ai 9), (19, ao true), (0, AV.sl 2 (encA shareC l)), (1, ai (↑i : Int))] []) (C := []) (by kernel_rfl) trivial ?_
    refine AWP.ret (by kernel_rfl) ?_
    refine then_r ?_
    refine Done.ret_ (C := [Value.int .i64 9 = Value.int .i64 (shE l i)]) (by kernel_rfl) ⟨(by rw [e]), trivial⟩
  by_cases hr2 : 255 < (l.getD i default).1
  · have e : shE l i = 9 := by rw [shE, if_pos (.inr hr2)]
    refine Ret.of_fn Try.func56 (by kernel_rfl) 55 (by kernel_rfl) (by kernel_rfl) ?_
    refine AWP.regsK 1 [{  }] (by kernel_rfl) (s' := AS.mk [(4, ai 0), (0, AV.sl 2 (encA shareC l)), (1, ai (↑i : Int))] []) (C := []) (by kernel_rfl) trivial ?_
    refine AWP.seq (by kernel_rfl) ?_
    refine AWP.regsK 1 [{ hs := [(2, { k := i }), (4, { av := some (ai ((l.getD i default).fst)) }), (7, { g := false }), (8, { g := false }), (9, { k := i, g := false }), (10, { g := false }), (11, { av := some (ai ((l.getD i default).fst)), g := false }), (12, { g := false }), (13, { b := false })] }] (by kernel_rfl) (s' := AS.mk [(19, ao (decide ((l.getD i default).fst > (255 : Int)))), (18, ao (decide ((l.getD i default).fst > (255 : Int)))), (17, ai ((l.getD i default).fst)), (16, AV.ptr (encA shareC l) (i * (2 : Nat))), (15, AV.ptr (encA shareC l) (i * (2 : Nat))), (14, ai (↑i : Int)), (13, AV.sl 2 (encA shareC l)), (12, ao (decide ((l.getD i default).fst < (1 : Int)))), (11, ao (decide ((l.getD i default).fst < (1 : Int)))), (10, ai ((l.getD i default).fst)), (9, AV.ptr (encA shareC l) (i * (2 : Nat))), (8, AV.ptr (encA shareC l) (i * (2 : Nat))), (7, ai (↑i : Int)), (6, AV.sl 2 (encA shareC l)), (4, ai 0), (0, AV.sl 2 (encA shareC l)), (1, ai (↑i : Int))] []) (C := [(↑i : Int) = (↑i : Int), i * (2 : Nat) < (encA shareC l).length, (encA shareC l)[i * (2 : Nat)]? = some (ai ((l.getD i default).fst)), decide ((l.getD i default).fst < (1 : Int)) = false, decide ((l.getD i default).fst < (1 : Int)) = false, decide ((l.getD i default).fst < (1 : Int)) = false, (↑i : Int) = (↑i : Int), i * (2 : Nat) < (encA shareC l).length, decide ((l.getD i default).fst < (1 : Int)) = false, decide ((l.getD i default).fst < (1 : Int)) = false, (encA shareC l)[i * (2 : Nat)]? = some (ai ((l.getD i default).fst)), decide ((l.getD i default).fst < (1 : Int)) = false, decide ((l.getD i default).fst < (1 : Int)) = false]) (by kernel_rfl) ⟨rfl, (by simp only [encA_len (f := shareC) (e := 2) (fun _ => rfl)]; omega), (encA_at (f := shareC) (e := 2) (k := i) (j := 0) (fun _ => rfl) (by omega) rfl), (decide_eq_false (by omega)), (decide_eq_false (by omega)), (decide_eq_false (by omega)), rfl, (by simp only [encA_len (f := shareC) (e := 2) (fun _ => rfl)]; omega), (decide_eq_false (by omega)), (decide_eq_false (by omega)), (encA_at (f := shareC) (e := 2) (k := i) (j := 0) (fun _ => rfl) (by omega) rfl), (decide_eq_false (by omega)), (decide_eq_false (by omega)), trivial⟩ ?_
    refine AWP.wk [.keep [19, 4, 0, 1] []] (s' := AS.mk [(19, ao (decide ((l.getD i default).fst > (255 : Int)))), (4, ai 0), (0, AV.sl 2 (encA shareC l)), (1, ai (↑i : Int))] []) (by kernel_rfl) ?_
    refine AWP.condT (x := .tmp 19) (b := decide ((l.getD i default).fst > (255 : Int))) (by kernel_rfl) (by kernel_rfl) (decide_eq_true (by omega)) ?_
    refine AWP.regsK 1 [{  }] (by kernel_rfl) (s' := AS.mk [(4, ai 9), (19, ao (decide ((l.getD i default).fst > (255 : Int)))), (0, AV.sl 2 (encA shareC l)), (1, ai (↑i : Int))] []) (C := []) (by kernel_rfl) trivial ?_
    refine AWP.ret (by kernel_rfl) ?_
    refine then_r ?_
    refine Done.ret_ (C := [Value.int .i64 9 = Value.int .i64 (shE l i)]) (by kernel_rfl) ⟨(by rw [e]), trivial⟩
  have e0 : shE l i = if dupB l (l.getD i default).1 i = true then 10 else if (l.getD i default).2.length ≠ (l.getD 0 default).2.length then 4 else if 64 < (l.getD i default).2.length then 8 else 0 := by rw [shE, if_neg (by omega)]
  refine Ret.of_fn Try.func56 (by kernel_rfl) 55 (by kernel_rfl) (by kernel_rfl) ?_
  refine AWP.regsK 1 [{  }] (by kernel_rfl) (s' := AS.mk [(4, ai 0), (0, AV.sl 2 (encA shareC l)), (1, ai (↑i : Int))] []) (C := []) (by kernel_rfl) trivial ?_
  refine AWP.seq (by kernel_rfl) ?_
  refine AWP.regsK 1 [{ hs := [(2, { k := i }), (4, { av := some (ai ((l.getD i default).fst)) }), (7, { g := false }), (8, { g := false }), (9, { k := i, g := false }), (10, { g := false }), (11, { av := some (ai ((l.getD i default).fst)), g := false }), (12, { g := false }), (13, { b := false })] }] (by kernel_rfl) (s' := AS.mk [(19, ao (decide ((l.getD i default).fst > (255 : Int)))), (18, ao (decide ((l.getD i default).fst > (255 : Int)))), (17, ai ((l.getD i default).fst)), (16, AV.ptr (encA shareC l) (i * (2 : Nat))), (15, AV.ptr (encA shareC l) (i * (2 : Nat))), (14, ai (↑i : Int)), (13, AV.sl 2 (encA shareC l)), (12, ao (decide ((l.getD i default).fst < (1 : Int)))), (11, ao (decide ((l.getD i default).fst < (1 : Int)))), (10, ai ((l.getD i default).fst)), (9, AV.ptr (encA shareC l) (i * (2 : Nat))), (8, AV.ptr (encA shareC l) (i * (2 : Nat))), (7, ai (↑i : Int)), (6, AV.sl 2 (encA shareC l)), (4, ai 0), (0, AV.sl 2 (encA shareC l)), (1, ai (↑i : Int))] []) (C := [(↑i : Int) = (↑i : Int), i * (2 : Nat) < (encA shareC l).length, (encA shareC l)[i * (2 : Nat)]? = some (ai ((l.getD i default).fst)), decide ((l.getD i default).fst < (1 : Int)) = false, decide ((l.getD i default).fst < (1 : Int)) = false, decide ((l.getD i default).fst < (1 : Int)) = false, (↑i : Int) = (↑i : Int), i * (2 : Nat) < (encA shareC l).length, decide ((l.getD i default).fst < (1 : Int)) = false, decide ((l.getD i default).fst < (1 : Int)) = false, (encA shareC l)[i * (2 : Nat)]? = some (ai ((l.getD i default).fst)), decide ((l.getD i default).fst < (1 : Int)) = false, decide ((l.getD i default).fst < (1 : Int)) = false]) (by kernel_rfl) ⟨rfl, (by simp only [encA_len (f := shareC) (e := 2) (fun _ => rfl)]; omega), (encA_at (f := shareC) (e := 2) (k := i) (j := 0) (fun _ => rfl) (by omega) rfl), (decide_eq_false (by omega)), (decide_eq_false (by omega)), (decide_eq_false (by omega)), rfl, (by simp only [encA_len (f := shareC) (e := 2) (fun _ => rfl)]; omega), (decide_eq_false (by omega)), (decide_eq_false (by omega)), (encA_at (f := shareC) (e := 2) (k := i) (j := 0) (fun _ => rfl) (by omega) rfl), (decide_eq_false (by omega)), (decide_eq_false (by omega)), trivial⟩ ?_
  refine AWP.wk [.keep [19, 4, 0, 1] []] (s' := AS.mk [(19, ao (decide ((l.getD i default).fst > (255 : Int)))), (4, ai 0), (0, AV.sl 2 (encA shareC l)), (1, ai (↑i : Int))] []) (by kernel_rfl) ?_
  refine AWP.condF (x := .tmp 19) (b := decide ((l.getD i default).fst > (255 : Int))) (by kernel_rfl) (by kernel_rfl) (decide_eq_false (by omega)) ?_
  refine AWP.skip (by kernel_rfl) ?_
  refine then_n ?_
  refine AWP.seq (by kernel_rfl) ?_
  refine AWP.regsK 1 [{  }] (by kernel_rfl) (s' := AS.mk [(5, ai 0), (19, ao (decide ((l.getD i default).fst > (255 : Int)))), (4, ai 0), (0, AV.sl 2 (encA shareC l)), (1, ai (↑i : Int))] []) (C := []) (by kernel_rfl) trivial ?_
  refine AWP.block (id := 0) (by kernel_rfl) ?_
  refine AWP.loop (fun (k : Nat) => (⟨[(19, ao (decide ((l.getD i default).fst > (255 : Int)))), (0, AV.sl 2 (encA shareC l)), (1, ai (↑i : Int)), (5, ai k)], []⟩ : AS)) (fun k => (k ≤ i ∧ dupB l (l.getD i default).1 k = false)) (fun k => (i - k)) (by kernel_rfl) (0) ?_ (Weaks.of [.keep [19, 0, 1, 5] []] (s1 := AS.mk [(19, ao (decide ((l.getD i default).fst > (255 : Int)))), (0, AV.sl 2 (encA shareC l)), (1, ai (↑i : Int)), (5, ai 0)] []) (by kernel_rfl) rfl) ?_
  · exact ⟨by omega, rfl⟩
  rintro k ⟨hk, hd⟩
  refine AWP.seq (by kernel_rfl) ?_
  refine AWP.regsK 1 [{  }] (by kernel_rfl) (s' := AS.mk [(22, ao (decide ((↑k : Int) < (↑i : Int)))), (21, ai (↑i : Int)), (20, ai (↑k : Int)), (19, ao (decide ((l.getD i default).fst > (255 : Int)))), (0, AV.sl 2 (encA shareC l)), (1, ai (↑i : Int)), (5, ai (↑k : Int))] []) (C := []) (by kernel_rfl) trivial ?_
  refine AWP.wk [.keep [22, 19, 0, 1, 5] []] (s' := AS.mk [(22, ao (decide ((↑k : Int) < (↑i : Int)))), (19, ao (decide ((l.getD i default).fst > (255 : Int)))), (0, AV.sl 2 (encA shareC l)), (1, ai (↑i : Int)), (5, ai (↑k : Int))] []) (by kernel_rfl) ?_
  refine AWP.condD (x := .tmp 22) (p := (↑k : Int) < (↑i : Int)) (by kernel_rfl) (by kernel_rfl) (fun h1 => ?_) (fun h1 => ?_)
  · have hk2 : k < i := by omega
    by_cases h2 : (l.getD k default).1 = (l.getD i default).1
    · have e : shE l i = 10 := by rw [e0, if_pos (dupB_up hk2 h2)]
      refine AWP.skip (by kernel_rfl) ?_
      refine then_n ?_
      refine AWP.seq (by kernel_rfl) ?_
      refine AWP.block (id := 1) (by kernel_rfl) ?_
      refine AWP.regsK 1 [{ hs := [(2, { k := k }), (4, { av := some (ai ((l.getD k default).fst)) }), (7, { k := i }), (9, { av := some (ai ((l.getD i default).fst)) })], T := 10 }] (by kernel_rfl) (s' := AS.mk [(35, ao ((l.getD k default).fst == (l.getD i default).fst)), (25, AV.sl 2 (encA shareC l)), (26, ai (↑k : Int)), (27, AV.ptr (encA shareC l) (k * (2 : Nat))), (28, AV.ptr (encA shareC l) (k * (2 : Nat))), (29, ai ((l.getD k default).fst)), (30, AV.sl 2 (encA shareC l)), (31, ai (↑i : Int)), (32, AV.ptr (encA shareC l) (i * (2 : Nat))), (33, AV.ptr (encA shareC l) (i * (2 : Nat))), (34, ai ((l.getD i default).fst)), (22, ao (decide ((↑k : Int) < (↑i : Int)))), (19, ao (decide ((l.getD i default).fst > (255 : Int)))), (0, AV.sl 2 (encA shareC l)), (1, ai (↑i : Int)), (5, ai (↑k : Int))] []) (C := [(↑k : Int) = (↑k : Int), k * (2 : Nat) < (encA shareC l).length, (encA shareC l)[k * (2 : Nat)]? = some (ai ((l.getD k default).fst)), (↑i : Int) = (↑i : Int), i * (2 : Nat) < (encA shareC l).length, (encA shareC l)[i * (2 : Nat)]? = some (ai ((l.getD i default).fst))]) (by kernel_rfl) ⟨rfl, (by simp only [encA_len (f := shareC) (e := 2) (fun _ => rfl)]; omega), (encA_at (f := shareC) (e := 2) (k := k) (j := 0) (fun _ => rfl) (by omega) rfl), rfl, (by simp only [encA_len (f := shareC) (e := 2) (fun _ => rfl)]; omega), (encA_at (f := shareC) (e := 2) (k := i) (j := 0) (fun _ => rfl) (by omega) rfl), trivial⟩ ?_
      refine AWP.wk [.keep [35, 22, 19, 0, 1, 5] []] (s' := AS.mk [(35, ao ((l.getD k default).fst == (l.getD i default).fst)), (22, ao (decide ((↑k : Int) < (↑i : Int)))), (19, ao (decide ((l.getD i default).fst > (255 : Int)))), (0, AV.sl 2 (encA shareC l)), (1, ai (↑i : Int)), (5, ai (↑k : Int))] []) (by kernel_rfl) ?_
      refine AWP.condT (x := .tmp 35) (b := (l.getD k default).fst == (l.getD i default).fst) (by kernel_rfl) (by kernel_rfl) (decide_eq_true (by omega)) ?_
      refine AWP.regsK 1 [{  }] (by kernel_rfl) (s' := AS.mk [(4, ai 10), (35, ao ((l.getD k default).fst == (l.getD i default).fst)), (22, ao (decide ((↑k : Int) < (↑i : Int)))), (19, ao (decide ((l.getD i default).fst > (255 : Int)))), (0, AV.sl 2 (encA shareC l)), (1, ai (↑i : Int)), (5, ai (↑k : Int))] []) (C := []) (by kernel_rfl) trivial ?_
      refine AWP.ret (by kernel_rfl) ?_
      refine inb_r ?_
      refine then_r ?_
      refine round_r ?_
      refine inb_r ?_
      refine then_r ?_
      refine Done.ret_ (C := [Value.int .i64 10 = Value.int .i64 (shE l i)]) (by kernel_rfl) ⟨(by rw [e]), trivial⟩
    · have hn : dupB l (l.getD i default).1 (k + 1) = false := by rw [dupB, hd, decide_eq_false h2]; rfl
      refine AWP.skip (by kernel_rfl) ?_
      refine then_n ?_
      refine AWP.seq (by kernel_rfl) ?_
      refine AWP.block (id := 1) (by kernel_rfl) ?_
      refine AWP.regsK 1 [{ hs := [(2, { k := k }), (4, { av := some (ai ((l.getD k default).fst)) }), (7, { k := i }), (9, { av := some (ai ((l.getD i default).fst)) })], T := 10 }] (by kernel_rfl) (s' := AS.mk [(35, ao ((l.getD k default).fst == (l.getD i default).fst)), (25, AV.sl 2 (encA shareC l)), (26, ai (↑k : Int)), (27, AV.ptr (encA shareC l) (k * (2 : Nat))), (28, AV.ptr (encA shareC l) (k * (2 : Nat))), (29, ai ((l.getD k default).fst)), (30, AV.sl 2 (encA shareC l)), (31, ai (↑i : Int)), (32, AV.ptr (encA shareC l) (i * (2 : Nat))), (33, AV.ptr (encA shareC l) (i * (2 : Nat))), (34, ai ((l.getD i default).fst)), (22, ao (decide ((↑k : Int) < (↑i : Int)))), (19, ao (decide ((l.getD i default).fst > (255 : Int)))), (0, AV.sl 2 (encA shareC l)), (1, ai (↑i : Int)), (5, ai (↑k : Int))] []) (C := [(↑k : Int) = (↑k : Int), k * (2 : Nat) < (encA shareC l).length, (encA shareC l)[k * (2 : Nat)]? = some (ai ((l.getD k default).fst)), (↑i : Int) = (↑i : Int), i * (2 : Nat) < (encA shareC l).length, (encA shareC l)[i * (2 : Nat)]? = some (ai ((l.getD i default).fst))]) (by kernel_rfl) ⟨rfl, (by simp only [encA_len (f := shareC) (e := 2) (fun _ => rfl)]; omega), (encA_at (f := shareC) (e := 2) (k := k) (j := 0) (fun _ => rfl) (by omega) rfl), rfl, (by simp only [encA_len (f := shareC) (e := 2) (fun _ => rfl)]; omega), (encA_at (f := shareC) (e := 2) (k := i) (j := 0) (fun _ => rfl) (by omega) rfl), trivial⟩ ?_
      refine AWP.wk [.keep [35, 22, 19, 0, 1, 5] []] (s' := AS.mk [(35, ao ((l.getD k default).fst == (l.getD i default).fst)), (22, ao (decide ((↑k : Int) < (↑i : Int)))), (19, ao (decide ((l.getD i default).fst > (255 : Int)))), (0, AV.sl 2 (encA shareC l)), (1, ai (↑i : Int)), (5, ai (↑k : Int))] []) (by kernel_rfl) ?_
      refine AWP.condF (x := .tmp 35) (b := (l.getD k default).fst == (l.getD i default).fst) (by kernel_rfl) (by kernel_rfl) (decide_eq_false (by omega)) ?_
      refine AWP.skip (by kernel_rfl) ?_
      refine inb_n ?_
      refine then_n ?_
      refine AWP.reg { hs := [(1, { av := some (ai ((↑k : Int) + (1 : Int))) })] } (s' := AS.mk [(5, ai ((↑k : Int) + (1 : Int))), (24, ai ((↑k : Int) + (1 : Int))), (23, ai (↑k : Int)), (35, ao ((l.getD k default).fst == (l.getD i default).fst)), (22, ao (decide ((↑k : Int) < (↑i : Int)))), (19, ao (decide ((l.getD i default).fst > (255 : Int)))), (0, AV.sl 2 (encA shareC l)), (1, ai (↑i : Int))] []) (C := [ai (IntKind.i64.wrap ((↑k : Int) + (1 : Int))) = ai ((↑k : Int) + (1 : Int))]) (by kernel_rfl) ⟨(av_i64 (by omega) (by omega)), trivial⟩ ?_
      refine round_n (k + 1) ⟨by omega, hn⟩ (by omega) (Weaks.of [.keep [19, 0, 1, 5] []] (s1 := AS.mk [(19, ao (decide ((l.getD i default).fst > (255 : Int)))), (0, AV.sl 2 (encA shareC l)), (1, ai (↑i : Int)), (5, ai ((↑k : Int) + (1 : Int)))] []) (by kernel_rfl) rfl)
  · have ek : k = i := by omega
    subst ek
    rw [if_neg (by rw [hd]; decide)] at e0
    refine AWP.exit (id := 0) (by kernel_rfl) ?_
    refine then_e ?_
    refine round_e ?_
    refine inb_e ?_
    refine then_n ?_
    refine AWP.seq (by kernel_rfl) ?_
    refine AWP.regsK 1 [{ hs := [(2, { k := k }), (4, { av := some (AV.sl 1 (bytesA (l.getD k default).snd)) }), (5, { k := (l.getD k default).snd.length }), (7, { k := 0 }), (9, { av := some (AV.sl 1 (bytesA (l.getD (0 : Nat) default).snd)) }), (10, { k := (l.getD (0 : Nat) default).snd.length })], T := 11 }] (by kernel_rfl) (s' := AS.mk [(47, ao ((↑(l.getD k default).snd.length : Int) != (↑(l.getD (0 : Nat) default).snd.length : Int))), (36, AV.sl 2 (encA shareC l)), (37, ai (↑k : Int)), (38, AV.ptr (encA shareC l) (k * (2 : Nat))), (39, AV.ptr (encA shareC l) (k * (2 : Nat) + (1 : Nat))), (40, AV.sl 1 (bytesA (l.getD k default).snd)), (41, ai (↑(l.getD k default).snd.length : Int)), (42, AV.sl 2 (encA shareC l)), (43, AV.ptr (encA shareC l) (0 : Nat)), (44, AV.ptr (encA shareC l) (1 : Nat)), (45, AV.sl 1 (bytesA (l.getD (0 : Nat) default).snd)), (46, ai (↑(l.getD (0 : Nat) default).snd.length : Int)), (22, ao (decide ((↑k : Int) < (↑k : Int)))), (19, ao (decide ((l.getD k default).fst > (255 : Int)))), (0, AV.sl 2 (encA shareC l)), (1, ai (↑k : Int)), (5, ai (↑k : Int))] []) (C := [(↑k : Int) = (↑k : Int), k * (2 : Nat) < (encA shareC l).length, (encA shareC l)[k * (2 : Nat) + (1 : Nat)]? = some (AV.sl 1 (bytesA (l.getD k default).snd)), (bytesA (l.getD k default).snd).length = (l.getD k default).snd.length, (0 : Int) = (↑(0 : Nat) : Int), (0 : Nat) < (encA shareC l).length, (encA shareC l)[(1 : Nat)]? = some (AV.sl 1 (bytesA (l.getD (0 : Nat) default).snd)), (bytesA (l.getD (0 : Nat) default).snd).length = (l.getD (0 : Nat) default).snd.length]) (by kernel_rfl) ⟨rfl, (by simp only [encA_len (f := shareC) (e := 2) (fun _ => rfl)]; omega), (encA_at (f := shareC) (e := 2) (k := k) (j := 1) (fun _ => rfl) (by omega) rfl), (bytesA_len _), rfl, (by simp only [encA_len (f := shareC) (e := 2) (fun _ => rfl)]; omega), (encA_at (f := shareC) (e := 2) (k := 0) (j := 1) (fun _ => rfl) (by omega) rfl), (bytesA_len _), trivial⟩ ?_
    refine AWP.wk [.keep [47, 22, 19, 0, 1, 5] []] (s' := AS.mk [(47, ao ((↑(l.getD k default).snd.length : Int) != (↑(l.getD (0 : Nat) default).snd.length : Int))), (22, ao (decide ((↑k : Int) < (↑k : Int)))), (19, ao (decide ((l.getD k default).fst > (255 : Int)))), (0, AV.sl 2 (encA shareC l)), (1, ai (↑k : Int)), (5, ai (↑k : Int))] []) (by kernel_rfl) ?_
    refine AWP.condN (x := .tmp 47) (u := (↑(l.getD k default).snd.length : Int)) (v := (↑(l.getD (0 : Nat) default).snd.length : Int)) (by kernel_rfl) (by kernel_rfl) (fun h3 => ?_) (fun h3 => ?_)
    · skip
      refine AWP.regsK 1 [{  }] (by kernel_rfl) (s' := AS.mk [(4, ai 4), (47, ao ((↑(l.getD k default).snd.length : Int) != (↑(l.getD (0 : Nat) default).snd.length : Int))), (22, ao (decide ((↑k : Int) < (↑k : Int)))), (19, ao (decide ((l.getD k default).fst > (255 : Int)))), (0, AV.sl 2 (encA shareC l)), (1, ai (↑k : Int)), (5, ai (↑k : Int))] []) (C := []) (by kernel_rfl) trivial ?_
      refine AWP.ret (by kernel_rfl) ?_
      refine then_r ?_
      refine Done.ret_ (C := [Value.int .i64 4 = Value.int .i64 (shE l k)]) (by kernel_rfl) ⟨(by rw [e0, if_pos (by omega)]), trivial⟩
    rw [if_neg (by omega)] at e0
    refine AWP.skip (by kernel_rfl) ?_
    refine then_n ?_
    refine AWP.seq (by kernel_rfl) ?_
    refine AWP.regsK 1 [{ hs := [(2, { k := k }), (4, { av := some (AV.sl 1 (bytesA (l.getD k default).snd)) }), (5, { k := (l.getD k default).snd.length })] }] (by kernel_rfl) (s' := AS.mk [(54, ao (decide ((↑(l.getD k default).snd.length : Int) > (64 : Int)))), (53, ai (↑(l.getD k default).snd.length : Int)), (52, AV.sl 1 (bytesA (l.getD k default).snd)), (51, AV.ptr (encA shareC l) (k * (2 : Nat) + (1 : Nat))), (50, AV.ptr (encA shareC l) (k * (2 : Nat))), (49, ai (↑k : Int)), (48, AV.sl 2 (encA shareC l)), (47, ao ((↑(l.getD k default).snd.length : Int) != (↑(l.getD (0 : Nat) default).snd.length : Int))), (22, ao (decide ((↑k : Int) < (↑k : Int)))), (19, ao (decide ((l.getD k default).fst > (255 : Int)))), (0, AV.sl 2 (encA shareC l)), (1, ai (↑k : Int)), (5, ai (↑k : Int))] []) (C := [(↑k : Int) = (↑k : Int), k * (2 : Nat) < (encA shareC l).length, (encA shareC l)[k * (2 : Nat) + (1 : Nat)]? = some (AV.sl 1 (bytesA (l.getD k default).snd)), (bytesA (l.getD k default).snd).length = (l.getD k default).snd.length]) (by kernel_rfl) ⟨rfl, (by simp only [encA_len (f := shareC) (e := 2) (fun _ => rfl)]; omega), (encA_at (f := shareC) (e := 2) (k := k) (j := 1) (fun _ => rfl) (by omega) rfl), (bytesA_len _), trivial⟩ ?_
    refine AWP.wk [.keep [54, 47, 22, 19, 0, 1, 5] []] (s' := AS.mk [(54, ao (decide ((↑(l.getD k default).snd.length : Int) > (64 : Int)))), (47, ao ((↑(l.getD k default).snd.length : Int) != (↑(l.getD (0 : Nat) default).snd.length : Int))), (22, ao (decide ((↑k : Int) < (↑k : Int)))), (19, ao (decide ((l.getD k default).fst > (255 : Int)))), (0, AV.sl 2 (encA shareC l)), (1, ai (↑k : Int)), (5, ai (↑k : Int))] []) (by kernel_rfl) ?_
    refine AWP.condD (x := .tmp 54) (p := (↑(l.getD k default).snd.length : Int) > (64 : Int)) (by kernel_rfl) (by kernel_rfl) (fun h4 => ?_) (fun h4 => ?_)
    · skip
      refine AWP.regsK 1 [{  }] (by kernel_rfl) (s' := AS.mk [(4, ai 8), (54, ao (decide ((↑(l.getD k default).snd.length : Int) > (64 : Int)))), (47, ao ((↑(l.getD k default).snd.length : Int) != (↑(l.getD (0 : Nat) default).snd.length : Int))), (22, ao (decide ((↑k : Int) < (↑k : Int)))), (19, ao (decide ((l.getD k default).fst > (255 : Int)))), (0, AV.sl 2 (encA shareC l)), (1, ai (↑k : Int)), (5, ai (↑k : Int))] []) (C := []) (by kernel_rfl) trivial ?_
      refine AWP.ret (by kernel_rfl) ?_
      refine then_r ?_
      refine Done.ret_ (C := [Value.int .i64 8 = Value.int .i64 (shE l k)]) (by kernel_rfl) ⟨(by rw [e0, if_pos (by omega)]), trivial⟩
    rw [if_neg (by omega)] at e0
    refine AWP.skip (by kernel_rfl) ?_
    refine then_n ?_
    refine AWP.regsK 1 [{  }] (by kernel_rfl) (s' := AS.mk [(4, ai 0), (54, ao (decide ((↑(l.getD k default).snd.length : Int) > (64 : Int)))), (47, ao ((↑(l.getD k default).snd.length : Int) != (↑(l.getD (0 : Nat) default).snd.length : Int))), (22, ao (decide ((↑k : Int) < (↑k : Int)))), (19, ao (decide ((l.getD k default).fst > (255 : Int)))), (0, AV.sl 2 (encA shareC l)), (1, ai (↑k : Int)), (5, ai (↑k : Int))] []) (C := []) (by kernel_rfl) trivial ?_
    refine AWP.ret (by kernel_rfl) ?_
    refine Done.ret_ (C := [Value.int .i64 0 = Value.int .i64 (shE l k)]) (by kernel_rfl) ⟨(by rw [e0]), trivial⟩
theorem shE_zero {l : List Sh} {i : Nat} (h : shE l i = 0) : 1 ≤ (l.getD i default).1 ∧ (l.getD i default).1 ≤ 255 ∧ dupB l (l.getD i default).1 i = false ∧ (l.getD i default).2.length = (l.getD 0 default).2.length ∧ (l.getD i default).2.length ≤ 64 := by
  unfold shE at h
  split at h
  · cases h
  split at h
  · cases h
  rename_i hd
  split at h
  · cases h
  split at h
  · cases h
  exact ⟨by omega, by omega, by simpa using hd, by omega, by omega⟩
theorem chk_run (l : List Sh) : ∀ i, i ≤ l.length → (∀ k, k < i → shE l k = 0) → ∃ seen : List Bool, seen.length = 256 ∧ (∀ v : Int, 1 ≤ v → v ≤ 255 → seen.getD v.toNat false = dupB l v i) ∧ chk (l.getD 0 default).2.length seen (l.drop i) = chkE l
  | 0, _, _ => ⟨List.replicate 256 false, by simp, fun v h1 h2 => by
      rw [List.getD_eq_getElem?_getD, List.getElem?_replicate, if_pos (by omega)]; rfl, rfl⟩
  | i + 1, hi, h => by
    obtain ⟨seen, h1, h2, h3⟩ := chk_run l i (by omega) fun k hk => h k (by omega)
    obtain ⟨a1, a2, a3, a4, a5⟩ := shE_zero (h i (by omega))
    refine ⟨seen.set (l.getD i default).1.toNat true, by rw [List.length_set, h1], fun v v1 v2 => ?_, ?_⟩
    · rw [dupB, ← h2 v v1 v2]
      generalize (l.getD i default).1 = X at *
      rw [List.getD_eq_getElem?_getD, List.getD_eq_getElem?_getD]
      by_cases e : X = v
      · rw [← e, List.getElem?_set_self (by omega), decide_eq_true rfl, Bool.or_true]; rfl
      · rw [List.getElem?_set_ne (by omega), decide_eq_false e, Bool.or_false]
    · rw [← h3, drop_getD (show i < l.length by omega), chk, if_neg (by omega), if_neg (by rw [h2 _ a1 a2, a3]; decide), if_neg (by omega), if_neg (by omega)]
theorem chk_err (l : List Sh) {i : Nat} (hi : i < l.length) (h : ∀ k, k < i → shE l k = 0) (he : shE l i ≠ 0) : chkE l = shE l i := by
  obtain ⟨seen, h1, h2, h3⟩ := chk_run l i (by omega) h
  rw [← h3, drop_getD hi, chk]
  unfold shE at he ⊢
  by_cases c1 : (l.getD i default).1 < 1 ∨ 255 < (l.getD i default).1
  · rw [if_pos c1, if_pos c1]
  rw [if_neg c1] at he ⊢
  rw [if_neg c1]
  rw [h2 _ (by omega) (by omega)]
  by_cases c2 : dupB l (l.getD i default).1 i = true
  · rw [if_pos c2, if_pos c2]
  rw [if_neg c2] at he ⊢
  rw [if_neg c2]
  by_cases c3 : (l.getD i default).2.length ≠ (l.getD 0 default).2.length
  · rw [if_pos c3, if_pos c3]
  rw [if_neg c3] at he ⊢
  rw [if_neg c3]
  by_cases c4 : 64 < (l.getD i default).2.length
  · rw [if_pos c4, if_pos c4]
  · rw [if_neg c4] at he; exact absurd rfl he
theorem chk_ok (l : List Sh) (h : ∀ k, k < l.length → shE l k = 0) : chkE l = 0 := by
  obtain ⟨seen, h1, h2, h3⟩ := chk_run l l.length (Nat.le_refl _) h
  rw [← h3, List.drop_length, chk]
theorem gpow_mul (a b : UInt8) : ∀ n, gpow (gmul a b) n = gmul (gpow a n) (gpow b n)
  | 0 => (gmul_one 1).symm
  | n + 1 => by
    have h : ∀ (c : UInt8), gpow c (n + 1) = gmul (gpow c n) (gpow c 1) := fun c => gpow_add c n 1
    have h1 : ∀ (c : UInt8), gpow c 1 = c := fun c => by rw [gpow, gpow, rgmul_eq]; exact one_gmul c
    rw [h, h a, h b, h1, h1, h1, gpow_mul a b n, gmul_assoc, gmul_assoc, ← gmul_assoc (gpow b n), gmul_comm (gpow b n) a, gmul_assoc a]
theorem ginv_mul (a b : UInt8) : ginv (gmul a b) = gmul (ginv a) (ginv b) := by rw [ginv_eq, ginv_eq, ginv_eq, gpow_mul]
/-- The reference's weight. -/
def rwg (l : List Sh) (x : UInt8) (i : Nat) : Nat → UInt8
  | 0 => 1
  | m + 1 => if m ≠ i then gmul (rwg l x i m) (gmul (x ^^^ u8 (l.getD m default).1) (ginv (u8 (l.getD i default).1 ^^^ u8 (l.getD m default).1))) else rwg l x i m
theorem rwg_eq (l : List Sh) (x : UInt8) (i : Nat) : ∀ m, rwg l x i m = gmul (ovr l x i m) (ginv (ovr l (u8 (l.getD i default).1) i m))
  | 0 => (by decide +kernel : (1 : UInt8) = gmul 1 (ginv 1))
  | m + 1 => by
    rw [rwg, ovr, ovr]
    by_cases h : m ≠ i
    · rw [if_pos h, if_pos h, if_pos h, rwg_eq l x i m, ginv_mul]
      generalize ovr l x i m = a
      generalize ginv (ovr l (u8 (l.getD i default).1) i m) = b
      generalize x ^^^ u8 (l.getD m default).1 = c
      generalize ginv (u8 (l.getD i default).1 ^^^ u8 (l.getD m default).1) = d
      rw [gmul_assoc, gmul_assoc, ← gmul_assoc b, gmul_comm b c, gmul_assoc]
    · rw [if_neg h, if_neg h, if_neg h, rwg_eq l x i m]
theorem rwg_wgt (l : List Sh) (x : UInt8) (i : Nat) : rwg l x i l.length = wgt l x i := rwg_eq l x i l.length
theorem refmulG_ret (a b : UInt8) : Ret Try.prog 16 [ab a, ab b] (ab (gmul a b)) := by rw [← rgmul_eq]; exact refmul_ret a b
theorem refinvG_ret (a : UInt8) : Ret Try.prog 18 [ab a] (ab (ginv a)) := by rw [ginv_eq]; exact refinverse_ret a
end Go.Proofs.Ytbehdllomepkdaa
