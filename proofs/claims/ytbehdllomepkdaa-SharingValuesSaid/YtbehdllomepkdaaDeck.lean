/-
  The contracts of passkeycast's Deck. No condition.
-/
import Derived.Test.YtbehdllomepkdaaCast
import Derived.Test.YtbehdllomepkdaaRM
import Derived.Test.YtbehdllomepkdaaRJ
namespace Go.Proofs.Ytbehdllomepkdaa
open Go.RowKit
set_option maxRecDepth 100000
set_option maxHeartbeats 4000000
set_option linter.unusedVariables false

/-- What a deck gives, and where it stands then. -/
def dkN (l : List Int) (k : Nat) (n : Int) : Nat := if k < l.length then modI (l.getD k 0) n else 0
def dkA (l : List Int) (k : Nat) : Nat := if k < l.length then k + 1 else k
theorem new_ret (l : List Int) : Ret Try.prog 25 [.sl 1 (intsA l)] (.box [.sl 1 (intsA l), ai (0 : Nat)]) := by
  refine Ret.of_fn Try.func25 (by kernel_rfl) 6 (by kernel_rfl) (by kernel_rfl) ?_
  refine AWP.regsK 2 [{  }, {  }] (by kernel_rfl) (s' := AS.mk [(2, AV.addr 5 0), (5, AV.addr 5 0), (4, AV.agg [AV.sl 1 (intsA l), ai 0]), (3, AV.sl 1 (intsA l)), (0, AV.sl 1 (intsA l))] [(5, Row.mk 1 false true [AV.sl 1 (intsA l), ai 0])]) (C := []) (by kernel_rfl) trivial ?_
  refine AWP.wk [.keep [2, 0] [5]] (s' := AS.mk [(2, AV.addr 5 0), (0, AV.sl 1 (intsA l))] [(5, Row.mk 1 false true [AV.sl 1 (intsA l), ai 0])]) (by kernel_rfl) ?_
  refine AWP.ret (by kernel_rfl) ?_
  refine Done.ret_ (C := [[AV.sl 1 (intsA l), ai 0] = [AV.sl 1 (intsA l), ai (↑(0 : Nat) : Int)]]) (by kernel_rfl) ⟨rfl, trivial⟩
theorem next_retm (l : List Int) (k : Nat) (n : Int) (hk : k ≤ l.length) (hl : l.length ≤ 9223372036854775807) (h1 : 1 ≤ n) (h2 : n ≤ 9223372036854775807) : RetM Try.prog 26 [.addr 1000000000000 0, ai n] [(1000000000000, ⟨1, false, true, [.sl 1 (intsA l), ai k]⟩)] (ai (dkN l k n)) [(1000000000000, ⟨1, false, true, [.sl 1 (intsA l), ai (dkA l k)]⟩)] := by
  by_cases h : k < l.length
  · have e1 : dkN l k n = modI (l.getD k 0) n := if_pos h
    have e2 : dkA l k = k + 1 := if_pos h
    have ew : IntKind.i64.wrap ((k : Int) + 1) = ((k + 1 : Nat) : Int) := by rw [IntKind.wrap_i64]; omega
    have ev : IntKind.i64.wrap (((k + 1 : Nat) : Int) - 1) = (k : Int) := by rw [IntKind.wrap_i64]; omega
    rw [e1, e2]
    refine RetM.of_fn Try.func26 (by kernel_rfl) 35 (by kernel_rfl) (by kernel_rfl) ?_
    refine AWP.regsK 1 [{  }] (by kernel_rfl) (s' := AS.mk [(4, ai 0), (0, AV.addr 1000000000000 0), (1, ai n)] [(1000000000000, Row.mk 1 false true [AV.sl 1 (intsA l), ai (↑k : Int)])]) (C := []) (by kernel_rfl) trivial ?_
    refine AWP.seq (by kernel_rfl) ?_
    refine AWP.regsK 1 [{ hs := [(8, { k := l.length })], T := 9 }] (by kernel_rfl) (s' := AS.mk [(14, ao (decide ((↑k : Int) ≥ (↑l.length : Int)))), (5, AV.addr 1000000000000 0), (6, AV.addr 1000000000000 0), (7, AV.addr 1000000000000 1), (8, ai (↑k : Int)), (9, AV.addr 1000000000000 0), (10, AV.addr 1000000000000 0), (11, AV.addr 1000000000000 0), (12, AV.sl 1 (intsA l)), (13, ai (↑l.length : Int)), (4, ai 0), (0, AV.addr 1000000000000 0), (1, ai n)] [(1000000000000, Row.mk 1 false true [AV.sl 1 (intsA l), ai (↑k : Int)])]) (C := [(intsA l).length = l.length]) (by kernel_rfl) ⟨(intsA_len _), trivial⟩ ?_
    refine AWP.wk [.keep [14, 4, 0, 1] [1000000000000]] (s' := AS.mk [(14, ao (decide ((↑k : Int) ≥ (↑l.length : Int)))), (4, ai 0), (0, AV.addr 1000000000000 0), (1, ai n)] [(1000000000000, Row.mk 1 false true [AV.sl 1 (intsA l), ai (↑k : Int)])]) (by kernel_rfl) ?_
    refine AWP.condF (x := .tmp 14) (b := decide ((↑k : Int) ≥ (↑l.length : Int))) (by kernel_rfl) (by kernel_rfl) (decide_eq_false (by omega)) ?_
    refine AWP.skip (by kernel_rfl) ?_
    refine then_n ?_
    refine AWP.regsK 2 [{ hs := [(4, { av := some (ai (↑(k + (1 : Nat)) : Int)) })] }, { hs := [(8, { av := some (ai (↑k : Int)) }), (9, { k := k }), (10, { av := some (ai (l.getD k (0 : Int))) }), (12, { av := some (ai (↑(modI (l.getD k (0 : Int)) n) : Int)) })], T := 12 }] (by kernel_rfl) (s' := AS.mk [(4, ai (↑(modI (l.getD k (0 : Int)) n) : Int)), (34, ai (↑(modI (l.getD k (0 : Int)) n) : Int)), (22, AV.addr 1000000000000 0), (23, AV.addr 1000000000000 0), (24, AV.addr 1000000000000 0), (25, AV.sl 1 (intsA l)), (26, AV.addr 1000000000000 0), (27, AV.addr 1000000000000 0), (28, AV.addr 1000000000000 1), (29, ai (↑(k + (1 : Nat)) : Int)), (30, ai (↑k : Int)), (31, AV.ptr (intsA l) k), (32, ai (l.getD k (0 : Int))), (33, ai n), (21, AV.addr 1000000000000 1), (20, AV.addr 1000000000000 0), (19, ai (↑(k + (1 : Nat)) : Int)), (18, ai (↑k : Int)), (17, AV.addr 1000000000000 1), (16, AV.addr 1000000000000 0), (15, AV.addr 1000000000000 0), (14, ao (decide ((↑k : Int) ≥ (↑l.length : Int)))), (0, AV.addr 1000000000000 0), (1, ai n)] [(1000000000000, Row.mk 1 false true [AV.sl 1 (intsA l), ai (↑(k + (1 : Nat)) : Int)])]) (C := [ai (IntKind.i64.wrap ((↑k : Int) + (1 : Int))) = ai (↑(k + (1 : Nat)) : Int), (2 : Nat) ≤ (2 : Nat), ai (IntKind.i64.wrap ((↑(k + (1 : Nat)) : Int) - (1 : Int))) = ai (↑k : Int), (↑k : Int) = (↑k : Int), k < (intsA l).length, (intsA l)[k]? = some (ai (l.getD k (0 : Int))), Ret Try.prog (20 : Nat) [ai (l.getD k (0 : Int)), ai n] (ai (↑(modI (l.getD k (0 : Int)) n) : Int))]) (by kernel_rfl) ⟨(av_i64 (by omega) (by omega)), (by omega), (congrArg (fun n => AV.val (.int .i64 n)) ev), rfl, (by simp only [intsA_len]; omega), (intsA_at (by omega)), (mod_ret (l.getD k (0 : Int)) (n) (by assumption) (by assumption)), trivial⟩ ?_
    refine AWP.wk [.keep [4, 14, 0, 1] [1000000000000]] (s' := AS.mk [(4, ai (↑(modI (l.getD k (0 : Int)) n) : Int)), (14, ao (decide ((↑k : Int) ≥ (↑l.length : Int)))), (0, AV.addr 1000000000000 0), (1, ai n)] [(1000000000000, Row.mk 1 false true [AV.sl 1 (intsA l), ai (↑(k + (1 : Nat)) : Int)])]) (by kernel_rfl) ?_
    refine AWP.ret (by kernel_rfl) ?_
    refine DoneM.ret_ [] (s2 := AS.mk [(4, ai (↑(modI (l.getD k (0 : Int)) n) : Int)), (14, ao (decide ((↑k : Int) ≥ (↑l.length : Int)))), (0, AV.addr 1000000000000 0), (1, ai n)] [(1000000000000, Row.mk 1 false true [AV.sl 1 (intsA l), ai (↑(k + (1 : Nat)) : Int)])]) (by kernel_rfl) (C := [Value.int .i64 (↑(modI (l.getD k (0 : Int)) n) : Int) = Value.int .i64 (↑(modI (l.getD k (0 : Int)) n) : Int), [AV.sl 1 (intsA l), ai (↑(k + (1 : Nat)) : Int)] = [AV.sl 1 (intsA l), ai (↑(k + (1 : Nat)) : Int)]]) (by kernel_rfl) ⟨rfl, rfl, trivial⟩
  · have e1 : dkN l k n = 0 := if_neg h
    have e2 : dkA l k = k := if_neg h
    rw [e1, e2]
    refine RetM.of_fn Try.func26 (by kernel_rfl) 35 (by kernel_rfl) (by kernel_rfl) ?_
    refine AWP.regsK 1 [{  }] (by kernel_rfl) (s' := AS.mk [(4, ai 0), (0, AV.addr 1000000000000 0), (1, ai n)] [(1000000000000, Row.mk 1 false true [AV.sl 1 (intsA l), ai (↑k : Int)])]) (C := []) (by kernel_rfl) trivial ?_
    refine AWP.seq (by kernel_rfl) ?_
    refine AWP.regsK 1 [{ hs := [(8, { k := l.length })], T := 9 }] (by kernel_rfl) (s' := AS.mk [(14, ao (decide ((↑k : Int) ≥ (↑l.length : Int)))), (5, AV.addr 1000000000000 0), (6, AV.addr 1000000000000 0), (7, AV.addr 1000000000000 1), (8, ai (↑k : Int)), (9, AV.addr 1000000000000 0), (10, AV.addr 1000000000000 0), (11, AV.addr 1000000000000 0), (12, AV.sl 1 (intsA l)), (13, ai (↑l.length : Int)), (4, ai 0), (0, AV.addr 1000000000000 0), (1, ai n)] [(1000000000000, Row.mk 1 false true [AV.sl 1 (intsA l), ai (↑k : Int)])]) (C := [(intsA l).length = l.length]) (by kernel_rfl) ⟨(intsA_len _), trivial⟩ ?_
    refine AWP.wk [.keep [14, 4, 0, 1] [1000000000000]] (s' := AS.mk [(14, ao (decide ((↑k : Int) ≥ (↑l.length : Int)))), (4, ai 0), (0, AV.addr 1000000000000 0), (1, ai n)] [(1000000000000, Row.mk 1 false true [AV.sl 1 (intsA l), ai (↑k : Int)])]) (by kernel_rfl) ?_
    refine AWP.condT (x := .tmp 14) (b := decide ((↑k : Int) ≥ (↑l.length : Int))) (by kernel_rfl) (by kernel_rfl) (decide_eq_true (by omega)) ?_
    refine AWP.regsK 1 [{  }] (by kernel_rfl) (s' := AS.mk [(4, ai 0), (14, ao (decide ((↑k : Int) ≥ (↑l.length : Int)))), (0, AV.addr 1000000000000 0), (1, ai n)] [(1000000000000, Row.mk 1 false true [AV.sl 1 (intsA l), ai (↑k : Int)])]) (C := []) (by kernel_rfl) trivial ?_
    refine AWP.ret (by kernel_rfl) ?_
    refine then_r ?_
    refine DoneM.ret_ [] (s2 := AS.mk [(4, ai 0), (14, ao (decide ((↑k : Int) ≥ (↑l.length : Int)))), (0, AV.addr 1000000000000 0), (1, ai n)] [(1000000000000, Row.mk 1 false true [AV.sl 1 (intsA l), ai (↑k : Int)])]) (by kernel_rfl) (C := [Value.int .i64 0 = Value.int .i64 (↑(0 : Nat) : Int), [AV.sl 1 (intsA l), ai (↑k : Int)] = [AV.sl 1 (intsA l), ai (↑k : Int)]]) (by kernel_rfl) ⟨rfl, rfl, trivial⟩
theorem dkA_le {l : List Int} {k : Nat} (h : k ≤ l.length) : dkA l k ≤ l.length := by unfold dkA; split <;> omega
theorem dkN_lt (l : List Int) (k : Nat) {n : Int} (h : 1 ≤ n) : (dkN l k n : Int) < n := by
  unfold dkN
  split
  · unfold modI
    have := Int.emod_lt_of_pos (l.getD k 0 % 18446744073709551616) (show 0 < n by omega)
    have := Int.emod_nonneg (l.getD k 0 % 18446744073709551616) (show n ≠ 0 by omega)
    omega
  · omega
end Go.Proofs.Ytbehdllomepkdaa
