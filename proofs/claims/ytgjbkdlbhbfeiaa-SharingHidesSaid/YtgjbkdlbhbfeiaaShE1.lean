/-
  The contracts of the rows: a row times a factor, the sum of two rows. No condition.
-/
import Derived.Test.YtgjbkdlbhbfeiaaShG
import Derived.Test.YtgjbkdlbhbfeiaaRK
namespace Go.Proofs.Ytgjbkdlbhbfeiaa
open Go.RowKit
set_option maxRecDepth 100000
set_option maxHeartbeats 4000000
set_option linter.unusedVariables false

theorem gsc_range (a : List UInt8) (f : UInt8) : (List.range a.length).map (fun k => rgmul (a.getD k 0) f) = gsc a f := by
  apply List.ext_getElem (by simp [gsc])
  intro i h1 h2
  rw [gsc_len] at h2
  simp [gsc, rgmul_eq, List.getD_eq_getElem?_getD, List.getElem?_eq_getElem h2]
theorem scaled_ret (a : List UInt8) (f : UInt8) (ha : a.length ≤ 1000000) : Ret Try.prog 11 [.sl 1 (bytesA a), ab f] (.own 1 (bytesA (gsc a f))) := by
  refine Ret.of_fn Try.func11 (by kernel_rfl) 23 (by kernel_rfl) (by kernel_rfl) ?_
  refine AWP.regsK 2 [{  }, {  }] (by kernel_rfl) (s' := AS.mk [(5, AV.nil), (4, AV.nil), (0, AV.sl 1 (bytesA a)), (1, ab f)] []) (C := []) (by kernel_rfl) trivial ?_
  refine AWP.seq (by kernel_rfl) ?_
  refine AWP.regsK 1 [{  }] (by kernel_rfl) (s' := AS.mk [(6, ai 0), (5, AV.nil), (4, AV.nil), (0, AV.sl 1 (bytesA a)), (1, ab f)] []) (C := []) (by kernel_rfl) trivial ?_
  refine AWP.block (id := 0) (by kernel_rfl) ?_
  refine AWP.loop (fun (i : Nat) => (⟨[(4, AV.nil), (0, AV.sl 1 (bytesA a)), (1, ab f), (5, AV.ref 21), (6, ai i)], [(21, ⟨1, true, false, bytesA ((List.range i).map fun k => rgmul (a.getD k 0) f)⟩)]⟩ : AS)) (fun i => (i ≤ a.length)) (fun i => (a.length - i)) (by kernel_rfl) (0) ?_ (Weaks.of [.nil 5 21 1, .keep [4, 0, 1, 5, 6] [21]] (s1 := AS.mk [(4, AV.nil), (0, AV.sl 1 (bytesA a)), (1, ab f), (5, AV.ref 21), (6, ai 0)] [(21, Row.mk 1 true false [])]) (by kernel_rfl) rfl) ?_
  · omega
  intro i hi
  refine AWP.seq (by kernel_rfl) ?_
  refine AWP.regsK 1 [{ hs := [(2, { k := a.length })] }] (by kernel_rfl) (s' := AS.mk [(10, ao (decide ((↑i : Int) < (↑a.length : Int)))), (9, ai (↑a.length : Int)), (8, AV.sl 1 (bytesA a)), (7, ai (↑i : Int)), (4, AV.nil), (0, AV.sl 1 (bytesA a)), (1, ab f), (5, AV.ref 21), (6, ai (↑i : Int))] [(21, Row.mk 1 true false (bytesA (List.map (fun k ↦ rgmul (a.getD k (0 : UInt8)) f) (List.range i))))]) (C := [(bytesA a).length = a.length]) (by kernel_rfl) ⟨(bytesA_len _), trivial⟩ ?_
  refine AWP.wk [.keep [10, 4, 0, 1, 5, 6] [21]] (s' := AS.mk [(10, ao (decide ((↑i : Int) < (↑a.length : Int)))), (4, AV.nil), (0, AV.sl 1 (bytesA a)), (1, ab f), (5, AV.ref 21), (6, ai (↑i : Int))] [(21, Row.mk 1 true false (bytesA (List.map (fun k ↦ rgmul (a.getD k (0 : UInt8)) f) (List.range i))))]) (by kernel_rfl) ?_
  refine AWP.condD (x := .tmp 10) (p := (↑i : Int) < (↑a.length : Int)) (by kernel_rfl) (by kernel_rfl) (fun h => ?_) (fun h => ?_)
  · skip
    refine AWP.skip (by kernel_rfl) ?_
    refine then_n ?_
    refine AWP.seq (by kernel_rfl) ?_
    refine AWP.block (id := 1) (by kernel_rfl) ?_
    refine AWP.reg { hs := [(3, { k := i }), (4, { av := some (ab (a.getD i (0 : UInt8))) }), (6, { av := some (ab (rgmul (a.getD i (0 : UInt8)) f)) }), (7, { av := some (AV.arr (bytesA [rgmul (a.getD i (0 : UInt8)) f])) }), (8, { av := some (AV.arr (bytesA (List.map (fun k ↦ rgmul (a.getD k (0 : UInt8)) f) (List.range i) ++ [rgmul (a.getD i (0 : UInt8)) f]))) })] } (s' := AS.mk [(5, AV.ref 21), (21, AV.ref 21), (20, AV.ref 20), (19, ab (rgmul (a.getD i (0 : UInt8)) f)), (18, ab f), (17, ab (a.getD i (0 : UInt8))), (16, AV.ptr (bytesA a) i), (15, ai (↑i : Int)), (14, AV.sl 1 (bytesA a)), (13, AV.dead), (10, ao (decide ((↑i : Int) < (↑a.length : Int)))), (4, AV.nil), (0, AV.sl 1 (bytesA a)), (1, ab f), (6, ai (↑i : Int))] [(21, Row.mk 1 true false (bytesA (List.map (fun k ↦ rgmul (a.getD k (0 : UInt8)) f) (List.range i) ++ [rgmul (a.getD i (0 : UInt8)) f]))), (20, Row.mk 1 true true (bytesA [rgmul (a.getD i (0 : UInt8)) f]))]) (C := [(↑i : Int) = (↑i : Int), i < (bytesA a).length, (bytesA a)[i]? = some (ab (a.getD i (0 : UInt8))), Ret Try.prog (10 : Nat) [ab (a.getD i (0 : UInt8)), ab f] (ab (rgmul (a.getD i (0 : UInt8)) f)), [ab (rgmul (a.getD i (0 : UInt8)) f)] = bytesA [rgmul (a.getD i (0 : UInt8)) f], bytesA (List.map (fun k ↦ rgmul (a.getD k (0 : UInt8)) f) (List.range i)) ++ bytesA [rgmul (a.getD i (0 : UInt8)) f] = bytesA (List.map (fun k ↦ rgmul (a.getD k (0 : UInt8)) f) (List.range i) ++ [rgmul (a.getD i (0 : UInt8)) f]), ((bytesA (List.map (fun k ↦ rgmul (a.getD k (0 : UInt8)) f) (List.range i))).length + (bytesA [rgmul (a.getD i (0 : UInt8)) f]).length) * (1 : Nat) ≤ (140737488355328 : Nat)]) (by kernel_rfl) ⟨rfl, (by simp only [bytesA_len]; omega), (bytesA_at (by omega)), (refmul_ret (a.getD i (0 : UInt8)) (f)), rfl, (bytesA_app _ _), (by simp only [bytesA_len, List.length_cons, List.length_nil, List.length_map, List.length_range]; omega), trivial⟩ ?_
    refine inb_n ?_
    refine then_n ?_
    refine AWP.reg { hs := [(1, { av := some (ai ((↑i : Int) + (1 : Int))) })] } (s' := AS.mk [(6, ai ((↑i : Int) + (1 : Int))), (12, ai ((↑i : Int) + (1 : Int))), (11, ai (↑i : Int)), (5, AV.ref 21), (21, AV.ref 21), (20, AV.ref 20), (19, ab (rgmul (a.getD i (0 : UInt8)) f)), (18, ab f), (17, ab (a.getD i (0 : UInt8))), (16, AV.ptr (bytesA a) i), (15, ai (↑i : Int)), (14, AV.sl 1 (bytesA a)), (13, AV.dead), (10, ao (decide ((↑i : Int) < (↑a.length : Int)))), (4, AV.nil), (0, AV.sl 1 (bytesA a)), (1, ab f)] [(21, Row.mk 1 true false (bytesA (List.map (fun k ↦ rgmul (a.getD k (0 : UInt8)) f) (List.range i) ++ [rgmul (a.getD i (0 : UInt8)) f]))), (20, Row.mk 1 true true (bytesA [rgmul (a.getD i (0 : UInt8)) f]))]) (C := [ai (IntKind.i64.wrap ((↑i : Int) + (1 : Int))) = ai ((↑i : Int) + (1 : Int))]) (by kernel_rfl) ⟨(av_i64 (by omega) (by omega)), trivial⟩ ?_
    refine round_n (i + 1) (by omega) (by omega) (Weaks.of [.keep [4, 0, 1, 5, 6] [21]] (s1 := AS.mk [(4, AV.nil), (0, AV.sl 1 (bytesA a)), (1, ab f), (5, AV.ref 21), (6, ai ((↑i : Int) + (1 : Int)))] [(21, Row.mk 1 true false (bytesA (List.map (fun k ↦ rgmul (a.getD k (0 : UInt8)) f) (List.range i) ++ [rgmul (a.getD i (0 : UInt8)) f])))]) (by kernel_rfl) (as_eq (f_cons rfl (f_cons rfl (f_cons rfl (f_cons rfl (f_cons rfl rfl))))) (h_cons (congrArg bytesA (range_snoc (fun k => rgmul (a.getD k 0) f) i)) rfl)))
  · have e : i = a.length := by omega
    refine AWP.exit (id := 0) (by kernel_rfl) ?_
    refine then_e ?_
    refine round_e ?_
    refine inb_e ?_
    refine then_n ?_
    refine AWP.regsK 1 [{  }] (by kernel_rfl) (s' := AS.mk [(4, AV.ref 21), (22, AV.ref 21), (10, ao (decide ((↑i : Int) < (↑a.length : Int)))), (0, AV.sl 1 (bytesA a)), (1, ab f), (5, AV.ref 21), (6, ai (↑i : Int))] [(21, Row.mk 1 true false (bytesA (List.map (fun k ↦ rgmul (a.getD k (0 : UInt8)) f) (List.range i))))]) (C := []) (by kernel_rfl) trivial ?_
    refine AWP.ret (by kernel_rfl) ?_
    refine Done.ret_ (C := [bytesA (List.map (fun k ↦ rgmul (a.getD k (0 : UInt8)) f) (List.range i)) = bytesA (gsc a f)]) (by kernel_rfl) ⟨(by rw [e, gsc_range]), trivial⟩
theorem added_ret (a b : List UInt8) (hb : a.length ≤ b.length) (ha : a.length ≤ 1000000) : Ret Try.prog 13 [.sl 1 (bytesA a), .sl 1 (bytesA b)] (.own 1 (bytesA (gad a b))) := by
  refine Ret.of_fn Try.func13 (by kernel_rfl) 26 (by kernel_rfl) (by kernel_rfl) ?_
  refine AWP.regsK 2 [{  }, {  }] (by kernel_rfl) (s' := AS.mk [(5, AV.nil), (4, AV.nil), (0, AV.sl 1 (bytesA a)), (1, AV.sl 1 (bytesA b))] []) (C := []) (by kernel_rfl) trivial ?_
  refine AWP.seq (by kernel_rfl) ?_
  refine AWP.regsK 1 [{  }] (by kernel_rfl) (s' := AS.mk [(6, ai 0), (5, AV.nil), (4, AV.nil), (0, AV.sl 1 (bytesA a)), (1, AV.sl 1 (bytesA b))] []) (C := []) (by kernel_rfl) trivial ?_
  refine AWP.block (id := 0) (by kernel_rfl) ?_
  refine AWP.loop (fun (i : Nat) => (⟨[(4, AV.nil), (0, AV.sl 1 (bytesA a)), (1, AV.sl 1 (bytesA b)), (5, AV.ref 24), (6, ai i)], [(24, ⟨1, true, false, bytesA ((List.range i).map fun k => a.getD k 0 ^^^ b.getD k 0)⟩)]⟩ : AS)) (fun i => (i ≤ a.length)) (fun i => (a.length - i)) (by kernel_rfl) (0) ?_ (Weaks.of [.nil 5 24 1, .keep [4, 0, 1, 5, 6] [24]] (s1 := AS.mk [(4, AV.nil), (0, AV.sl 1 (bytesA a)), (1, AV.sl 1 (bytesA b)), (5, AV.ref 24), (6, ai 0)] [(24, Row.mk 1 true false [])]) (by kernel_rfl) rfl) ?_
  · omega
  intro i hi
  refine AWP.seq (by kernel_rfl) ?_
  refine AWP.regsK 1 [{ hs := [(2, { k := a.length })] }] (by kernel_rfl) (s' := AS.mk [(10, ao (decide ((↑i : Int) < (↑a.length : Int)))), (9, ai (↑a.length : Int)), (8, AV.sl 1 (bytesA a)), (7, ai (↑i : Int)), (4, AV.nil), (0, AV.sl 1 (bytesA a)), (1, AV.sl 1 (bytesA b)), (5, AV.ref 24), (6, ai (↑i : Int))] [(24, Row.mk 1 true false (bytesA (List.map (fun k ↦ a.getD k (0 : UInt8) ^^^ b.getD k (0 : UInt8)) (List.range i))))]) (C := [(bytesA a).length = a.length]) (by kernel_rfl) ⟨(bytesA_len _), trivial⟩ ?_
  refine AWP.wk [.keep [10, 4, 0, 1, 5, 6] [24]] (s' := AS.mk [(10, ao (decide ((↑i : Int) < (↑a.length : Int)))), (4, AV.nil), (0, AV.sl 1 (bytesA a)), (1, AV.sl 1 (bytesA b)), (5, AV.ref 24), (6, ai (↑i : Int))] [(24, Row.mk 1 true false (bytesA (List.map (fun k ↦ a.getD k (0 : UInt8) ^^^ b.getD k (0 : UInt8)) (List.range i))))]) (by kernel_rfl) ?_
  refine AWP.condD (x := .tmp 10) (p := (↑i : Int) < (↑a.length : Int)) (by kernel_rfl) (by kernel_rfl) (fun h => ?_) (fun h => ?_)
  · skip
    refine AWP.skip (by kernel_rfl) ?_
    refine then_n ?_
    refine AWP.seq (by kernel_rfl) ?_
    refine AWP.block (id := 1) (by kernel_rfl) ?_
    refine AWP.reg { hs := [(3, { k := i }), (4, { av := some (ab (a.getD i (0 : UInt8))) }), (7, { k := i }), (8, { av := some (ab (b.getD i (0 : UInt8))) }), (9, { av := some (ab (a.getD i (0 : UInt8) ^^^ b.getD i (0 : UInt8))) }), (10, { av := some (AV.arr (bytesA [a.getD i (0 : UInt8) ^^^ b.getD i (0 : UInt8)])) }), (11, { av := some (AV.arr (bytesA (List.map (fun k ↦ a.getD k (0 : UInt8) ^^^ b.getD k (0 : UInt8)) (List.range i) ++ [a.getD i (0 : UInt8) ^^^ b.getD i (0 : UInt8)]))) })], T := 11 } (s' := AS.mk [(5, AV.ref 24), (24, AV.ref 24), (13, AV.dead), (14, AV.sl 1 (bytesA a)), (15, ai (↑i : Int)), (16, AV.ptr (bytesA a) i), (17, ab (a.getD i (0 : UInt8))), (18, AV.sl 1 (bytesA b)), (19, ai (↑i : Int)), (20, AV.ptr (bytesA b) i), (21, ab (b.getD i (0 : UInt8))), (22, ab (a.getD i (0 : UInt8) ^^^ b.getD i (0 : UInt8))), (23, AV.sl 1 (bytesA [a.getD i (0 : UInt8) ^^^ b.getD i (0 : UInt8)])), (10, ao (decide ((↑i : Int) < (↑a.length : Int)))), (4, AV.nil), (0, AV.sl 1 (bytesA a)), (1, AV.sl 1 (bytesA b)), (6, ai (↑i : Int))] [(24, Row.mk 1 true false (bytesA (List.map (fun k ↦ a.getD k (0 : UInt8) ^^^ b.getD k (0 : UInt8)) (List.range i) ++ [a.getD i (0 : UInt8) ^^^ b.getD i (0 : UInt8)])))]) (C := [(↑i : Int) = (↑i : Int), i < (bytesA a).length, (bytesA a)[i]? = some (ab (a.getD i (0 : UInt8))), (↑i : Int) = (↑i : Int), i < (bytesA b).length, (bytesA b)[i]? = some (ab (b.getD i (0 : UInt8))), AV.val (Value.int .u8 (IntKind.u8.wrap (↑(BitVec.ofInt IntKind.u8.bits (bv (a.getD i (0 : UInt8))) ^^^ BitVec.ofInt IntKind.u8.bits (bv (b.getD i (0 : UInt8)))).toNat : Int))) = ab (a.getD i (0 : UInt8) ^^^ b.getD i (0 : UInt8)), [ab (a.getD i (0 : UInt8) ^^^ b.getD i (0 : UInt8))] = bytesA [a.getD i (0 : UInt8) ^^^ b.getD i (0 : UInt8)], bytesA (List.map (fun k ↦ a.getD k (0 : UInt8) ^^^ b.getD k (0 : UInt8)) (List.range i)) ++ bytesA [a.getD i (0 : UInt8) ^^^ b.getD i (0 : UInt8)] = bytesA (List.map (fun k ↦ a.getD k (0 : UInt8) ^^^ b.getD k (0 : UInt8)) (List.range i) ++ [a.getD i (0 : UInt8) ^^^ b.getD i (0 : UInt8)]), ((bytesA (List.map (fun k ↦ a.getD k (0 : UInt8) ^^^ b.getD k (0 : UInt8)) (List.range i))).length + (bytesA [a.getD i (0 : UInt8) ^^^ b.getD i (0 : UInt8)]).length) * (1 : Nat) ≤ (140737488355328 : Nat)]) (by kernel_rfl) ⟨rfl, (by simp only [bytesA_len]; omega), (bytesA_at (by omega)), rfl, (by simp only [bytesA_len]; omega), (bytesA_at (by omega)), (avb_xor (a.getD i (0 : UInt8)) (b.getD i (0 : UInt8))), rfl, (bytesA_app _ _), (by simp only [bytesA_len, List.length_cons, List.length_nil, List.length_map, List.length_range]; omega), trivial⟩ ?_
    refine inb_n ?_
    refine then_n ?_
    refine AWP.reg { hs := [(1, { av := some (ai ((↑i : Int) + (1 : Int))) })] } (s' := AS.mk [(6, ai ((↑i : Int) + (1 : Int))), (12, ai ((↑i : Int) + (1 : Int))), (11, ai (↑i : Int)), (5, AV.ref 24), (24, AV.ref 24), (13, AV.dead), (14, AV.sl 1 (bytesA a)), (15, ai (↑i : Int)), (16, AV.ptr (bytesA a) i), (17, ab (a.getD i (0 : UInt8))), (18, AV.sl 1 (bytesA b)), (19, ai (↑i : Int)), (20, AV.ptr (bytesA b) i), (21, ab (b.getD i (0 : UInt8))), (22, ab (a.getD i (0 : UInt8) ^^^ b.getD i (0 : UInt8))), (23, AV.sl 1 (bytesA [a.getD i (0 : UInt8) ^^^ b.getD i (0 : UInt8)])), (10, ao (decide ((↑i : Int) < (↑a.length : Int)))), (4, AV.nil), (0, AV.sl 1 (bytesA a)), (1, AV.sl 1 (bytesA b))] [(24, Row.mk 1 true false (bytesA (List.map (fun k ↦ a.getD k (0 : UInt8) ^^^ b.getD k (0 : UInt8)) (List.range i) ++ [a.getD i (0 : UInt8) ^^^ b.getD i (0 : UInt8)])))]) (C := [ai (IntKind.i64.wrap ((↑i : Int) + (1 : Int))) = ai ((↑i : Int) + (1 : Int))]) (by kernel_rfl) ⟨(av_i64 (by omega) (by omega)), trivial⟩ ?_
    refine round_n (i + 1) (by omega) (by omega) (Weaks.of [.keep [4, 0, 1, 5, 6] [24]] (s1 := AS.mk [(4, AV.nil), (0, AV.sl 1 (bytesA a)), (1, AV.sl 1 (bytesA b)), (5, AV.ref 24), (6, ai ((↑i : Int) + (1 : Int)))] [(24, Row.mk 1 true false (bytesA (List.map (fun k ↦ a.getD k (0 : UInt8) ^^^ b.getD k (0 : UInt8)) (List.range i) ++ [a.getD i (0 : UInt8) ^^^ b.getD i (0 : UInt8)])))]) (by kernel_rfl) (as_eq (f_cons rfl (f_cons rfl (f_cons rfl (f_cons rfl (f_cons rfl rfl))))) (h_cons (congrArg bytesA (range_snoc (fun k => a.getD k 0 ^^^ b.getD k 0) i)) rfl)))
  · have e : i = a.length := by omega
    subst e
    refine AWP.exit (id := 0) (by kernel_rfl) ?_
    refine then_e ?_
    refine round_e ?_
    refine inb_e ?_
    refine then_n ?_
    refine AWP.regsK 1 [{  }] (by kernel_rfl) (s' := AS.mk [(4, AV.ref 24), (25, AV.ref 24), (10, ao (decide ((↑a.length : Int) < (↑a.length : Int)))), (0, AV.sl 1 (bytesA a)), (1, AV.sl 1 (bytesA b)), (5, AV.ref 24), (6, ai (↑a.length : Int))] [(24, Row.mk 1 true false (bytesA (List.map (fun k ↦ a.getD k (0 : UInt8) ^^^ b.getD k (0 : UInt8)) (List.range a.length))))]) (C := []) (by kernel_rfl) trivial ?_
    refine AWP.ret (by kernel_rfl) ?_
    refine Done.ret_ (C := [bytesA (List.map (fun k ↦ a.getD k (0 : UInt8) ^^^ b.getD k (0 : UInt8)) (List.range a.length)) = bytesA (gad a b)]) (by kernel_rfl) ⟨rfl, trivial⟩
end Go.Proofs.Ytgjbkdlbhbfeiaa
