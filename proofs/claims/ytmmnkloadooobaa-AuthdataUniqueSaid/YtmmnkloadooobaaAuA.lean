/-
  The contract of the law AuthdataUnique. No condition.
-/
import Derived.Test.YtmmnkloadooobaaAu8a
import Derived.Test.YtmmnkloadooobaaAuQ
namespace Go.Proofs.Ytmmnkloadooobaa
open Go.RowKit
set_option maxRecDepth 100000
set_option maxHeartbeats 4000000
set_option linter.unusedVariables false
--@au0

theorem encode_of {x : List UInt8} (h : dcE x = 0) : Ret Try.prog 16 [.agg [aw (dcW x), ai (dcF x), ai (dcC x), ai (dcR x), aw (dcM x), .sl 1 (bytesA (dcI x)), ai (dcH x), aw (dcK x)]] (.tup [.own 1 (bytesA x), ai 0]) := by
  have he := encode14_ret (dcW x) (dcF x) (dcC x) (dcR x) (dcM x) (dcI x) (dcH x) (dcK x)
  obtain ⟨h1, h2⟩ := ad_unique h
  rw [h1, h2] at he
  exact he
theorem authdataUnique_law (b : List UInt8) (n at_ : Int) (by_ : UInt8) (_ : i64ok n) (_ : i64ok at_) : Ret Try.prog 13 [.sl 1 (bytesA b), ai n, ai at_, ab by_] (ao true) := by
  by_cases h1 : 400 < b.length
  · refine Ret.of_fn Try.func13 (by kernel_rfl) 73 (by kernel_rfl) (by kernel_rfl) ?_
    refine AWP.regsK 1 [{  }] (by kernel_rfl) (s' := AS.mk [(8, ao false), (0, AV.sl 1 (bytesA b)), (1, ai n), (2, ai at_), (3, ab by_)] []) (C := []) (by kernel_rfl) trivial ?_
    refine AWP.seq (by kernel_rfl) ?_
    refine AWP.regsP 1 [{ hs := [(1, { k := b.length })] }] [.keep [19, 8, 0, 1, 2, 3] []] (by kernel_rfl) (s' := AS.mk [(19, ao (decide ((↑b.length : Int) > (400 : Int)))), (8, ao false), (0, AV.sl 1 (bytesA b)), (1, ai n), (2, ai at_), (3, ab by_)] []) (C := [(bytesA b).length = b.length]) (by kernel_rfl) ⟨(bytesA_len _), trivial⟩ ?_
    refine AWP.condT (x := .tmp 19) (b := decide ((↑b.length : Int) > (400 : Int))) (by kernel_rfl) (by kernel_rfl) (decide_eq_true (by omega)) ?_
    refine AWP.regsK 1 [{ hs := [(0, { av := some (ao true) })] }] (by kernel_rfl) (s' := AS.mk [(8, ao true), (20, ao true), (19, ao (decide ((↑b.length : Int) > (400 : Int)))), (0, AV.sl 1 (bytesA b)), (1, ai n), (2, ai at_), (3, ab by_)] []) (C := [Ret Try.prog (14 : Nat) [] (ao true)]) (by kernel_rfl) ⟨(awake14_ret), trivial⟩ ?_
    refine AWP.ret (by kernel_rfl) ?_
    refine then_r ?_
    refine Done.ret_ (C := [Value.bool true = Value.bool true]) (by kernel_rfl) ⟨rfl, trivial⟩
  have hm := made_ret n 5
  generalize mFl n = zfl at *
  generalize mCo n = zco at *
  generalize mRa n = zra at *
  generalize mMo n = zmo at *
  generalize mId n = zid at *
  generalize mKh n = zkh at *
  generalize mKr n 5 = zkr at *
  have he := refencode14_ret 5 zfl zco zra zmo zid zkh zkr
  generalize adD 5 zfl zco zra zmo zid zkh zkr = c at *
  generalize adE zfl zco zra zmo zid zkh zkr = ce at *
  by_cases hc : c.length = 0
  · refine Ret.of_fn Try.func13 (by kernel_rfl) 73 (by kernel_rfl) (by kernel_rfl) ?_
    refine AWP.regsK 1 [{  }] (by kernel_rfl) (s' := AS.mk [(8, ao false), (0, AV.sl 1 (bytesA b)), (1, ai n), (2, ai at_), (3, ab by_)] []) (C := []) (by kernel_rfl) trivial ?_
    refine AWP.seq (by kernel_rfl) ?_
    refine AWP.regsP 1 [{ hs := [(1, { k := b.length })] }] [.keep [19, 8, 0, 1, 2, 3] []] (by kernel_rfl) (s' := AS.mk [(19, ao (decide ((↑b.length : Int) > (400 : Int)))), (8, ao false), (0, AV.sl 1 (bytesA b)), (1, ai n), (2, ai at_), (3, ab by_)] []) (C := [(bytesA b).length = b.length]) (by kernel_rfl) ⟨(bytesA_len _), trivial⟩ ?_
    refine AWP.condF (x := .tmp 19) (b := decide ((↑b.length : Int) > (400 : Int))) (by kernel_rfl) (by kernel_rfl) (decide_eq_false (by omega)) ?_
    refine AWP.skip (by kernel_rfl) ?_
    refine then_n ?_
    refine AWP.regsP 1 [{ hs := [(1, { av := some (AV.agg [aw (5 : UInt64), ai zfl, ai zco, ai zra, aw zmo, AV.own 1 (bytesA zid), ai zkh, aw zkr]) }), (2, { av := some (AV.tup [AV.own 1 (bytesA c), ai ce]) })] }] [.keep [9, 19, 8, 0, 1, 2, 3] [1024]] (by kernel_rfl) (s' := AS.mk [(9, AV.ref 1024), (19, ao (decide ((↑b.length : Int) > (400 : Int)))), (8, ao false), (0, AV.sl 1 (bytesA b)), (1, ai n), (2, ai at_), (3, ab by_)] [(1024, Row.mk 1 true false (bytesA c))]) (C := [Ret Try.prog (15 : Nat) [ai n, AV.val (Value.int .u64 5)] (AV.agg [aw (5 : UInt64), ai zfl, ai zco, ai zra, aw zmo, AV.own 1 (bytesA zid), ai zkh, aw zkr]), valR (bytesA zid), Ret Try.prog (17 : Nat) [AV.agg [aw (5 : UInt64), ai zfl, ai zco, ai zra, aw zmo, AV.sl 1 (bytesA zid), ai zkh, aw zkr]] (AV.tup [AV.own 1 (bytesA c), ai ce]), valR (bytesA c)]) (by kernel_rfl) ⟨(hm), (valR_bytes _), (he), (valR_bytes _), trivial⟩ ?_
    refine AWP.seq (by kernel_rfl) ?_
    refine AWP.regsP 1 [{ hs := [(1, { k := c.length })] }] [.keep [29, 9, 19, 8, 0, 1, 2, 3] [1024]] (by kernel_rfl) (s' := AS.mk [(29, ao (decide ((↑c.length : Int) > (0 : Int)))), (9, AV.ref 1024), (19, ao (decide ((↑b.length : Int) > (400 : Int)))), (8, ao false), (0, AV.sl 1 (bytesA b)), (1, ai n), (2, ai at_), (3, ab by_)] [(1024, Row.mk 1 true false (bytesA c))]) (C := [(bytesA c).length = c.length]) (by kernel_rfl) ⟨(bytesA_len _), trivial⟩ ?_
    refine AWP.condF (x := .tmp 29) (b := decide ((↑c.length : Int) > (0 : Int))) (by kernel_rfl) (by kernel_rfl) (decide_eq_false (by omega)) ?_
    refine AWP.skip (by kernel_rfl) ?_
    refine then_n ?_
    refine AWP.seq (by kernel_rfl) ?_
    refine AWP.regsK 1 [{  }] (by kernel_rfl) (s' := AS.mk [(11, ai 0), (29, ao (decide ((↑c.length : Int) > (0 : Int)))), (9, AV.ref 1024), (19, ao (decide ((↑b.length : Int) > (400 : Int)))), (8, ao false), (0, AV.sl 1 (bytesA b)), (1, ai n), (2, ai at_), (3, ab by_)] [(1024, Row.mk 1 true false (bytesA c))]) (C := []) (by kernel_rfl) trivial ?_
    refine AWP.block (id := 0) (by kernel_rfl) ?_
    refine AWP.loop (fun (i : Nat) => (⟨[(29, ao (decide ((↑c.length : Int) > (0 : Int)))), (19, ao (decide ((↑b.length : Int) > (400 : Int)))), (0, AV.sl 1 (bytesA b)), (1, ai n), (2, ai at_), (3, ab by_), (11, ai i), (9, AV.sl 1 (bytesA (c)))], []⟩ : AS)) (fun i => (i ≤ 2)) (fun i => (2 - i)) (by kernel_rfl) (0) ?_ (Weaks.of [.thaw 1024, .keep [29, 19, 0, 1, 2, 3, 11, 9] []] (s1 := AS.mk [(29, ao (decide ((↑c.length : Int) > (0 : Int)))), (19, ao (decide ((↑b.length : Int) > (400 : Int)))), (0, AV.sl 1 (bytesA b)), (1, ai n), (2, ai at_), (3, ab by_), (11, ai 0), (9, AV.sl 1 (bytesA c))] []) (by kernel_rfl) rfl) ?_
    · omega
    intro i hi
    refine AWP.seq (by kernel_rfl) ?_
    refine AWP.regsK 1 [{  }] (by kernel_rfl) (s' := AS.mk [(42, ao (decide ((↑i : Int) < (2 : Int)))), (41, ai (↑i : Int)), (29, ao (decide ((↑c.length : Int) > (0 : Int)))), (19, ao (decide ((↑b.length : Int) > (400 : Int)))), (0, AV.sl 1 (bytesA b)), (1, ai n), (2, ai at_), (3, ab by_), (11, ai (↑i : Int)), (9, AV.sl 1 (bytesA c))] []) (C := []) (by kernel_rfl) trivial ?_
    refine AWP.condD (x := .tmp 42) (p := (↑i : Int) < (2 : Int)) (by kernel_rfl) (by kernel_rfl) (fun h5 => ?_) (fun h5 => ?_)
    · rcases (show i = 0 ∨ i = 1 by omega) with e | e
      · subst e
        have hd := decode14_ret (b)
        by_cases hE : dcE (b) = 0
        · have hen := encode_of hE
          rw [hE] at hd
          generalize dcW (b) = zW at *
          generalize dcF (b) = zF at *
          generalize dcC (b) = zC at *
          generalize dcR (b) = zR at *
          generalize dcM (b) = zM at *
          generalize dcI (b) = zI at *
          generalize dcH (b) = zH at *
          generalize dcK (b) = zK at *
          refine AWP.skip (by kernel_rfl) ?_
          refine then_n ?_
          refine AWP.seq (by kernel_rfl) ?_
          refine AWP.block (id := 1) (by kernel_rfl) ?_
          refine AWP.regsP 2 [{ hs := [(4, { k := 0 })] }, { hs := [(1, { av := some (AV.tup [AV.agg [aw zW, ai zF, ai zC, ai zR, aw zM, AV.own 1 (bytesA zI), ai zH, aw zK], ai 0]) })] }] [.keep [14, 13, 12, 42, 29, 19, 0, 1, 2, 3, 11, 9] [13, 601053]] (by kernel_rfl) (s' := AS.mk [(14, ai 0), (13, AV.addr 13 0), (12, AV.sl 1 (bytesA b)), (42, ao (decide ((↑(0 : Nat) : Int) < (2 : Int)))), (29, ao (decide ((↑c.length : Int) > (0 : Int)))), (19, ao (decide ((↑b.length : Int) > (400 : Int)))), (0, AV.sl 1 (bytesA b)), (1, ai n), (2, ai at_), (3, ab by_), (11, ai (↑(0 : Nat) : Int)), (9, AV.sl 1 (bytesA c))] [(13, Row.mk 1 false true [aw zW, ai zF, ai zC, ai zR, aw zM, AV.ref 601053, ai zH, aw zK]), (601053, Row.mk 1 true false (bytesA zI))]) (C := [(↑(0 : Nat) : Int) = (↑(0 : Nat) : Int), (0 : Nat) < (2 : Nat), Ret Try.prog (34 : Nat) [AV.sl 1 (bytesA b)] (AV.tup [AV.agg [aw zW, ai zF, ai zC, ai zR, aw zM, AV.own 1 (bytesA zI), ai zH, aw zK], ai 0]), valR (bytesA zI), (8 : Nat) ≤ (8 : Nat)]) (by kernel_rfl) ⟨rfl, (by omega), (hd), (valR_bytes _), (by omega), trivial⟩ ?_
          refine AWP.seq (by kernel_rfl) ?_
          refine AWP.regsK 1 [{  }] (by kernel_rfl) (s' := AS.mk [(57, ao ((0 : Int) != (0 : Int))), (56, ai 0), (14, ai 0), (13, AV.addr 13 0), (12, AV.sl 1 (bytesA b)), (42, ao (decide ((↑(0 : Nat) : Int) < (2 : Int)))), (29, ao (decide ((↑c.length : Int) > (0 : Int)))), (19, ao (decide ((↑b.length : Int) > (400 : Int)))), (0, AV.sl 1 (bytesA b)), (1, ai n), (2, ai at_), (3, ab by_), (11, ai (↑(0 : Nat) : Int)), (9, AV.sl 1 (bytesA c))] [(13, Row.mk 1 false true [aw zW, ai zF, ai zC, ai zR, aw zM, AV.ref 601053, ai zH, aw zK]), (601053, Row.mk 1 true false (bytesA zI))]) (C := []) (by kernel_rfl) trivial ?_
          refine AWP.condF (x := .tmp 57) (b := (0 : Int) != (0 : Int)) (by kernel_rfl) (by kernel_rfl) rfl ?_
          refine AWP.skip (by kernel_rfl) ?_
          refine then_n ?_
          refine AWP.regsP 2 [{ hs := [(1, { av := some (AV.tup [AV.own 1 (bytesA b), ai 0]) })] }, { hs := [(3, { g := false }), (4, { av := some (AV.val (Value.string (ByteArray.mk b.toArray))), g := false }), (5, { g := false }), (6, { av := some (AV.val (Value.string (ByteArray.mk b.toArray))), g := false }), (7, { av := some (ao (b != b)), g := false }), (8, { b := false })] }] [.keep [71, 16, 15, 57, 14, 13, 12, 42, 29, 19, 0, 1, 2, 3, 11, 9] [1060, 13, 601053]] (by kernel_rfl) (s' := AS.mk [(71, ao (b != b)), (16, ai 0), (15, AV.ref 1060), (57, ao ((0 : Int) != (0 : Int))), (14, ai 0), (13, AV.addr 13 0), (12, AV.sl 1 (bytesA b)), (42, ao (decide ((↑(0 : Nat) : Int) < (2 : Int)))), (29, ao (decide ((↑c.length : Int) > (0 : Int)))), (19, ao (decide ((↑b.length : Int) > (400 : Int)))), (0, AV.sl 1 (bytesA b)), (1, ai n), (2, ai at_), (3, ab by_), (11, ai (↑(0 : Nat) : Int)), (9, AV.sl 1 (bytesA c))] [(1060, Row.mk 1 true false (bytesA b)), (13, Row.mk 1 false true [aw zW, ai zF, ai zC, ai zR, aw zM, AV.ref 601053, ai zH, aw zK]), (601053, Row.mk 1 true false (bytesA zI))]) (C := [Ret Try.prog (16 : Nat) [AV.agg [aw zW, ai zF, ai zC, ai zR, aw zM, AV.sl 1 (bytesA zI), ai zH, aw zK]] (AV.tup [AV.own 1 (bytesA b), ai 0]), valR (bytesA b), ((0 : Int) != (0 : Int)) = false, ((0 : Int) != (0 : Int)) = false, bytesA b = bytesA b.toArray.toList, ((0 : Int) != (0 : Int)) = false, ((0 : Int) != (0 : Int)) = false, bytesA b = bytesA b.toArray.toList, ((0 : Int) != (0 : Int)) = false, ao (!(ByteArray.mk b.toArray).toList == (ByteArray.mk b.toArray).toList) = ao (b != b), ((0 : Int) != (0 : Int)) = false]) (by kernel_rfl) ⟨(hen), (valR_bytes _), rfl, rfl, rfl, rfl, rfl, rfl, rfl, (str_ne (b) (b)), rfl, trivial⟩ ?_
          refine AWP.condF (x := .tmp 71) (b := b != b) (by kernel_rfl) (by kernel_rfl) (by simp_all) ?_
          refine AWP.skip (by kernel_rfl) ?_
          refine inb_n ?_
          refine then_n ?_
          refine AWP.reg { hs := [(1, { av := some (ai ((↑(0 : Nat) : Int) + (1 : Int))) })] } (s' := AS.mk [(11, ai ((↑(0 : Nat) : Int) + (1 : Int))), (44, ai ((↑(0 : Nat) : Int) + (1 : Int))), (43, ai (↑(0 : Nat) : Int)), (71, ao (b != b)), (16, ai 0), (15, AV.ref 1060), (57, ao ((0 : Int) != (0 : Int))), (14, ai 0), (13, AV.addr 13 0), (12, AV.sl 1 (bytesA b)), (42, ao (decide ((↑(0 : Nat) : Int) < (2 : Int)))), (29, ao (decide ((↑c.length : Int) > (0 : Int)))), (19, ao (decide ((↑b.length : Int) > (400 : Int)))), (0, AV.sl 1 (bytesA b)), (1, ai n), (2, ai at_), (3, ab by_), (9, AV.sl 1 (bytesA c))] [(1060, Row.mk 1 true false (bytesA b)), (13, Row.mk 1 false true [aw zW, ai zF, ai zC, ai zR, aw zM, AV.ref 601053, ai zH, aw zK]), (601053, Row.mk 1 true false (bytesA zI))]) (C := [ai (IntKind.i64.wrap ((↑(0 : Nat) : Int) + (1 : Int))) = ai ((↑(0 : Nat) : Int) + (1 : Int))]) (by kernel_rfl) ⟨(av_i64 (by omega) (by omega)), trivial⟩ ?_
          refine round_n (0 + 1) (by omega) (by omega) (Weaks.of [.keep [29, 19, 0, 1, 2, 3, 11, 9] []] (s1 := AS.mk [(29, ao (decide ((↑c.length : Int) > (0 : Int)))), (19, ao (decide ((↑b.length : Int) > (400 : Int)))), (0, AV.sl 1 (bytesA b)), (1, ai n), (2, ai at_), (3, ab by_), (11, ai ((↑(0 : Nat) : Int) + (1 : Int))), (9, AV.sl 1 (bytesA c))] []) (by kernel_rfl) rfl)
        · generalize dcE (b) = zE at *
          generalize dcW (b) = zW at *
          generalize dcF (b) = zF at *
          generalize dcC (b) = zC at *
          generalize dcR (b) = zR at *
          generalize dcM (b) = zM at *
          generalize dcI (b) = zI at *
          generalize dcH (b) = zH at *
          generalize dcK (b) = zK at *
          refine AWP.skip (by kernel_rfl) ?_
          refine then_n ?_
          refine AWP.seq (by kernel_rfl) ?_
          refine AWP.block (id := 1) (by kernel_rfl) ?_
          refine AWP.regsP 2 [{ hs := [(4, { k := 0 })] }, { hs := [(1, { av := some (AV.tup [AV.agg [aw zW, ai zF, ai zC, ai zR, aw zM, AV.own 1 (bytesA zI), ai zH, aw zK], ai zE]) })] }] [.keep [14, 13, 12, 42, 29, 19, 0, 1, 2, 3, 11, 9] [13, 601053]] (by kernel_rfl) (s' := AS.mk [(14, ai zE), (13, AV.addr 13 0), (12, AV.sl 1 (bytesA b)), (42, ao (decide ((↑(0 : Nat) : Int) < (2 : Int)))), (29, ao (decide ((↑c.length : Int) > (0 : Int)))), (19, ao (decide ((↑b.length : Int) > (400 : Int)))), (0, AV.sl 1 (bytesA b)), (1, ai n), (2, ai at_), (3, ab by_), (11, ai (↑(0 : Nat) : Int)), (9, AV.sl 1 (bytesA c))] [(13, Row.mk 1 false true [aw zW, ai zF, ai zC, ai zR, aw zM, AV.ref 601053, ai zH, aw zK]), (601053, Row.mk 1 true false (bytesA zI))]) (C := [(↑(0 : Nat) : Int) = (↑(0 : Nat) : Int), (0 : Nat) < (2 : Nat), Ret Try.prog (34 : Nat) [AV.sl 1 (bytesA b)] (AV.tup [AV.agg [aw zW, ai zF, ai zC, ai zR, aw zM, AV.own 1 (bytesA zI), ai zH, aw zK], ai zE]), valR (bytesA zI), (8 : Nat) ≤ (8 : Nat)]) (by kernel_rfl) ⟨rfl, (by omega), (hd), (valR_bytes _), (by omega), trivial⟩ ?_
          refine AWP.seq (by kernel_rfl) ?_
          refine AWP.regsK 1 [{  }] (by kernel_rfl) (s' := AS.mk [(57, ao (zE != (0 : Int))), (56, ai zE), (14, ai zE), (13, AV.addr 13 0), (12, AV.sl 1 (bytesA b)), (42, ao (decide ((↑(0 : Nat) : Int) < (2 : Int)))), (29, ao (decide ((↑c.length : Int) > (0 : Int)))), (19, ao (decide ((↑b.length : Int) > (400 : Int)))), (0, AV.sl 1 (bytesA b)), (1, ai n), (2, ai at_), (3, ab by_), (11, ai (↑(0 : Nat) : Int)), (9, AV.sl 1 (bytesA c))] [(13, Row.mk 1 false true [aw zW, ai zF, ai zC, ai zR, aw zM, AV.ref 601053, ai zH, aw zK]), (601053, Row.mk 1 true false (bytesA zI))]) (C := []) (by kernel_rfl) trivial ?_
          refine AWP.condT (x := .tmp 57) (b := zE != (0 : Int)) (by kernel_rfl) (by kernel_rfl) (by simp_all) ?_
          refine AWP.exit (id := 1) (by kernel_rfl) ?_
          refine then_e ?_
          refine inb_e ?_
          refine then_n ?_
          refine AWP.reg { hs := [(1, { av := some (ai ((↑(0 : Nat) : Int) + (1 : Int))) })] } (s' := AS.mk [(11, ai ((↑(0 : Nat) : Int) + (1 : Int))), (44, ai ((↑(0 : Nat) : Int) + (1 : Int))), (43, ai (↑(0 : Nat) : Int)), (57, ao (zE != (0 : Int))), (56, ai zE), (14, ai zE), (13, AV.addr 13 0), (12, AV.sl 1 (bytesA b)), (42, ao (decide ((↑(0 : Nat) : Int) < (2 : Int)))), (29, ao (decide ((↑c.length : Int) > (0 : Int)))), (19, ao (decide ((↑b.length : Int) > (400 : Int)))), (0, AV.sl 1 (bytesA b)), (1, ai n), (2, ai at_), (3, ab by_), (9, AV.sl 1 (bytesA c))] [(13, Row.mk 1 false true [aw zW, ai zF, ai zC, ai zR, aw zM, AV.ref 601053, ai zH, aw zK]), (601053, Row.mk 1 true false (bytesA zI))]) (C := [ai (IntKind.i64.wrap ((↑(0 : Nat) : Int) + (1 : Int))) = ai ((↑(0 : Nat) : Int) + (1 : Int))]) (by kernel_rfl) ⟨(av_i64 (by omega) (by omega)), trivial⟩ ?_
          refine round_n (0 + 1) (by omega) (by omega) (Weaks.of [.keep [29, 19, 0, 1, 2, 3, 11, 9] []] (s1 := AS.mk [(29, ao (decide ((↑c.length : Int) > (0 : Int)))), (19, ao (decide ((↑b.length : Int) > (400 : Int)))), (0, AV.sl 1 (bytesA b)), (1, ai n), (2, ai at_), (3, ab by_), (11, ai ((↑(0 : Nat) : Int) + (1 : Int))), (9, AV.sl 1 (bytesA c))] []) (by kernel_rfl) rfl)
      · subst e
        have hd := decode14_ret (c)
        by_cases hE : dcE (c) = 0
        · have hen := encode_of hE
          rw [hE] at hd
          generalize dcW (c) = zW at *
          generalize dcF (c) = zF at *
          generalize dcC (c) = zC at *
          generalize dcR (c) = zR at *
          generalize dcM (c) = zM at *
          generalize dcI (c) = zI at *
          generalize dcH (c) = zH at *
          generalize dcK (c) = zK at *
          refine AWP.skip (by kernel_rfl) ?_
          refine then_n ?_
          refine AWP.seq (by kernel_rfl) ?_
          refine AWP.block (id := 1) (by kernel_rfl) ?_
          refine AWP.regsP 2 [{ hs := [(4, { k := 1 })] }, { hs := [(1, { av := some (AV.tup [AV.agg [aw zW, ai zF, ai zC, ai zR, aw zM, AV.own 1 (bytesA zI), ai zH, aw zK], ai 0]) })] }] [.keep [14, 13, 12, 42, 29, 19, 0, 1, 2, 3, 11, 9] [13, 601053]] (by kernel_rfl) (s' := AS.mk [(14, ai 0), (13, AV.addr 13 0), (12, AV.sl 1 (bytesA c)), (42, ao (decide ((↑(1 : Nat) : Int) < (2 : Int)))), (29, ao (decide ((↑c.length : Int) > (0 : Int)))), (19, ao (decide ((↑b.length : Int) > (400 : Int)))), (0, AV.sl 1 (bytesA b)), (1, ai n), (2, ai at_), (3, ab by_), (11, ai (↑(1 : Nat) : Int)), (9, AV.sl 1 (bytesA c))] [(13, Row.mk 1 false true [aw zW, ai zF, ai zC, ai zR, aw zM, AV.ref 601053, ai zH, aw zK]), (601053, Row.mk 1 true false (bytesA zI))]) (C := [(↑(1 : Nat) : Int) = (↑(1 : Nat) : Int), (1 : Nat) < (2 : Nat), Ret Try.prog (34 : Nat) [AV.sl 1 (bytesA c)] (AV.tup [AV.agg [aw zW, ai zF, ai zC, ai zR, aw zM, AV.own 1 (bytesA zI), ai zH, aw zK], ai 0]), valR (bytesA zI), (8 : Nat) ≤ (8 : Nat)]) (by kernel_rfl) ⟨rfl, (by omega), (hd), (valR_bytes _), (by omega), trivial⟩ ?_
          refine AWP.seq (by kernel_rfl) ?_
          refine AWP.regsK 1 [{  }] (by kernel_rfl) (s' := AS.mk [(57, ao ((0 : Int) != (0 : Int))), (56, ai 0), (14, ai 0), (13, AV.addr 13 0), (12, AV.sl 1 (bytesA c)), (42, ao (decide ((↑(1 : Nat) : Int) < (2 : Int)))), (29, ao (decide ((↑c.length : Int) > (0 : Int)))), (19, ao (decide ((↑b.length : Int) > (400 : Int)))), (0, AV.sl 1 (bytesA b)), (1, ai n), (2, ai at_), (3, ab by_), (11, ai (↑(1 : Nat) : Int)), (9, AV.sl 1 (bytesA c))] [(13, Row.mk 1 false true [aw zW, ai zF, ai zC, ai zR, aw zM, AV.ref 601053, ai zH, aw zK]), (601053, Row.mk 1 true false (bytesA zI))]) (C := []) (by kernel_rfl) trivial ?_
          refine AWP.condF (x := .tmp 57) (b := (0 : Int) != (0 : Int)) (by kernel_rfl) (by kernel_rfl) rfl ?_
          refine AWP.skip (by kernel_rfl) ?_
          refine then_n ?_
          refine AWP.regsP 2 [{ hs := [(1, { av := some (AV.tup [AV.own 1 (bytesA c), ai 0]) })] }, { hs := [(3, { g := false }), (4, { av := some (AV.val (Value.string (ByteArray.mk c.toArray))), g := false }), (5, { g := false }), (6, { av := some (AV.val (Value.string (ByteArray.mk c.toArray))), g := false }), (7, { av := some (ao (c != c)), g := false }), (8, { b := false })] }] [.keep [71, 16, 15, 57, 14, 13, 12, 42, 29, 19, 0, 1, 2, 3, 11, 9] [1060, 13, 601053]] (by kernel_rfl) (s' := AS.mk [(71, ao (c != c)), (16, ai 0), (15, AV.ref 1060), (57, ao ((0 : Int) != (0 : Int))), (14, ai 0), (13, AV.addr 13 0), (12, AV.sl 1 (bytesA c)), (42, ao (decide ((↑(1 : Nat) : Int) < (2 : Int)))), (29, ao (decide ((↑c.length : Int) > (0 : Int)))), (19, ao (decide ((↑b.length : Int) > (400 : Int)))), (0, AV.sl 1 (bytesA b)), (1, ai n), (2, ai at_), (3, ab by_), (11, ai (↑(1 : Nat) : Int)), (9, AV.sl 1 (bytesA c))] [(1060, Row.mk 1 true false (bytesA c)), (13, Row.mk 1 false true [aw zW, ai zF, ai zC, ai zR, aw zM, AV.ref 601053, ai zH, aw zK]), (601053, Row.mk 1 true false (bytesA zI))]) (C := [Ret Try.prog (16 : Nat) [AV.agg [aw zW, ai zF, ai zC, ai zR, aw zM, AV.sl 1 (bytesA zI), ai zH, aw zK]] (AV.tup [AV.own 1 (bytesA c), ai 0]), valR (bytesA c), ((0 : Int) != (0 : Int)) = false, ((0 : Int) != (0 : Int)) = false, bytesA c = bytesA c.toArray.toList, ((0 : Int) != (0 : Int)) = false, ((0 : Int) != (0 : Int)) = false, bytesA c = bytesA c.toArray.toList, ((0 : Int) != (0 : Int)) = false, ao (!(ByteArray.mk c.toArray).toList == (ByteArray.mk c.toArray).toList) = ao (c != c), ((0 : Int) != (0 : Int)) = false]) (by kernel_rfl) ⟨(hen), (valR_bytes _), rfl, rfl, rfl, rfl, rfl, rfl, rfl, (str_ne (c) (c)), rfl, trivial⟩ ?_
          refine AWP.condF (x := .tmp 71) (b := c != c) (by kernel_rfl) (by kernel_rfl) (by simp_all) ?_
          refine AWP.skip (by kernel_rfl) ?_
          refine inb_n ?_
          refine then_n ?_
          refine AWP.reg { hs := [(1, { av := some (ai ((↑(1 : Nat) : Int) + (1 : Int))) })] } (s' := AS.mk [(11, ai ((↑(1 : Nat) : Int) + (1 : Int))), (44, ai ((↑(1 : Nat) : Int) + (1 : Int))), (43, ai (↑(1 : Nat) : Int)), (71, ao (c != c)), (16, ai 0), (15, AV.ref 1060), (57, ao ((0 : Int) != (0 : Int))), (14, ai 0), (13, AV.addr 13 0), (12, AV.sl 1 (bytesA c)), (42, ao (decide ((↑(1 : Nat) : Int) < (2 : Int)))), (29, ao (decide ((↑c.length : Int) > (0 : Int)))), (19, ao (decide ((↑b.length : Int) > (400 : Int)))), (0, AV.sl 1 (bytesA b)), (1, ai n), (2, ai at_), (3, ab by_), (9, AV.sl 1 (bytesA c))] [(1060, Row.mk 1 true false (bytesA c)), (13, Row.mk 1 false true [aw zW, ai zF, ai zC, ai zR, aw zM, AV.ref 601053, ai zH, aw zK]), (601053, Row.mk 1 true false (bytesA zI))]) (C := [ai (IntKind.i64.wrap ((↑(1 : Nat) : Int) + (1 : Int))) = ai ((↑(1 : Nat) : Int) + (1 : Int))]) (by kernel_rfl) ⟨(av_i64 (by omega) (by omega)), trivial⟩ ?_
          refine round_n (1 + 1) (by omega) (by omega) (Weaks.of [.keep [29, 19, 0, 1, 2, 3, 11, 9] []] (s1 := AS.mk [(29, ao (decide ((↑c.length : Int) > (0 : Int)))), (19, ao (decide ((↑b.length : Int) > (400 : Int)))), (0, AV.sl 1 (bytesA b)), (1, ai n), (2, ai at_), (3, ab by_), (11, ai ((↑(1 : Nat) : Int) + (1 : Int))), (9, AV.sl 1 (bytesA c))] []) (by kernel_rfl) rfl)
        · generalize dcE (c) = zE at *
          generalize dcW (c) = zW at *
          generalize dcF (c) = zF at *
          generalize dcC (c) = zC at *
          generalize dcR (c) = zR at *
          generalize dcM (c) = zM at *
          generalize dcI (c) = zI at *
          generalize dcH (c) = zH at *
          generalize dcK (c) = zK at *
          refine AWP.skip (by kernel_rfl) ?_
          refine then_n ?_
          refine AWP.seq (by kernel_rfl) ?_
          refine AWP.block (id := 1) (by kernel_rfl) ?_
          refine AWP.regsP 2 [{ hs := [(4, { k := 1 })] }, { hs := [(1, { av := some (AV.tup [AV.agg [aw zW, ai zF, ai zC, ai zR, aw zM, AV.own 1 (bytesA zI), ai zH, aw zK], ai zE]) })] }] [.keep [14, 13, 12, 42, 29, 19, 0, 1, 2, 3, 11, 9] [13, 601053]] (by kernel_rfl) (s' := AS.mk [(14, ai zE), (13, AV.addr 13 0), (12, AV.sl 1 (bytesA c)), (42, ao (decide ((↑(1 : Nat) : Int) < (2 : Int)))), (29, ao (decide ((↑c.length : Int) > (0 : Int)))), (19, ao (decide ((↑b.length : Int) > (400 : Int)))), (0, AV.sl 1 (bytesA b)), (1, ai n), (2, ai at_), (3, ab by_), (11, ai (↑(1 : Nat) : Int)), (9, AV.sl 1 (bytesA c))] [(13, Row.mk 1 false true [aw zW, ai zF, ai zC, ai zR, aw zM, AV.ref 601053, ai zH, aw zK]), (601053, Row.mk 1 true false (bytesA zI))]) (C := [(↑(1 : Nat) : Int) = (↑(1 : Nat) : Int), (1 : Nat) < (2 : Nat), Ret Try.prog (34 : Nat) [AV.sl 1 (bytesA c)] (AV.tup [AV.agg [aw zW, ai zF, ai zC, ai zR, aw zM, AV.own 1 (bytesA zI), ai zH, aw zK], ai zE]), valR (bytesA zI), (8 : Nat) ≤ (8 : Nat)]) (by kernel_rfl) ⟨rfl, (by omega), (hd), (valR_bytes _), (by omega), trivial⟩ ?_
          refine AWP.seq (by kernel_rfl) ?_
          refine AWP.regsK 1 [{  }] (by kernel_rfl) (s' := AS.mk [(57, ao (zE != (0 : Int))), (56, ai zE), (14, ai zE), (13, AV.addr 13 0), (12, AV.sl 1 (bytesA c)), (42, ao (decide ((↑(1 : Nat) : Int) < (2 : Int)))), (29, ao (decide ((↑c.length : Int) > (0 : Int)))), (19, ao (decide ((↑b.length : Int) > (400 : Int)))), (0, AV.sl 1 (bytesA b)), (1, ai n), (2, ai at_), (3, ab by_), (11, ai (↑(1 : Nat) : Int)), (9, AV.sl 1 (bytesA c))] [(13, Row.mk 1 false true [aw zW, ai zF, ai zC, ai zR, aw zM, AV.ref 601053, ai zH, aw zK]), (601053, Row.mk 1 true false (bytesA zI))]) (C := []) (by kernel_rfl) trivial ?_
          refine AWP.condT (x := .tmp 57) (b := zE != (0 : Int)) (by kernel_rfl) (by kernel_rfl) (by simp_all) ?_
          refine AWP.exit (id := 1) (by kernel_rfl) ?_
          refine then_e ?_
          refine inb_e ?_
          refine then_n ?_
          refine AWP.reg { hs := [(1, { av := some (ai ((↑(1 : Nat) : Int) + (1 : Int))) })] } (s' := AS.mk [(11, ai ((↑(1 : Nat) : Int) + (1 : Int))), (44, ai ((↑(1 : Nat) : Int) + (1 : Int))), (43, ai (↑(1 : Nat) : Int)), (57, ao (zE != (0 : Int))), (56, ai zE), (14, ai zE), (13, AV.addr 13 0), (12, AV.sl 1 (bytesA c)), (42, ao (decide ((↑(1 : Nat) : Int) < (2 : Int)))), (29, ao (decide ((↑c.length : Int) > (0 : Int)))), (19, ao (decide ((↑b.length : Int) > (400 : Int)))), (0, AV.sl 1 (bytesA b)), (1, ai n), (2, ai at_), (3, ab by_), (9, AV.sl 1 (bytesA c))] [(13, Row.mk 1 false true [aw zW, ai zF, ai zC, ai zR, aw zM, AV.ref 601053, ai zH, aw zK]), (601053, Row.mk 1 true false (bytesA zI))]) (C := [ai (IntKind.i64.wrap ((↑(1 : Nat) : Int) + (1 : Int))) = ai ((↑(1 : Nat) : Int) + (1 : Int))]) (by kernel_rfl) ⟨(av_i64 (by omega) (by omega)), trivial⟩ ?_
          refine round_n (1 + 1) (by omega) (by omega) (Weaks.of [.keep [29, 19, 0, 1, 2, 3, 11, 9] []] (s1 := AS.mk [(29, ao (decide ((↑c.length : Int) > (0 : Int)))), (19, ao (decide ((↑b.length : Int) > (400 : Int)))), (0, AV.sl 1 (bytesA b)), (1, ai n), (2, ai at_), (3, ab by_), (11, ai ((↑(1 : Nat) : Int) + (1 : Int))), (9, AV.sl 1 (bytesA c))] []) (by kernel_rfl) rfl)
    · skip
      refine AWP.exit (id := 0) (by kernel_rfl) ?_
      refine then_e ?_
      refine round_e ?_
      refine inb_e ?_
      refine then_n ?_
      refine AWP.regsP 1 [{ hs := [(0, { av := some (ao true) })] }] [.keep [8, 42, 29, 19, 0, 1, 2, 3, 11, 9] []] (by kernel_rfl) (s' := AS.mk [(8, ao true), (42, ao (decide ((↑i : Int) < (2 : Int)))), (29, ao (decide ((↑c.length : Int) > (0 : Int)))), (19, ao (decide ((↑b.length : Int) > (400 : Int)))), (0, AV.sl 1 (bytesA b)), (1, ai n), (2, ai at_), (3, ab by_), (11, ai (↑i : Int)), (9, AV.sl 1 (bytesA c))] []) (C := [Ret Try.prog (14 : Nat) [] (ao true)]) (by kernel_rfl) ⟨(awake14_ret), trivial⟩ ?_
      refine AWP.ret (by kernel_rfl) ?_
      refine Done.ret_ (C := [Value.bool true = Value.bool true]) (by kernel_rfl) ⟨rfl, trivial⟩
  obtain ⟨j, hj, hj2⟩ := and16 at_
  obtain ⟨q, hq, hq2⟩ : ∃ q : Nat, ((j : Int)).tmod (c.length : Int) = q ∧ q < c.length :=
      ⟨j % c.length, by rw [Int.tmod_eq_emod_of_nonneg (by omega)]; omega, Nat.mod_lt _ (by omega)⟩
  refine Ret.of_fn Try.func13 (by kernel_rfl) 73 (by kernel_rfl) (by kernel_rfl) ?_
  refine AWP.regsK 1 [{  }] (by kernel_rfl) (s' := AS.mk [(8, ao false), (0, AV.sl 1 (bytesA b)), (1, ai n), (2, ai at_), (3, ab by_)] []) (C := []) (by kernel_rfl) trivial ?_
  refine AWP.seq (by kernel_rfl) ?_
  refine AWP.regsP 1 [{ hs := [(1, { k := b.length })] }] [.keep [19, 8, 0, 1, 2, 3] []] (by kernel_rfl) (s' := AS.mk [(19, ao (decide ((↑b.length : Int) > (400 : Int)))), (8, ao false), (0, AV.sl 1 (bytesA b)), (1, ai n), (2, ai at_), (3, ab by_)] []) (C := [(bytesA b).length = b.length]) (by kernel_rfl) ⟨(bytesA_len _), trivial⟩ ?_
  refine AWP.condF (x := .tmp 19) (b := decide ((↑b.length : Int) > (400 : Int))) (by kernel_rfl) (by kernel_rfl) (decide_eq_false (by omega)) ?_
  refine AWP.skip (by kernel_rfl) ?_
  refine then_n ?_
  refine AWP.regsP 1 [{ hs := [(1, { av := some (AV.agg [aw (5 : UInt64), ai zfl, ai zco, ai zra, aw zmo, AV.own 1 (bytesA zid), ai zkh, aw zkr]) }), (2, { av := some (AV.tup [AV.own 1 (bytesA c), ai ce]) })] }] [.keep [9, 19, 8, 0, 1, 2, 3] [1024]] (by kernel_rfl) (s' := AS.mk [(9, AV.ref 1024), (19, ao (decide ((↑b.length : Int) > (400 : Int)))), (8, ao false), (0, AV.sl 1 (bytesA b)), (1, ai n), (2, ai at_), (3, ab by_)] [(1024, Row.mk 1 true false (bytesA c))]) (C := [Ret Try.prog (15 : Nat) [ai n, AV.val (Value.int .u64 5)] (AV.agg [aw (5 : UInt64), ai zfl, ai zco, ai zra, aw zmo, AV.own 1 (bytesA zid), ai zkh, aw zkr]), valR (bytesA zid), Ret Try.prog (17 : Nat) [AV.agg [aw (5 : UInt64), ai zfl, ai zco, ai zra, aw zmo, AV.sl 1 (bytesA zid), ai zkh, aw zkr]] (AV.tup [AV.own 1 (bytesA c), ai ce]), valR (bytesA c)]) (by kernel_rfl) ⟨(hm), (valR_bytes _), (he), (valR_bytes _), trivial⟩ ?_
  refine AWP.seq (by kernel_rfl) ?_
  refine AWP.regsP 1 [{ hs := [(1, { k := c.length })] }] [.keep [29, 9, 19, 8, 0, 1, 2, 3] [1024]] (by kernel_rfl) (s' := AS.mk [(29, ao (decide ((↑c.length : Int) > (0 : Int)))), (9, AV.ref 1024), (19, ao (decide ((↑b.length : Int) > (400 : Int)))), (8, ao false), (0, AV.sl 1 (bytesA b)), (1, ai n), (2, ai at_), (3, ab by_)] [(1024, Row.mk 1 true false (bytesA c))]) (C := [(bytesA c).length = c.length]) (by kernel_rfl) ⟨(bytesA_len _), trivial⟩ ?_
  refine AWP.condT (x := .tmp 29) (b := decide ((↑c.length : Int) > (0 : Int))) (by kernel_rfl) (by kernel_rfl) (decide_eq_true (by omega)) ?_
  refine AWP.reg { hs := [(2, { av := some (ai (↑j : Int)) }), (4, { k := c.length }), (5, { av := some (ai (↑q : Int)) }), (6, { k := q }), (7, { av := some (ab (c.getD q (0 : UInt8))) }), (9, { av := some (ab (c.getD q (0 : UInt8) ^^^ by_)) }), (10, { k := q }), (11, { av := some (AV.arr (bytesA (c.set q (c.getD q (0 : UInt8) ^^^ by_)))) })] } (s' := AS.mk [(40, AV.addr 1024 q), (39, ab (c.getD q (0 : UInt8) ^^^ by_)), (38, ab by_), (37, ab (c.getD q (0 : UInt8))), (36, AV.addr 1024 q), (35, ai (↑q : Int)), (34, ai (↑c.length : Int)), (33, AV.ref 1024), (32, ai (↑j : Int)), (31, ai at_), (30, AV.ref 1024), (29, ao (decide ((↑c.length : Int) > (0 : Int)))), (9, AV.ref 1024), (19, ao (decide ((↑b.length : Int) > (400 : Int)))), (8, ao false), (0, AV.sl 1 (bytesA b)), (1, ai n), (2, ai at_), (3, ab by_)] [(1024, Row.mk 1 true false (bytesA (c.set q (c.getD q (0 : UInt8) ^^^ by_))))]) (C := [ai (IntKind.i64.wrap (↑(BitVec.ofInt IntKind.i64.bits at_ &&& BitVec.ofInt IntKind.i64.bits (65535 : Int)).toNat : Int)) = ai (↑j : Int), (bytesA c).length = c.length, ai ((↑j : Int).tmod (↑c.length : Int)) = ai (↑q : Int), (↑c.length : Int) ≠ (0 : Int), (↑q : Int) = (↑q : Int), q < (bytesA c).length, (bytesA c)[q]? = some (ab (c.getD q (0 : UInt8))), AV.val (Value.int .u8 (IntKind.u8.wrap (↑(BitVec.ofInt IntKind.u8.bits (bv (c.getD q (0 : UInt8))) ^^^ BitVec.ofInt IntKind.u8.bits (bv by_)).toNat : Int))) = ab (c.getD q (0 : UInt8) ^^^ by_), (↑q : Int) = (↑q : Int), q < (bytesA c).length, (bytesA c).set q (ab (c.getD q (0 : UInt8) ^^^ by_)) = bytesA (c.set q (c.getD q (0 : UInt8) ^^^ by_)), q + (1 : Nat) ≤ (bytesA c).length]) (by kernel_rfl) ⟨(congrArg (fun n => AV.val (.int .i64 n)) hj), (bytesA_len _), (congrArg (fun n => AV.val (.int .i64 n)) hq), (by omega), rfl, (by simp only [bytesA_len]; omega), (bytesA_at (by omega)), (avb_xor (c.getD q (0 : UInt8)) (by_)), rfl, (by simp only [bytesA_len]; omega), (bytesA_set _ _ _), (by simp only [bytesA_len]; omega), trivial⟩ ?_
  refine then_n ?_
  refine AWP.seq (by kernel_rfl) ?_
  refine AWP.regsP 1 [{  }] [.keep [11, 29, 9, 19, 8, 0, 1, 2, 3] [1024]] (by kernel_rfl) (s' := AS.mk [(11, ai 0), (29, ao (decide ((↑c.length : Int) > (0 : Int)))), (9, AV.ref 1024), (19, ao (decide ((↑b.length : Int) > (400 : Int)))), (8, ao false), (0, AV.sl 1 (bytesA b)), (1, ai n), (2, ai at_), (3, ab by_)] [(1024, Row.mk 1 true false (bytesA (c.set q (c.getD q (0 : UInt8) ^^^ by_))))]) (C := []) (by kernel_rfl) trivial ?_
  refine AWP.block (id := 0) (by kernel_rfl) ?_
  refine AWP.loop (fun (i : Nat) => (⟨[(29, ao (decide ((↑c.length : Int) > (0 : Int)))), (19, ao (decide ((↑b.length : Int) > (400 : Int)))), (0, AV.sl 1 (bytesA b)), (1, ai n), (2, ai at_), (3, ab by_), (11, ai i), (9, AV.sl 1 (bytesA (c.set q (c.getD q 0 ^^^ by_))))], []⟩ : AS)) (fun i => (i ≤ 2)) (fun i => (2 - i)) (by kernel_rfl) (0) ?_ (Weaks.of [.thaw 1024, .keep [29, 19, 0, 1, 2, 3, 11, 9] []] (s1 := AS.mk [(29, ao (decide ((↑c.length : Int) > (0 : Int)))), (19, ao (decide ((↑b.length : Int) > (400 : Int)))), (0, AV.sl 1 (bytesA b)), (1, ai n), (2, ai at_), (3, ab by_), (11, ai 0), (9, AV.sl 1 (bytesA (c.set q (c.getD q (0 : UInt8) ^^^ by_))))] []) (by kernel_rfl) rfl) ?_
  · omega
  intro i hi
  refine AWP.seq (by kernel_rfl) ?_
  refine AWP.regsK 1 [{  }] (by kernel_rfl) (s' := AS.mk [(42, ao (decide ((↑i : Int) < (2 : Int)))), (41, ai (↑i : Int)), (29, ao (decide ((↑c.length : Int) > (0 : Int)))), (19, ao (decide ((↑b.length : Int) > (400 : Int)))), (0, AV.sl 1 (bytesA b)), (1, ai n), (2, ai at_), (3, ab by_), (11, ai (↑i : Int)), (9, AV.sl 1 (bytesA (c.set q (c.getD q (0 : UInt8) ^^^ by_))))] []) (C := []) (by kernel_rfl) trivial ?_
  refine AWP.condD (x := .tmp 42) (p := (↑i : Int) < (2 : Int)) (by kernel_rfl) (by kernel_rfl) (fun h5 => ?_) (fun h5 => ?_)
  · rcases (show i = 0 ∨ i = 1 by omega) with e | e
    · subst e
      have hd := decode14_ret (b)
      by_cases hE : dcE (b) = 0
      · have hen := encode_of hE
        rw [hE] at hd
        generalize dcW (b) = zW at *
        generalize dcF (b) = zF at *
        generalize dcC (b) = zC at *
        generalize dcR (b) = zR at *
        generalize dcM (b) = zM at *
        generalize dcI (b) = zI at *
        generalize dcH (b) = zH at *
        generalize dcK (b) = zK at *
        refine AWP.skip (by kernel_rfl) ?_
        refine then_n ?_
        refine AWP.seq (by kernel_rfl) ?_
        refine AWP.block (id := 1) (by kernel_rfl) ?_
        refine AWP.regsP 2 [{ hs := [(4, { k := 0 })] }, { hs := [(1, { av := some (AV.tup [AV.agg [aw zW, ai zF, ai zC, ai zR, aw zM, AV.own 1 (bytesA zI), ai zH, aw zK], ai 0]) })] }] [.keep [14, 13, 12, 42, 29, 19, 0, 1, 2, 3, 11, 9] [13, 601053]] (by kernel_rfl) (s' := AS.mk [(14, ai 0), (13, AV.addr 13 0), (12, AV.sl 1 (bytesA b)), (42, ao (decide ((↑(0 : Nat) : Int) < (2 : Int)))), (29, ao (decide ((↑c.length : Int) > (0 : Int)))), (19, ao (decide ((↑b.length : Int) > (400 : Int)))), (0, AV.sl 1 (bytesA b)), (1, ai n), (2, ai at_), (3, ab by_), (11, ai (↑(0 : Nat) : Int)), (9, AV.sl 1 (bytesA (c.set q (c.getD q (0 : UInt8) ^^^ by_))))] [(13, Row.mk 1 false true [aw zW, ai zF, ai zC, ai zR, aw zM, AV.ref 601053, ai zH, aw zK]), (601053, Row.mk 1 true false (bytesA zI))]) (C := [(↑(0 : Nat) : Int) = (↑(0 : Nat) : Int), (0 : Nat) < (2 : Nat), Ret Try.prog (34 : Nat) [AV.sl 1 (bytesA b)] (AV.tup [AV.agg [aw zW, ai zF, ai zC, ai zR, aw zM, AV.own 1 (bytesA zI), ai zH, aw zK], ai 0]), valR (bytesA zI), (8 : Nat) ≤ (8 : Nat)]) (by kernel_rfl) ⟨rfl, (by omega), (hd), (valR_bytes _), (by omega), trivial⟩ ?_
        refine AWP.seq (by kernel_rfl) ?_
        refine AWP.regsK 1 [{  }] (by kernel_rfl) (s' := AS.mk [(57, ao ((0 : Int) != (0 : Int))), (56, ai 0), (14, ai 0), (13, AV.addr 13 0), (12, AV.sl 1 (bytesA b)), (42, ao (decide ((↑(0 : Nat) : Int) < (2 : Int)))), (29, ao (decide ((↑c.length : Int) > (0 : Int)))), (19, ao (decide ((↑b.length : Int) > (400 : Int)))), (0, AV.sl 1 (bytesA b)), (1, ai n), (2, ai at_), (3, ab by_), (11, ai (↑(0 : Nat) : Int)), (9, AV.sl 1 (bytesA (c.set q (c.getD q (0 : UInt8) ^^^ by_))))] [(13, Row.mk 1 false true [aw zW, ai zF, ai zC, ai zR, aw zM, AV.ref 601053, ai zH, aw zK]), (601053, Row.mk 1 true false (bytesA zI))]) (C := []) (by kernel_rfl) trivial ?_
        refine AWP.condF (x := .tmp 57) (b := (0 : Int) != (0 : Int)) (by kernel_rfl) (by kernel_rfl) rfl ?_
        refine AWP.skip (by kernel_rfl) ?_
        refine then_n ?_
        refine AWP.regsP 2 [{ hs := [(1, { av := some (AV.tup [AV.own 1 (bytesA b), ai 0]) })] }, { hs := [(3, { g := false }), (4, { av := some (AV.val (Value.string (ByteArray.mk b.toArray))), g := false }), (5, { g := false }), (6, { av := some (AV.val (Value.string (ByteArray.mk b.toArray))), g := false }), (7, { av := some (ao (b != b)), g := false }), (8, { b := false })] }] [.keep [71, 16, 15, 57, 14, 13, 12, 42, 29, 19, 0, 1, 2, 3, 11, 9] [1060, 13, 601053]] (by kernel_rfl) (s' := AS.mk [(71, ao (b != b)), (16, ai 0), (15, AV.ref 1060), (57, ao ((0 : Int) != (0 : Int))), (14, ai 0), (13, AV.addr 13 0), (12, AV.sl 1 (bytesA b)), (42, ao (decide ((↑(0 : Nat) : Int) < (2 : Int)))), (29, ao (decide ((↑c.length : Int) > (0 : Int)))), (19, ao (decide ((↑b.length : Int) > (400 : Int)))), (0, AV.sl 1 (bytesA b)), (1, ai n), (2, ai at_), (3, ab by_), (11, ai (↑(0 : Nat) : Int)), (9, AV.sl 1 (bytesA (c.set q (c.getD q (0 : UInt8) ^^^ by_))))] [(1060, Row.mk 1 true false (bytesA b)), (13, Row.mk 1 false true [aw zW, ai zF, ai zC, ai zR, aw zM, AV.ref 601053, ai zH, aw zK]), (601053, Row.mk 1 true false (bytesA zI))]) (C := [Ret Try.prog (16 : Nat) [AV.agg [aw zW, ai zF, ai zC, ai zR, aw zM, AV.sl 1 (bytesA zI), ai zH, aw zK]] (AV.tup [AV.own 1 (bytesA b), ai 0]), valR (bytesA b), ((0 : Int) != (0 : Int)) = false, ((0 : Int) != (0 : Int)) = false, bytesA b = bytesA b.toArray.toList, ((0 : Int) != (0 : Int)) = false, ((0 : Int) != (0 : Int)) = false, bytesA b = bytesA b.toArray.toList, ((0 : Int) != (0 : Int)) = false, ao (!(ByteArray.mk b.toArray).toList == (ByteArray.mk b.toArray).toList) = ao (b != b), ((0 : Int) != (0 : Int)) = false]) (by kernel_rfl) ⟨(hen), (valR_bytes _), rfl, rfl, rfl, rfl, rfl, rfl, rfl, (str_ne (b) (b)), rfl, trivial⟩ ?_
        refine AWP.condF (x := .tmp 71) (b := b != b) (by kernel_rfl) (by kernel_rfl) (by simp_all) ?_
        refine AWP.skip (by kernel_rfl) ?_
        refine inb_n ?_
        refine then_n ?_
        refine AWP.reg { hs := [(1, { av := some (ai ((↑(0 : Nat) : Int) + (1 : Int))) })] } (s' := AS.mk [(11, ai ((↑(0 : Nat) : Int) + (1 : Int))), (44, ai ((↑(0 : Nat) : Int) + (1 : Int))), (43, ai (↑(0 : Nat) : Int)), (71, ao (b != b)), (16, ai 0), (15, AV.ref 1060), (57, ao ((0 : Int) != (0 : Int))), (14, ai 0), (13, AV.addr 13 0), (12, AV.sl 1 (bytesA b)), (42, ao (decide ((↑(0 : Nat) : Int) < (2 : Int)))), (29, ao (decide ((↑c.length : Int) > (0 : Int)))), (19, ao (decide ((↑b.length : Int) > (400 : Int)))), (0, AV.sl 1 (bytesA b)), (1, ai n), (2, ai at_), (3, ab by_), (9, AV.sl 1 (bytesA (c.set q (c.getD q (0 : UInt8) ^^^ by_))))] [(1060, Row.mk 1 true false (bytesA b)), (13, Row.mk 1 false true [aw zW, ai zF, ai zC, ai zR, aw zM, AV.ref 601053, ai zH, aw zK]), (601053, Row.mk 1 true false (bytesA zI))]) (C := [ai (IntKind.i64.wrap ((↑(0 : Nat) : Int) + (1 : Int))) = ai ((↑(0 : Nat) : Int) + (1 : Int))]) (by kernel_rfl) ⟨(av_i64 (by omega) (by omega)), trivial⟩ ?_
        refine round_n (0 + 1) (by omega) (by omega) (Weaks.of [.keep [29, 19, 0, 1, 2, 3, 11, 9] []] (s1 := AS.mk [(29, ao (decide ((↑c.length : Int) > (0 : Int)))), (19, ao (decide ((↑b.length : Int) > (400 : Int)))), (0, AV.sl 1 (bytesA b)), (1, ai n), (2, ai at_), (3, ab by_), (11, ai ((↑(0 : Nat) : Int) + (1 : Int))), (9, AV.sl 1 (bytesA (c.set q (c.getD q (0 : UInt8) ^^^ by_))))] []) (by kernel_rfl) rfl)
      · generalize dcE (b) = zE at *
        generalize dcW (b) = zW at *
        generalize dcF (b) = zF at *
        generalize dcC (b) = zC at *
        generalize dcR (b) = zR at *
        generalize dcM (b) = zM at *
        generalize dcI (b) = zI at *
        generalize dcH (b) = zH at *
        generalize dcK (b) = zK at *
        refine AWP.skip (by kernel_rfl) ?_
        refine then_n ?_
        refine AWP.seq (by kernel_rfl) ?_
        refine AWP.block (id := 1) (by kernel_rfl) ?_
        refine AWP.regsP 2 [{ hs := [(4, { k := 0 })] }, { hs := [(1, { av := some (AV.tup [AV.agg [aw zW, ai zF, ai zC, ai zR, aw zM, AV.own 1 (bytesA zI), ai zH, aw zK], ai zE]) })] }] [.keep [14, 13, 12, 42, 29, 19, 0, 1, 2, 3, 11, 9] [13, 601053]] (by kernel_rfl) (s' := AS.mk [(14, ai zE), (13, AV.addr 13 0), (12, AV.sl 1 (bytesA b)), (42, ao (decide ((↑(0 : Nat) : Int) < (2 : Int)))), (29, ao (decide ((↑c.length : Int) > (0 : Int)))), (19, ao (decide ((↑b.length : Int) > (400 : Int)))), (0, AV.sl 1 (bytesA b)), (1, ai n), (2, ai at_), (3, ab by_), (11, ai (↑(0 : Nat) : Int)), (9, AV.sl 1 (bytesA (c.set q (c.getD q (0 : UInt8) ^^^ by_))))] [(13, Row.mk 1 false true [aw zW, ai zF, ai zC, ai zR, aw zM, AV.ref 601053, ai zH, aw zK]), (601053, Row.mk 1 true false (bytesA zI))]) (C := [(↑(0 : Nat) : Int) = (↑(0 : Nat) : Int), (0 : Nat) < (2 : Nat), Ret Try.prog (34 : Nat) [AV.sl 1 (bytesA b)] (AV.tup [AV.agg [aw zW, ai zF, ai zC, ai zR, aw zM, AV.own 1 (bytesA zI), ai zH, aw zK], ai zE]), valR (bytesA zI), (8 : Nat) ≤ (8 : Nat)]) (by kernel_rfl) ⟨rfl, (by omega), (hd), (valR_bytes _), (by omega), trivial⟩ ?_
        refine AWP.seq (by kernel_rfl) ?_
        refine AWP.regsK 1 [{  }] (by kernel_rfl) (s' := AS.mk [(57, ao (zE != (0 : Int))), (56, ai zE), (14, ai zE), (13, AV.addr 13 0), (12, AV.sl 1 (bytesA b)), (42, ao (decide ((↑(0 : Nat) : Int) < (2 : Int)))), (29, ao (decide ((↑c.length : Int) > (0 : Int)))), (19, ao (decide ((↑b.length : Int) > (400 : Int)))), (0, AV.sl 1 (bytesA b)), (1, ai n), (2, ai at_), (3, ab by_), (11, ai (↑(0 : Nat) : Int)), (9, AV.sl 1 (bytesA (c.set q (c.getD q (0 : UInt8) ^^^ by_))))] [(13, Row.mk 1 false true [aw zW, ai zF, ai zC, ai zR, aw zM, AV.ref 601053, ai zH, aw zK]), (601053, Row.mk 1 true false (bytesA zI))]) (C := []) (by kernel_rfl) trivial ?_
        refine AWP.condT (x := .tmp 57) (b := zE != (0 : Int)) (by kernel_rfl) (by kernel_rfl) (by simp_all) ?_
        refine AWP.exit (id := 1) (by kernel_rfl) ?_
        refine then_e ?_
        refine inb_e ?_
        refine then_n ?_
        refine AWP.reg { hs := [(1, { av := some (ai ((↑(0 : Nat) : Int) + (1 : Int))) })] } (s' := AS.mk [(11, ai ((↑(0 : Nat) : Int) + (1 : Int))), (44, ai ((↑(0 : Nat) : Int) + (1 : Int))), (43, ai (↑(0 : Nat) : Int)), (57, ao (zE != (0 : Int))), (56, ai zE), (14, ai zE), (13, AV.addr 13 0), (12, AV.sl 1 (bytesA b)), (42, ao (decide ((↑(0 : Nat) : Int) < (2 : Int)))), (29, ao (decide ((↑c.length : Int) > (0 : Int)))), (19, ao (decide ((↑b.length : Int) > (400 : Int)))), (0, AV.sl 1 (bytesA b)), (1, ai n), (2, ai at_), (3, ab by_), (9, AV.sl 1 (bytesA (c.set q (c.getD q (0 : UInt8) ^^^ by_))))] [(13, Row.mk 1 false true [aw zW, ai zF, ai zC, ai zR, aw zM, AV.ref 601053, ai zH, aw zK]), (601053, Row.mk 1 true false (bytesA zI))]) (C := [ai (IntKind.i64.wrap ((↑(0 : Nat) : Int) + (1 : Int))) = ai ((↑(0 : Nat) : Int) + (1 : Int))]) (by kernel_rfl) ⟨(av_i64 (by omega) (by omega)), trivial⟩ ?_
        refine round_n (0 + 1) (by omega) (by omega) (Weaks.of [.keep [29, 19, 0, 1, 2, 3, 11, 9] []] (s1 := AS.mk [(29, ao (decide ((↑c.length : Int) > (0 : Int)))), (19, ao (decide ((↑b.length : Int) > (400 : Int)))), (0, AV.sl 1 (bytesA b)), (1, ai n), (2, ai at_), (3, ab by_), (11, ai ((↑(0 : Nat) : Int) + (1 : Int))), (9, AV.sl 1 (bytesA (c.set q (c.getD q (0 : UInt8) ^^^ by_))))] []) (by kernel_rfl) rfl)
    · subst e
      have hd := decode14_ret (c.set q (c.getD q 0 ^^^ by_))
      by_cases hE : dcE (c.set q (c.getD q 0 ^^^ by_)) = 0
      · have hen := encode_of hE
        rw [hE] at hd
        generalize dcW (c.set q (c.getD q 0 ^^^ by_)) = zW at *
        generalize dcF (c.set q (c.getD q 0 ^^^ by_)) = zF at *
        generalize dcC (c.set q (c.getD q 0 ^^^ by_)) = zC at *
        generalize dcR (c.set q (c.getD q 0 ^^^ by_)) = zR at *
        generalize dcM (c.set q (c.getD q 0 ^^^ by_)) = zM at *
        generalize dcI (c.set q (c.getD q 0 ^^^ by_)) = zI at *
        generalize dcH (c.set q (c.getD q 0 ^^^ by_)) = zH at *
        generalize dcK (c.set q (c.getD q 0 ^^^ by_)) = zK at *
        refine AWP.skip (by kernel_rfl) ?_
        refine then_n ?_
        refine AWP.seq (by kernel_rfl) ?_
        refine AWP.block (id := 1) (by kernel_rfl) ?_
        refine AWP.regsP 2 [{ hs := [(4, { k := 1 })] }, { hs := [(1, { av := some (AV.tup [AV.agg [aw zW, ai zF, ai zC, ai zR, aw zM, AV.own 1 (bytesA zI), ai zH, aw zK], ai 0]) })] }] [.keep [14, 13, 12, 42, 29, 19, 0, 1, 2, 3, 11, 9] [13, 601053]] (by kernel_rfl) (s' := AS.mk [(14, ai 0), (13, AV.addr 13 0), (12, AV.sl 1 (bytesA (c.set q (c.getD q (0 : UInt8) ^^^ by_)))), (42, ao (decide ((↑(1 : Nat) : Int) < (2 : Int)))), (29, ao (decide ((↑c.length : Int) > (0 : Int)))), (19, ao (decide ((↑b.length : Int) > (400 : Int)))), (0, AV.sl 1 (bytesA b)), (1, ai n), (2, ai at_), (3, ab by_), (11, ai (↑(1 : Nat) : Int)), (9, AV.sl 1 (bytesA (c.set q (c.getD q (0 : UInt8) ^^^ by_))))] [(13, Row.mk 1 false true [aw zW, ai zF, ai zC, ai zR, aw zM, AV.ref 601053, ai zH, aw zK]), (601053, Row.mk 1 true false (bytesA zI))]) (C := [(↑(1 : Nat) : Int) = (↑(1 : Nat) : Int), (1 : Nat) < (2 : Nat), Ret Try.prog (34 : Nat) [AV.sl 1 (bytesA (c.set q (c.getD q (0 : UInt8) ^^^ by_)))] (AV.tup [AV.agg [aw zW, ai zF, ai zC, ai zR, aw zM, AV.own 1 (bytesA zI), ai zH, aw zK], ai 0]), valR (bytesA zI), (8 : Nat) ≤ (8 : Nat)]) (by kernel_rfl) ⟨rfl, (by omega), (hd), (valR_bytes _), (by omega), trivial⟩ ?_
        refine AWP.seq (by kernel_rfl) ?_
        refine AWP.regsK 1 [{  }] (by kernel_rfl) (s' := AS.mk [(57, ao ((0 : Int) != (0 : Int))), (56, ai 0), (14, ai 0), (13, AV.addr 13 0), (12, AV.sl 1 (bytesA (c.set q (c.getD q (0 : UInt8) ^^^ by_)))), (42, ao (decide ((↑(1 : Nat) : Int) < (2 : Int)))), (29, ao (decide ((↑c.length : Int) > (0 : Int)))), (19, ao (decide ((↑b.length : Int) > (400 : Int)))), (0, AV.sl 1 (bytesA b)), (1, ai n), (2, ai at_), (3, ab by_), (11, ai (↑(1 : Nat) : Int)), (9, AV.sl 1 (bytesA (c.set q (c.getD q (0 : UInt8) ^^^ by_))))] [(13, Row.mk 1 false true [aw zW, ai zF, ai zC, ai zR, aw zM, AV.ref 601053, ai zH, aw zK]), (601053, Row.mk 1 true false (bytesA zI))]) (C := []) (by kernel_rfl) trivial ?_
        refine AWP.condF (x := .tmp 57) (b := (0 : Int) != (0 : Int)) (by kernel_rfl) (by kernel_rfl) rfl ?_
        refine AWP.skip (by kernel_rfl) ?_
        refine then_n ?_
        refine AWP.regsP 2 [{ hs := [(1, { av := some (AV.tup [AV.own 1 (bytesA (c.set q (c.getD q (0 : UInt8) ^^^ by_))), ai 0]) })] }, { hs := [(3, { g := false }), (4, { av := some (AV.val (Value.string (ByteArray.mk (c.set q (c.getD q (0 : UInt8) ^^^ by_)).toArray))), g := false }), (5, { g := false }), (6, { av := some (AV.val (Value.string (ByteArray.mk (c.set q (c.getD q (0 : UInt8) ^^^ by_)).toArray))), g := false }), (7, { av := some (ao (c.set q (c.getD q (0 : UInt8) ^^^ by_) != c.set q (c.getD q (0 : UInt8) ^^^ by_))), g := false }), (8, { b := false })] }] [.keep [71, 16, 15, 57, 14, 13, 12, 42, 29, 19, 0, 1, 2, 3, 11, 9] [1060, 13, 601053]] (by kernel_rfl) (s' := AS.mk [(71, ao (c.set q (c.getD q (0 : UInt8) ^^^ by_) != c.set q (c.getD q (0 : UInt8) ^^^ by_))), (16, ai 0), (15, AV.ref 1060), (57, ao ((0 : Int) != (0 : Int))), (14, ai 0), (13, AV.addr 13 0), (12, AV.sl 1 (bytesA (c.set q (c.getD q (0 : UInt8) ^^^ by_)))), (42, ao (decide ((↑(1 : Nat) : Int) < (2 : Int)))), (29, ao (decide ((↑c.length : Int) > (0 : Int)))), (19, ao (decide ((↑b.length : Int) > (400 : Int)))), (0, AV.sl 1 (bytesA b)), (1, ai n), (2, ai at_), (3, ab by_), (11, ai (↑(1 : Nat) : Int)), (9, AV.sl 1 (bytesA (c.set q (c.getD q (0 : UInt8) ^^^ by_))))] [(1060, Row.mk 1 true false (bytesA (c.set q (c.getD q (0 : UInt8) ^^^ by_)))), (13, Row.mk 1 false true [aw zW, ai zF, ai zC, ai zR, aw zM, AV.ref 601053, ai zH, aw zK]), (601053, Row.mk 1 true false (bytesA zI))]) (C := [Ret Try.prog (16 : Nat) [AV.agg [aw zW, ai zF, ai zC, ai zR, aw zM, AV.sl 1 (bytesA zI), ai zH, aw zK]] (AV.tup [AV.own 1 (bytesA (c.set q (c.getD q (0 : UInt8) ^^^ by_))), ai 0]), valR (bytesA (c.set q (c.getD q (0 : UInt8) ^^^ by_))), ((0 : Int) != (0 : Int)) = false, ((0 : Int) != (0 : Int)) = false, bytesA (c.set q (c.getD q (0 : UInt8) ^^^ by_)) = bytesA (c.set q (c.getD q (0 : UInt8) ^^^ by_)).toArray.toList, ((0 : Int) != (0 : Int)) = false, ((0 : Int) != (0 : Int)) = false, bytesA (c.set q (c.getD q (0 : UInt8) ^^^ by_)) = bytesA (c.set q (c.getD q (0 : UInt8) ^^^ by_)).toArray.toList, ((0 : Int) != (0 : Int)) = false, ao (!(ByteArray.mk (c.set q (c.getD q (0 : UInt8) ^^^ by_)).toArray).toList == (ByteArray.mk (c.set q (c.getD q (0 : UInt8) ^^^ by_)).toArray).toList) = ao (c.set q (c.getD q (0 : UInt8) ^^^ by_) != c.set q (c.getD q (0 : UInt8) ^^^ by_)), ((0 : Int) != (0 : Int)) = false]) (by kernel_rfl) ⟨(hen), (valR_bytes _), rfl, rfl, rfl, rfl, rfl, rfl, rfl, (str_ne (c.set q (c.getD q (0 : UInt8) ^^^ by_)) (c.set q (c.getD q (0 : UInt8) ^^^ by_))), rfl, trivial⟩ ?_
        refine AWP.condF (x := .tmp 71) (b := c.set q (c.getD q (0 : UInt8) ^^^ by_) != c.set q (c.getD q (0 : UInt8) ^^^ by_)) (by kernel_rfl) (by kernel_rfl) (by simp_all) ?_
        refine AWP.skip (by kernel_rfl) ?_
        refine inb_n ?_
        refine then_n ?_
        refine AWP.reg { hs := [(1, { av := some (ai ((↑(1 : Nat) : Int) + (1 : Int))) })] } (s' := AS.mk [(11, ai ((↑(1 : Nat) : Int) + (1 : Int))), (44, ai ((↑(1 : Nat) : Int) + (1 : Int))), (43, ai (↑(1 : Nat) : Int)), (71, ao (c.set q (c.getD q (0 : UInt8) ^^^ by_) != c.set q (c.getD q (0 : UInt8) ^^^ by_))), (16, ai 0), (15, AV.ref 1060), (57, ao ((0 : Int) != (0 : Int))), (14, ai 0), (13, AV.addr 13 0), (12, AV.sl 1 (bytesA (c.set q (c.getD q (0 : UInt8) ^^^ by_)))), (42, ao (decide ((↑(1 : Nat) : Int) < (2 : Int)))), (29, ao (decide ((↑c.length : Int) > (0 : Int)))), (19, ao (decide ((↑b.length : Int) > (400 : Int)))), (0, AV.sl 1 (bytesA b)), (1, ai n), (2, ai at_), (3, ab by_), (9, AV.sl 1 (bytesA (c.set q (c.getD q (0 : UInt8) ^^^ by_))))] [(1060, Row.mk 1 true false (bytesA (c.set q (c.getD q (0 : UInt8) ^^^ by_)))), (13, Row.mk 1 false true [aw zW, ai zF, ai zC, ai zR, aw zM, AV.ref 601053, ai zH, aw zK]), (601053, Row.mk 1 true false (bytesA zI))]) (C := [ai (IntKind.i64.wrap ((↑(1 : Nat) : Int) + (1 : Int))) = ai ((↑(1 : Nat) : Int) + (1 : Int))]) (by kernel_rfl) ⟨(av_i64 (by omega) (by omega)), trivial⟩ ?_
        refine round_n (1 + 1) (by omega) (by omega) (Weaks.of [.keep [29, 19, 0, 1, 2, 3, 11, 9] []] (s1 := AS.mk [(29, ao (decide ((↑c.length : Int) > (0 : Int)))), (19, ao (decide ((↑b.length : Int) > (400 : Int)))), (0, AV.sl 1 (bytesA b)), (1, ai n), (2, ai at_), (3, ab by_), (11, ai ((↑(1 : Nat) : Int) + (1 : Int))), (9, AV.sl 1 (bytesA (c.set q (c.getD q (0 : UInt8) ^^^ by_))))] []) (by kernel_rfl) rfl)
      · generalize dcE (c.set q (c.getD q 0 ^^^ by_)) = zE at *
        generalize dcW (c.set q (c.getD q 0 ^^^ by_)) = zW at *
        generalize dcF (c.set q (c.getD q 0 ^^^ by_)) = zF at *
        generalize dcC (c.set q (c.getD q 0 ^^^ by_)) = zC at *
        generalize dcR (c.set q (c.getD q 0 ^^^ by_)) = zR at *
        generalize dcM (c.set q (c.getD q 0 ^^^ by_)) = zM at *
        generalize dcI (c.set q (c.getD q 0 ^^^ by_)) = zI at *
        generalize dcH (c.set q (c.getD q 0 ^^^ by_)) = zH at *
        generalize dcK (c.set q (c.getD q 0 ^^^ by_)) = zK at *
        refine AWP.skip (by kernel_rfl) ?_
        refine then_n ?_
        refine AWP.seq (by kernel_rfl) ?_
        refine AWP.block (id := 1) (by kernel_rfl) ?_
        refine AWP.regsP 2 [{ hs := [(4, { k := 1 })] }, { hs := [(1, { av := some (AV.tup [AV.agg [aw zW, ai zF, ai zC, ai zR, aw zM, AV.own 1 (bytesA zI), ai zH, aw zK], ai zE]) })] }] [.keep [14, 13, 12, 42, 29, 19, 0, 1, 2, 3, 11, 9] [13, 601053]] (by kernel_rfl) (s' := AS.mk [(14, ai zE), (13, AV.addr 13 0), (12, AV.sl 1 (bytesA (c.set q (c.getD q (0 : UInt8) ^^^ by_)))), (42, ao (decide ((↑(1 : Nat) : Int) < (2 : Int)))), (29, ao (decide ((↑c.length : Int) > (0 : Int)))), (19, ao (decide ((↑b.length : Int) > (400 : Int)))), (0, AV.sl 1 (bytesA b)), (1, ai n), (2, ai at_), (3, ab by_), (11, ai (↑(1 : Nat) : Int)), (9, AV.sl 1 (bytesA (c.set q (c.getD q (0 : UInt8) ^^^ by_))))] [(13, Row.mk 1 false true [aw zW, ai zF, ai zC, ai zR, aw zM, AV.ref 601053, ai zH, aw zK]), (601053, Row.mk 1 true false (bytesA zI))]) (C := [(↑(1 : Nat) : Int) = (↑(1 : Nat) : Int), (1 : Nat) < (2 : Nat), Ret Try.prog (34 : Nat) [AV.sl 1 (bytesA (c.set q (c.getD q (0 : UInt8) ^^^ by_)))] (AV.tup [AV.agg [aw zW, ai zF, ai zC, ai zR, aw zM, AV.own 1 (bytesA zI), ai zH, aw zK], ai zE]), valR (bytesA zI), (8 : Nat) ≤ (8 : Nat)]) (by kernel_rfl) ⟨rfl, (by omega), (hd), (valR_bytes _), (by omega), trivial⟩ ?_
        refine AWP.seq (by kernel_rfl) ?_
        refine AWP.regsK 1 [{  }] (by kernel_rfl) (s' := AS.mk [(57, ao (zE != (0 : Int))), (56, ai zE), (14, ai zE), (13, AV.addr 13 0), (12, AV.sl 1 (bytesA (c.set q (c.getD q (0 : UInt8) ^^^ by_)))), (42, ao (decide ((↑(1 : Nat) : Int) < (2 : Int)))), (29, ao (decide ((↑c.length : Int) > (0 : Int)))), (19, ao (decide ((↑b.length : Int) > (400 : Int)))), (0, AV.sl 1 (bytesA b)), (1, ai n), (2, ai at_), (3, ab by_), (11, ai (↑(1 : Nat) : Int)), (9, AV.sl 1 (bytesA (c.set q (c.getD q (0 : UInt8) ^^^ by_))))] [(13, Row.mk 1 false true [aw zW, ai zF, ai zC, ai zR, aw zM, AV.ref 601053, ai zH, aw zK]), (601053, Row.mk 1 true false (bytesA zI))]) (C := []) (by kernel_rfl) trivial ?_
        refine AWP.condT (x := .tmp 57) (b := zE != (0 : Int)) (by kernel_rfl) (by kernel_rfl) (by simp_all) ?_
        refine AWP.exit (id := 1) (by kernel_rfl) ?_
        refine then_e ?_
        refine inb_e ?_
        refine then_n ?_
        refine AWP.reg { hs := [(1, { av := some (ai ((↑(1 : Nat) : Int) + (1 : Int))) })] } (s' := AS.mk [(11, ai ((↑(1 : Nat) : Int) + (1 : Int))), (44, ai ((↑(1 : Nat) : Int) + (1 : Int))), (43, ai (↑(1 : Nat) : Int)), (57, ao (zE != (0 : Int))), (56, ai zE), (14, ai zE), (13, AV.addr 13 0), (12, AV.sl 1 (bytesA (c.set q (c.getD q (0 : UInt8) ^^^ by_)))), (42, ao (decide ((↑(1 : Nat) : Int) < (2 : Int)))), (29, ao (decide ((↑c.length : Int) > (0 : Int)))), (19, ao (decide ((↑b.length : Int) > (400 : Int)))), (0, AV.sl 1 (bytesA b)), (1, ai n), (2, ai at_), (3, ab by_), (9, AV.sl 1 (bytesA (c.set q (c.getD q (0 : UInt8) ^^^ by_))))] [(13, Row.mk 1 false true [aw zW, ai zF, ai zC, ai zR, aw zM, AV.ref 601053, ai zH, aw zK]), (601053, Row.mk 1 true false (bytesA zI))]) (C := [ai (IntKind.i64.wrap ((↑(1 : Nat) : Int) + (1 : Int))) = ai ((↑(1 : Nat) : Int) + (1 : Int))]) (by kernel_rfl) ⟨(av_i64 (by omega) (by omega)), trivial⟩ ?_
        refine round_n (1 + 1) (by omega) (by omega) (Weaks.of [.keep [29, 19, 0, 1, 2, 3, 11, 9] []] (s1 := AS.mk [(29, ao (decide ((↑c.length : Int) > (0 : Int)))), (19, ao (decide ((↑b.length : Int) > (400 : Int)))), (0, AV.sl 1 (bytesA b)), (1, ai n), (2, ai at_), (3, ab by_), (11, ai ((↑(1 : Nat) : Int) + (1 : Int))), (9, AV.sl 1 (bytesA (c.set q (c.getD q (0 : UInt8) ^^^ by_))))] []) (by kernel_rfl) rfl)
  · skip
    refine AWP.exit (id := 0) (by kernel_rfl) ?_
    refine then_e ?_
    refine round_e ?_
    refine inb_e ?_
    refine then_n ?_
    refine AWP.regsP 1 [{ hs := [(0, { av := some (ao true) })] }] [.keep [8, 42, 29, 19, 0, 1, 2, 3, 11, 9] []] (by kernel_rfl) (s' := AS.mk [(8, ao true), (42, ao (decide ((↑i : Int) < (2 : Int)))), (29, ao (decide ((↑c.length : Int) > (0 : Int)))), (19, ao (decide ((↑b.length : Int) > (400 : Int)))), (0, AV.sl 1 (bytesA b)), (1, ai n), (2, ai at_), (3, ab by_), (11, ai (↑i : Int)), (9, AV.sl 1 (bytesA (c.set q (c.getD q (0 : UInt8) ^^^ by_))))] []) (C := [Ret Try.prog (14 : Nat) [] (ao true)]) (by kernel_rfl) ⟨(awake14_ret), trivial⟩ ?_
    refine AWP.ret (by kernel_rfl) ?_
    refine Done.ret_ (C := [Value.bool true = Value.bool true]) (by kernel_rfl) ⟨rfl, trivial⟩
end Go.Proofs.Ytmmnkloadooobaa
