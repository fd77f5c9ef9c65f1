import Derived.Test.YtejpabdmiagnnaaDoorZaV8
import Derived.Test.YtejpabdmiagnnaaDoorZaShLag
set_option linter.all false
namespace Go.Proofs.YtejpabdmiagnnaaDoor
open Go.RowKit
set_option maxRecDepth 100000
set_option maxHeartbeats 4000000
set_option linter.unusedVariables false
theorem awake39_ret : Ret Tryd.prog 5 [] (ao true) := by
 obtain ⟨G, D, S, hv, hp, hS, hS8, hrel, hrst⟩ := bench 7 (n := 3) (k := 2) [99, 114, 101, 100, 101, 110, 116, 105, 97, 108] (by omega) (by omega) (by omega) (by omega) (by omega) (by decide)
 obtain ⟨E1, b1, r1, -, q1⟩ := hrst [0, 2] 5 (by decide) (by decide)
 obtain ⟨e1, o1, o2⟩ := q1 (by decide)
 obtain ⟨E2, b2, r2, q2, -⟩ := hrst [0] 5 (by decide) (by decide)
 have e2 := q2 (by decide)
 subst e1; subst e2
 have l0 := hrel 0 (by omega)
 have l2 := hrel 2 (by omega)
 have n0 : nm 0 = [109, 48] := by decide
 have n2 : nm 2 = [109, 50] := by decide
 have s1 : encA strC (List.map nm [0, 2]) = [.val (.string ⟨#[109, 48]⟩), .val (.string ⟨#[109, 50]⟩)] := by rw [List.map_cons, List.map_cons, n0, n2]; rfl
 have s2 : encA bysC (List.map (fun j => S.getD j default) [0, 2]) = [.sl 1 (bytesA (S.getD 0 default)), .sl 1 (bytesA (S.getD 2 default))] := rfl
 have s3 : encA strC (List.map nm [0]) = [.val (.string ⟨#[109, 48]⟩)] := by rw [List.map_cons, n0]; rfl
 have s4 : encA bysC (List.map (fun j => S.getD j default) [0]) = [.sl 1 (bytesA (S.getD 0 default))] := rfl
 rw [s1, s2] at r1
 rw [s3, s4] at r2
 rw [n0] at l0
 rw [n2] at l2
 have hop := opened_ret D.pub b1
 rw [o1, o2] at hop
 have hP : prpE (nms 3) (2 : Int) = 0 := prp_nms (n := 3) (k := 2) (by omega) (by omega) (by omega) (by omega)
 have hPS : (prpS 7 3 (nms 3) (2 : Int)).length = 3 := prpS_len 7 (n := 3) (k := 2) (by omega) (by omega) (by omega) (by omega)
 have hPD := prpD_eq 7 (n := 3) (k := 2) (by omega) (by omega) (by omega) (by omega)
 have hpp := prepare_ret 7 3 (nms 3) 2 (by rw [nms_len]; omega) (nms_len2 3)
 rw [hP] at hpp
 have hD1 : (prpD 7 3 (nms 3) (2 : Int)).pub = D.pub := by rw [hp]; exact congrArg Dep.pub hPD
 have hD2 : (prpD 7 3 (nms 3) (2 : Int)).digests.length = 3 := by
  have := congrArg (fun d : Dep => d.digests.length) hPD
  simpa using this
 generalize prpD 7 3 (nms 3) (2 : Int) = D0 at *
 generalize prpS 7 3 (nms 3) (2 : Int) = S0 at *
 have hl0 : (encA bysC S0).length = 3 := by rw [encA_len (e := 1) (fun _ => rfl), hPS]
 have hlS : (encA bysC S).length = 3 := by rw [encA_len (e := 1) (fun _ => rfl), hS]
 have a0 := bys_at (l := S) (i := 0) (by omega)
 have a2 := bys_at (l := S) (i := 2) (by omega)
 refine Ret.of_fn Tryd.func5 (by kernel_rfl) 119 (by kernel_rfl) (by kernel_rfl) ?_
 refine AWP.regsPX 2 [{}, { hs := [(0, { av := some (AV.own 1 (encA strC (nms (nat_lit 3)))), b := false }), (1, { av := some (AV.tup [AV.agg [aw D0.pub, aw D0.peer, AV.own 1 (bytesA D0.box), AV.own 1 (encA strC D0.holders), AV.own 1 (wordsA D0.digests), ai D0.need, aw D0.target], AV.own 1 (encA bysC S0), ai 0]), b := false })] }] [.keep [3, 2, 1, 0] [1, 2019, 501019, 401019, 301019]] (by kernel_rfl) (C := [Ret Tryd.prog (6 : Nat) [ai 3] (AV.own 1 (encA strC (nms (nat_lit 3)))), Ret Tryd.prog (14 : Nat) [AV.val (Value.int .u64 7), ai 3, AV.sl 1 (encA strC (nms (nat_lit 3))), ai 2] (AV.tup [AV.agg [aw D0.pub, aw D0.peer, AV.own 1 (bytesA D0.box), AV.own 1 (encA strC D0.holders), AV.own 1 (wordsA D0.digests), ai D0.need, aw D0.target], AV.own 1 (encA bysC S0), ai 0]), (7 : Nat) ≤ (7 : Nat)]) (by kernel_rfl) ⟨(names_ret (nat_lit 3) (by simp [hl0])), (hpp), (by simp [hl0]), trivial⟩ ?_
 refine AWP.seq (by kernel_rfl) ?_
 refine AWP.regsPX 1 [{ hs := [(1, { av := some (ao false) }), (3, { g := false }), (4, { k := (encA bysC S0).length, g := false }), (5, { av := some (ao false), g := false }), (6, { b := false }), (8, { g := false }), (9, { g := false }), (10, { k := D0.digests.length, g := false }), (11, { av := some (ao false), g := false }), (12, { b := false })] }] [.keep [35, 3, 2, 1, 0] [1, 2019, 501019, 401019, 301019]] (by kernel_rfl) (C := [ao ((0 : Int) != (0 : Int)) = ao false, false = false, false = false, (encA bysC S0).length = (encA bysC S0).length, false = false, ao ((↑(encA bysC S0).length : Int) != (3 : Int)) = ao false, false = false, false = false, false = false, false = false, (wordsA D0.digests).length = D0.digests.length, false = false, ao ((↑D0.digests.length : Int) != (3 : Int)) = ao false, false = false]) (by kernel_rfl) ⟨(by simp [hl0]), rfl, rfl, rfl, rfl, (by simp [hl0]), rfl, rfl, rfl, rfl, (wordsA_len _), rfl, (by simp [hD2]), rfl, trivial⟩ ?_
 refine AWP.condF (x := .tmp 35) (b := false) (by kernel_rfl) (by kernel_rfl) rfl ?_
 refine AWP.skip (by kernel_rfl) ?_
 refine then_n ?_
 refine AWP.regsPX 7 [{ hs := [(0, { av := some (AV.arr (bytesA [99, 114, 101, 100, 101, 110, 116, 105, 97, 108])) }), (1, { av := some (AV.val (Value.string (ByteArray.mk #[99, 114, 101, 100, 101, 110, 116, 105, 97, 108]))) }), (2, { av := some (AV.tup [AV.agg [ai G.epoch, aw G.head, ai G.thr, AV.own 4 (encA memC G.mems), AV.own 7 (encA depC G.deps)], AV.agg [aw D.pub, aw D.peer, AV.sl 1 (bytesA D.box), AV.sl 1 (encA strC D.holders), AV.sl 1 (wordsA D.digests), ai D.need, aw D.target], AV.own 1 (encA bysC S)]), b := false })] }, { hs := [(4, { k := 0 }), (5, { av := some (AV.sl 1 (bytesA (S.getD (0 : Nat) default))) }), (6, { av := some (AV.tup [AV.own 1 (bytesA (S.getD (0 : Nat) default)), ai 0]) })], T := 11 }, { hs := [(4, { k := 2 }), (5, { av := some (AV.sl 1 (bytesA (S.getD (2 : Nat) default))) }), (6, { av := some (AV.tup [AV.own 1 (bytesA (S.getD (2 : Nat) default)), ai 0]) })], T := 11 }, { hs := [(7, { av := some (AV.tup [AV.own 1 (bytesA b1), ai 0]) })] }, { hs := [(3, { av := some (AV.tup [AV.val (Value.string (ByteArray.mk #[99, 114, 101, 100, 101, 110, 116, 105, 97, 108])), ao ((0 : Int) == (0 : Int))]) })] }, { hs := [(6, { av := some (AV.tup [AV.own 1 (bytesA b2), ai 41]) })] }, { hs := [(4, { av := some (ao true) }), (7, { av := some (ao true) }), (11, { av := some (ao true) }), (15, { av := some (ao true) }), (22, { av := some (ao true) }), (26, { av := some (ao true) })] }] [.keep [0, 16, 14, 13, 12, 11, 10, 9, 8, 7, 6, 5, 4, 35, 3, 2, 1] [1071, 5, 4, 3039, 501039, 401039, 1, 2019, 501019, 401019, 301019]] (by kernel_rfl) (C := [[AV.val (Value.int .u8 99), AV.val (Value.int .u8 114), AV.val (Value.int .u8 101), AV.val (Value.int .u8 100), AV.val (Value.int .u8 101), AV.val (Value.int .u8 110), AV.val (Value.int .u8 116), AV.val (Value.int .u8 105), AV.val (Value.int .u8 97), AV.val (Value.int .u8 108)] = bytesA [99, 114, 101, 100, 101, 110, 116, 105, 97, 108], (0 : Nat) < (bytesA [99, 114, 101, 100, 101, 110, 116, 105, 97, 108]).length, Ret Tryd.prog (9 : Nat) [ai 7, ai 3, ai 2, AV.sl 1 (bytesA [99, 114, 101, 100, 101, 110, 116, 105, 97, 108]), ao true] (AV.tup [AV.agg [ai G.epoch, aw G.head, ai G.thr, AV.own 4 (encA memC G.mems), AV.own 7 (encA depC G.deps)], AV.agg [aw D.pub, aw D.peer, AV.sl 1 (bytesA D.box), AV.sl 1 (encA strC D.holders), AV.sl 1 (wordsA D.digests), ai D.need, aw D.target], AV.own 1 (encA bysC S)]), (5 : Nat) ≤ (5 : Nat), (7 : Nat) ≤ (7 : Nat), (0 : Int) = (↑(0 : Nat) : Int), (0 : Nat) < (encA bysC S).length, (encA bysC S)[(0 : Nat)]? = some (AV.sl 1 (bytesA (S.getD (0 : Nat) default))), Ret Tryd.prog (10 : Nat) [AV.agg [ai G.epoch, aw G.head, ai G.thr, AV.sl 4 (encA memC G.mems), AV.sl 7 (encA depC G.deps)], aw D.pub, AV.val (Value.string (ByteArray.mk #[109, 48])), AV.sl 1 (bytesA (S.getD (0 : Nat) default))] (AV.tup [AV.own 1 (bytesA (S.getD (0 : Nat) default)), ai 0]), valR (bytesA (S.getD (0 : Nat) default)), (2 : Int) = (↑(2 : Nat) : Int), (2 : Nat) < (encA bysC S).length, (encA bysC S)[(2 : Nat)]? = some (AV.sl 1 (bytesA (S.getD (2 : Nat) default))), Ret Tryd.prog (10 : Nat) [AV.agg [ai G.epoch, aw G.head, ai G.thr, AV.sl 4 (encA memC G.mems), AV.sl 7 (encA depC G.deps)], aw D.pub, AV.val (Value.string (ByteArray.mk #[109, 50])), AV.sl 1 (bytesA (S.getD (2 : Nat) default))] (AV.tup [AV.own 1 (bytesA (S.getD (2 : Nat) default)), ai 0]), valR (bytesA (S.getD (2 : Nat) default)), Ret Tryd.prog (12 : Nat) [AV.agg [ai G.epoch, aw G.head, ai G.thr, AV.sl 4 (encA memC G.mems), AV.sl 7 (encA depC G.deps)], aw D.pub, AV.sl 1 [AV.val (Value.string (ByteArray.mk #[109, 48])), AV.val (Value.string (ByteArray.mk #[109, 50]))], AV.sl 1 [AV.sl 1 (bytesA (S.getD (0 : Nat) default)), AV.sl 1 (bytesA (S.getD (2 : Nat) default))], AV.val (Value.int .u64 5)] (AV.tup [AV.own 1 (bytesA b1), ai 0]), valR (bytesA b1), Ret Tryd.prog (13 : Nat) [aw D.pub, AV.sl 1 (bytesA b1)] (AV.tup [AV.val (Value.string (ByteArray.mk #[99, 114, 101, 100, 101, 110, 116, 105, 97, 108])), ao ((0 : Int) == (0 : Int))]), Ret Tryd.prog (12 : Nat) [AV.agg [ai G.epoch, aw G.head, ai G.thr, AV.sl 4 (encA memC G.mems), AV.sl 7 (encA depC G.deps)], aw D.pub, AV.sl 1 [AV.val (Value.string (ByteArray.mk #[109, 48]))], AV.sl 1 [AV.sl 1 (bytesA (S.getD (0 : Nat) default))], AV.val (Value.int .u64 5)] (AV.tup [AV.own 1 (bytesA b2), ai 41]), valR (bytesA b2), ao (wv D0.pub == wv D.pub) = ao true, true = true, true = true, ao ((0 : Int) == (0 : Int)) = ao true, true = true, true = true, true = true, ao ((0 : Int) == (0 : Int)) = ao true, true = true, true = true, true = true, ao ((0 : Int) == (0 : Int)) = ao true, true = true, true = true, true = true, ((0 : Int) == (0 : Int)) = true, ((0 : Int) == (0 : Int)) = true, ao ((ByteArray.mk #[99, 114, 101, 100, 101, 110, 116, 105, 97, 108]).toList == (ByteArray.mk #[99, 114, 101, 100, 101, 110, 116, 105, 97, 108]).toList) = ao true, ((0 : Int) == (0 : Int)) = true, true = true, true = true, ao ((41 : Int) == (41 : Int)) = ao true, true = true]) (by kernel_rfl) ⟨rfl, (by decide), (hv), (by simp [hl0]), (by simp [hl0]), (by simp [hl0]), (by omega), (encA_at (f := bysC) (e := 1) (k := 0) (j := 0) (fun _ => rfl) (by omega) rfl), (l0), (valR_bytes _), (by simp [hl0]), (by omega), (encA_at (f := bysC) (e := 1) (k := 2) (j := 0) (fun _ => rfl) (by omega) rfl), (l2), (valR_bytes _), (r1), (valR_bytes _), (hop), (r2), (valR_bytes _), (by simp [hD1]), rfl, rfl, rfl, rfl, rfl, rfl, rfl, rfl, rfl, rfl, rfl, rfl, rfl, rfl, (decide_eq_true (by omega)), (decide_eq_true (by omega)), (by simp [hl0]), (decide_eq_true (by omega)), rfl, rfl, rfl, rfl, trivial⟩ ?_
 refine AWP.ret (by kernel_rfl) ?_
 refine Done.ret_ (C := [Value.bool true = Value.bool true]) (by kernel_rfl) ⟨rfl, trivial⟩
theorem prepares_ret (seed : UInt64) (draws : Int) (l : List (List UInt8)) (need : Int) (hl : l.length ≤ 1000000) (hh : ∀ i, i < l.length -> (l.getD i default).length ≤ 1000) : Ret Tryd.prog 8 [aw seed, ai draws, .sl 1 (encA strC l), ai need] (ao true) := by
 have h1 := prepare_ret seed draws l need hl hh
 have h2 := refprepare_ret seed draws l need hl hh
 have hb : (prpD seed draws l need).holders.length ≤ 1000000 := by
  unfold prpD; split
  ·exact hl
  ·exact Nat.zero_le _
 have hb2 : (prpS seed draws l need).length ≤ 1000000 := by
  unfold prpS; split
  ·simp; omega
  ·exact Nat.zero_le _
 have hs := samedep_ret (prpD seed draws l need) hb
 generalize prpD seed draws l need = d at *
 generalize prpS seed draws l need = S at *
 generalize prpE l need = E at *
 have hlS : (encA bysC S).length = S.length := by rw [encA_len (e := 1) (fun _ => rfl)]; omega
 refine Ret.of_fn Tryd.func8 (by kernel_rfl) 64 (by kernel_rfl) (by kernel_rfl) ?_
 refine AWP.regsPX 3 [{}, { hs := [(4, { av := some (AV.tup [AV.agg [aw d.pub, aw d.peer, AV.own 1 (bytesA d.box), AV.own 1 (encA strC d.holders), AV.own 1 (wordsA d.digests), ai d.need, aw d.target], AV.own 1 (encA bysC S), ai E]), b := false })] }, { hs := [(4, { av := some (AV.tup [AV.agg [aw d.pub, aw d.peer, AV.own 1 (bytesA d.box), AV.own 1 (encA strC d.holders), AV.own 1 (wordsA d.digests), ai d.need, aw d.target], AV.own 1 (encA bysC S), ai E]), b := false })] }] [.keep [14, 13, 12, 11, 10, 9, 8, 0, 1, 2, 3] [12, 2030, 501030, 401030, 301030, 9, 2021, 501021, 401021, 301021]] (by kernel_rfl) (C := [Ret Tryd.prog (14 : Nat) [aw seed, ai draws, AV.sl 1 (encA strC l), ai need] (AV.tup [AV.agg [aw d.pub, aw d.peer, AV.own 1 (bytesA d.box), AV.own 1 (encA strC d.holders), AV.own 1 (wordsA d.digests), ai d.need, aw d.target], AV.own 1 (encA bysC S), ai E]), (7 : Nat) ≤ (7 : Nat), Ret Tryd.prog (15 : Nat) [aw seed, ai draws, AV.sl 1 (encA strC l), ai need] (AV.tup [AV.agg [aw d.pub, aw d.peer, AV.own 1 (bytesA d.box), AV.own 1 (encA strC d.holders), AV.own 1 (wordsA d.digests), ai d.need, aw d.target], AV.own 1 (encA bysC S), ai E]), (7 : Nat) ≤ (7 : Nat)]) (by kernel_rfl) ⟨(h1), (by simp), (h2), (by simp), trivial⟩ ?_
 refine AWP.seq (by kernel_rfl) ?_
 refine AWP.regsPX 1 [{ hs := [(1, { k := (encA bysC S).length }), (3, { k := (encA bysC S).length }), (4, { av := some (ao false) })] }] [.keep [38, 14, 13, 12, 11, 10, 9, 8, 0, 1, 2, 3] [12, 2030, 501030, 401030, 301030, 9, 2021, 501021, 401021, 301021]] (by kernel_rfl) (C := [(encA bysC S).length = (encA bysC S).length, (encA bysC S).length = (encA bysC S).length, ao ((↑(encA bysC S).length : Int) != (↑(encA bysC S).length : Int)) = ao false]) (by kernel_rfl) ⟨(by simp), (by simp), (by simp), trivial⟩ ?_
 refine AWP.condF (x := .tmp 38) (b := false) (by kernel_rfl) (by kernel_rfl) rfl ?_
 refine AWP.skip (by kernel_rfl) ?_
 refine then_n ?_
 refine AWP.seq (by kernel_rfl) ?_
 refine AWP.regsKX 1 [{}] (by kernel_rfl) (C := []) (by kernel_rfl) trivial ?_
 refine AWP.block (id := 0) (by kernel_rfl) ?_
 refine AWP.loop (fun (i : Nat) => (⟨[(38, ao false), (14, ai E), (13, AV.ref 2030), (12, AV.addr 12 0), (11, ai E), (10, AV.ref 2021), (9, AV.addr 9 0), (0, aw seed), (1, ai draws), (2, AV.sl 1 (encA strC l)), (3, ai need), (15, ai i)], [(2030, ⟨1, true, false, encA bysC S⟩), (12, ⟨1, false, true, [aw d.pub, aw d.peer, AV.ref 301030, AV.ref 401030, AV.ref 501030, ai d.need, aw d.target]⟩), (2021, ⟨1, true, false, encA bysC S⟩), (9, ⟨1, false, true, [aw d.pub, aw d.peer, AV.ref 301021, AV.ref 401021, AV.ref 501021, ai d.need, aw d.target]⟩), (301030, ⟨1, true, false, bytesA d.box⟩), (401030, ⟨1, true, false, encA strC d.holders⟩), (501030, ⟨1, true, false, wordsA d.digests⟩), (301021, ⟨1, true, false, bytesA d.box⟩), (401021, ⟨1, true, false, encA strC d.holders⟩), (501021, ⟨1, true, false, wordsA d.digests⟩)]⟩ : AS)) (fun i => (i ≤ S.length)) (fun i => (S.length - i)) (by kernel_rfl) (0) ?_ (Weaks.ofX [.keep [38, 14, 13, 12, 11, 10, 9, 0, 1, 2, 3, 15] [2030, 12, 2021, 9, 301030, 401030, 501030, 301021, 401021, 501021]] (by kernel_rfl)) ?_
 ·omega
 intro i hi
 refine AWP.seq (by kernel_rfl) ?_
 refine AWP.regsPX 1 [{ hs := [(2, { k := (encA bysC S).length })] }] [.keep [42, 38, 14, 13, 12, 11, 10, 9, 0, 1, 2, 3, 15] [2030, 12, 2021, 9, 301030, 401030, 501030, 301021, 401021, 501021]] (by kernel_rfl) (C := [(encA bysC S).length = (encA bysC S).length]) (by kernel_rfl) ⟨rfl, trivial⟩ ?_
 refine AWP.condD (x := .tmp 42) (p := (↑i : Int) < (↑(encA bysC S).length : Int)) (by kernel_rfl) (by kernel_rfl) (fun g => ?_) (fun g => ?_)
 ·have hi2 : i < S.length := by omega
  have hat := bys_at hi2
  refine AWP.skip (by kernel_rfl) ?_
  refine then_n ?_
  refine AWP.seq (by kernel_rfl) ?_
  refine AWP.block (id := 1) (by kernel_rfl) ?_
  refine AWP.regsPX 1 [{ hs := [(2, { k := i }), (3, { av := some (AV.sl 1 (bytesA (S.getD i default))) }), (4, { av := some (AV.val (Value.string (ByteArray.mk (S.getD i default).toArray))) }), (7, { k := i }), (8, { av := some (AV.sl 1 (bytesA (S.getD i default))) }), (9, { av := some (AV.val (Value.string (ByteArray.mk (S.getD i default).toArray))) }), (10, { av := some (ao false) })], T := 10 }] [.keep [55, 42, 38, 14, 13, 12, 11, 10, 9, 0, 1, 2, 3, 15] [2030, 12, 2021, 9, 301030, 401030, 501030, 301021, 401021, 501021]] (by kernel_rfl) (C := [(↑i : Int) = (↑i : Int), i < (encA bysC S).length, (encA bysC S)[i]? = some (AV.sl 1 (bytesA (S.getD i default))), bytesA (S.getD i default) = bytesA (S.getD i default).toArray.toList, (↑i : Int) = (↑i : Int), i < (encA bysC S).length, (encA bysC S)[i]? = some (AV.sl 1 (bytesA (S.getD i default))), bytesA (S.getD i default) = bytesA (S.getD i default).toArray.toList, ao (!(ByteArray.mk (S.getD i default).toArray).toList == (ByteArray.mk (S.getD i default).toArray).toList) = ao false]) (by kernel_rfl) ⟨(by simp), (by omega), (by assumption), rfl, (by simp), (by omega), (by assumption), rfl, (by simp), trivial⟩ ?_
  refine AWP.condF (x := .tmp 55) (b := false) (by kernel_rfl) (by kernel_rfl) rfl ?_
  refine AWP.skip (by kernel_rfl) ?_
  refine inb_n ?_
  refine then_n ?_
  refine AWP.regX { hs := [(1, { av := some (ai ((↑i : Int) + 1)) })] } (C := [ai (IntKind.i64.wrap ((↑i : Int) + 1)) = ai ((↑i : Int) + 1)]) (by kernel_rfl) ⟨(av_i64 (by omega) (by omega)), trivial⟩ ?_
  refine round_n (i + 1) (by assumption) (by omega) (Weaks.ofX [.keep [38, 14, 13, 12, 11, 10, 9, 0, 1, 2, 3, 15] [2030, 12, 2021, 9, 301030, 401030, 501030, 301021, 401021, 501021]] (by kernel_rfl))
 ·skip
  refine AWP.exit (id := 0) (by kernel_rfl) ?_
  refine then_e ?_
  refine round_e ?_
  refine inb_e ?_
  refine then_n ?_
  refine AWP.regsPX 1 [{ hs := [(2, { av := some (ao true) }), (6, { av := some (ao true) })] }] [.keep [8, 42, 38, 14, 13, 12, 11, 10, 9, 0, 1, 2, 3, 15] [2030, 12, 2021, 9, 301030, 401030, 501030, 301021, 401021, 501021]] (by kernel_rfl) (C := [Ret Tryd.prog (16 : Nat) [AV.agg [aw d.pub, aw d.peer, AV.sl 1 (bytesA d.box), AV.sl 1 (encA strC d.holders), AV.sl 1 (wordsA d.digests), ai d.need, aw d.target], AV.agg [aw d.pub, aw d.peer, AV.sl 1 (bytesA d.box), AV.sl 1 (encA strC d.holders), AV.sl 1 (wordsA d.digests), ai d.need, aw d.target]] (ao true), true = true, true = true, true = true, ao (E == E) = ao true, true = true]) (by kernel_rfl) ⟨(hs), rfl, rfl, rfl, (by simp), rfl, trivial⟩ ?_
  refine AWP.ret (by kernel_rfl) ?_
  refine Done.ret_ (C := [Value.bool true = Value.bool true]) (by kernel_rfl) ⟨(by simp), trivial⟩
def andJ (a b : Int) : Int := IntKind.i64.wrap ((BitVec.ofInt IntKind.i64.bits a &&& BitVec.ofInt IntKind.i64.bits b).toNat : Int)
theorem andJ3 (a : Int) : ∃ k : Nat, andJ a 3 = k ∧ k < 4 := by
 have h : (BitVec.ofInt IntKind.i64.bits a &&& BitVec.ofInt IntKind.i64.bits 3).toNat ≤ 3 := by
  rw [BitVec.toNat_and]; exact Nat.and_le_right
 refine ⟨(BitVec.ofInt IntKind.i64.bits a &&& BitVec.ofInt IntKind.i64.bits 3).toNat, ?_, by omega⟩
 unfold andJ; rw [IntKind.wrap_i64]; omega
theorem strs_set (l : List (List UInt8)) (i : Nat) (x : List UInt8) : (encA strC l).set i (as_ x) = encA strC (l.set i x) := by
 have key : ∀ q : List (List UInt8), encA strC q = q.map fun r => as_ r := by
  intro q
  induction q with
  | nil => rfl
  | cons x q ih => rw [encA_cons, ih]; rfl
 rw [key, key, List.map_set]
theorem set_small (m : Nat) (x : List UInt8) (hx : x.length ≤ 1000) (hm : m ≤ 10) : ((nms m).set 0 x).length ≤ 10 ∧ ∀ j, j < ((nms m).set 0 x).length -> (((nms m).set 0 x).getD j default).length ≤ 1000 := by
 refine ⟨by rw [List.length_set, nms_len]; exact hm, fun j hj => ?_⟩
 rw [List.length_set] at hj
 rw [List.getD_eq_getElem?_getD, List.getElem?_set]
 split
 ·split
  ·exact hx
  ·exact Nat.zero_le _
 ·have := nms_len2 m j hj
  rwa [List.getD_eq_getElem?_getD] at this
theorem recoveryPrepares_law (seed : UInt64) (draws : Int) (l : List (List UInt8)) (need n : Int) (_h1 : i64ok draws) (_h2 : ∀ x ∈ l, x.length ≤ 9223372036854775807) (_h3 : i64ok need) (_h4 : i64ok n) : Ret Tryd.prog 3 [aw seed, ai draws, .sl 1 (encA strC l), ai need, ai n] (ao true) := by
 refine Ret.len 2 rfl fun hl0 => ?_
 rw [encA_len (e := 1) (fun _ => rfl)] at hl0
 have hll : (encA strC l).length = l.length := by rw [encA_len (e := 1) (fun _ => rfl)]; omega
 by_cases c1 : 12 < l.length
 ·refine Ret.of_fn Tryd.func3 (by kernel_rfl) 78 (by kernel_rfl) (by kernel_rfl) ?_
  refine AWP.regsKX 1 [{}] (by kernel_rfl) (C := []) (by kernel_rfl) trivial ?_
  refine AWP.seq (by kernel_rfl) ?_
  refine AWP.regsPX 1 [{ hs := [(1, { k := (encA strC l).length })] }] [.keep [15, 10, 0, 1, 2, 3, 4] []] (by kernel_rfl) (C := [(encA strC l).length = (encA strC l).length]) (by kernel_rfl) ⟨rfl, trivial⟩ ?_
  refine AWP.condT (x := .tmp 15) (b := decide ((↑(encA strC l).length : Int) > 12)) (by kernel_rfl) (by kernel_rfl) (decide_eq_true (by omega)) ?_
  refine AWP.regsKX 1 [{ hs := [(0, { av := some (ao true) })] }] (by kernel_rfl) (C := [Ret Tryd.prog (5 : Nat) [] (ao true)]) (by kernel_rfl) ⟨(awake39_ret), trivial⟩ ?_
  refine AWP.ret (by kernel_rfl) ?_
  refine then_r ?_
  refine Done.ret_ (C := [Value.bool true = Value.bool true]) (by kernel_rfl) ⟨rfl, trivial⟩
 have hm := modI_lt n (n := 10) (by omega)
 have hN := names_ret (modI n 10) (by omega)
 have hNl := nms_len (modI n 10)
 refine Ret.of_fn Tryd.func3 (by kernel_rfl) 78 (by kernel_rfl) (by kernel_rfl) ?_
 refine AWP.regsKX 1 [{}] (by kernel_rfl) (C := []) (by kernel_rfl) trivial ?_
 refine AWP.seq (by kernel_rfl) ?_
 refine AWP.regsPX 1 [{ hs := [(1, { k := (encA strC l).length })] }] [.keep [15, 10, 0, 1, 2, 3, 4] []] (by kernel_rfl) (C := [(encA strC l).length = (encA strC l).length]) (by kernel_rfl) ⟨rfl, trivial⟩ ?_
 refine AWP.condF (x := .tmp 15) (b := decide ((↑(encA strC l).length : Int) > 12)) (by kernel_rfl) (by kernel_rfl) (decide_eq_false (by omega)) ?_
 refine AWP.skip (by kernel_rfl) ?_
 refine then_n ?_
 refine AWP.seq (by kernel_rfl) ?_
 refine AWP.regsKX 1 [{}] (by kernel_rfl) (C := []) (by kernel_rfl) trivial ?_
 refine AWP.block (id := 0) (by kernel_rfl) ?_
 refine AWP.loop (fun (i : Nat) => (⟨[(15, ao (decide ((↑(encA strC l).length : Int) > 12))), (0, aw seed), (1, ai draws), (2, AV.sl 1 (encA strC l)), (3, ai need), (4, ai n), (11, ai i)], []⟩ : AS)) (fun i => (i ≤ l.length ∧ ∀ j, j < i -> (l.getD j default).length ≤ 100)) (fun i => (l.length - i)) (by kernel_rfl) (0) ?_ (Weaks.ofX [.keep [15, 0, 1, 2, 3, 4, 11] []] (by kernel_rfl)) ?_
 ·exact ⟨by omega, by omega⟩
 rintro i ⟨hi, hno⟩
 refine AWP.seq (by kernel_rfl) ?_
 refine AWP.regsPX 1 [{ hs := [(2, { k := (encA strC l).length })] }] [.keep [20, 15, 0, 1, 2, 3, 4, 11] []] (by kernel_rfl) (C := [(encA strC l).length = (encA strC l).length]) (by kernel_rfl) ⟨rfl, trivial⟩ ?_
 refine AWP.condD (x := .tmp 20) (p := (↑i : Int) < (↑(encA strC l).length : Int)) (by kernel_rfl) (by kernel_rfl) (fun g => ?_) (fun g => ?_)
 ·have hi2 : i < l.length := by omega
  have hat := strs_at hi2
  by_cases c2 : 100 < (l.getD i default).length
  ·skip
   refine AWP.skip (by kernel_rfl) ?_
   refine then_n ?_
   refine AWP.seq (by kernel_rfl) ?_
   refine AWP.block (id := 1) (by kernel_rfl) ?_
   refine AWP.regsPX 1 [{ hs := [(2, { k := i }), (3, { av := some (AV.val (Value.string (ByteArray.mk (l.getD i default).toArray))) }), (4, { av := some (ai (↑(l.getD i default).length : Int)) })] }] [.keep [28, 20, 15, 0, 1, 2, 3, 4, 11] []] (by kernel_rfl) (C := [(↑i : Int) = (↑i : Int), i < (encA strC l).length, (encA strC l)[i]? = some (AV.val (Value.string (ByteArray.mk (l.getD i default).toArray))), ai (↑(ByteArray.mk (l.getD i default).toArray).size : Int) = ai (↑(l.getD i default).length : Int)]) (by kernel_rfl) ⟨rfl, (by omega), (by assumption), rfl, trivial⟩ ?_
   refine AWP.condT (x := .tmp 28) (b := decide ((↑(l.getD i default).length : Int) > 100)) (by kernel_rfl) (by kernel_rfl) (decide_eq_true (by omega)) ?_
   refine AWP.regsKX 1 [{ hs := [(0, { av := some (ao true) })] }] (by kernel_rfl) (C := [Ret Tryd.prog (5 : Nat) [] (ao true)]) (by kernel_rfl) ⟨(awake39_ret), trivial⟩ ?_
   refine AWP.ret (by kernel_rfl) ?_
   refine inb_r ?_
   refine then_r ?_
   refine round_r ?_
   refine inb_r ?_
   refine then_r ?_
   refine Done.ret_ (C := [Value.bool true = Value.bool true]) (by kernel_rfl) ⟨rfl, trivial⟩
  ·skip
   refine AWP.skip (by kernel_rfl) ?_
   refine then_n ?_
   refine AWP.seq (by kernel_rfl) ?_
   refine AWP.block (id := 1) (by kernel_rfl) ?_
   refine AWP.regsPX 1 [{ hs := [(2, { k := i }), (3, { av := some (AV.val (Value.string (ByteArray.mk (l.getD i default).toArray))) }), (4, { av := some (ai (↑(l.getD i default).length : Int)) })] }] [.keep [28, 20, 15, 0, 1, 2, 3, 4, 11] []] (by kernel_rfl) (C := [(↑i : Int) = (↑i : Int), i < (encA strC l).length, (encA strC l)[i]? = some (AV.val (Value.string (ByteArray.mk (l.getD i default).toArray))), ai (↑(ByteArray.mk (l.getD i default).toArray).size : Int) = ai (↑(l.getD i default).length : Int)]) (by kernel_rfl) ⟨rfl, (by omega), (by assumption), rfl, trivial⟩ ?_
   refine AWP.condF (x := .tmp 28) (b := decide ((↑(l.getD i default).length : Int) > 100)) (by kernel_rfl) (by kernel_rfl) (decide_eq_false (by omega)) ?_
   refine AWP.skip (by kernel_rfl) ?_
   refine inb_n ?_
   refine then_n ?_
   refine AWP.regX { hs := [(1, { av := some (ai ((↑i : Int) + 1)) })] } (C := [ai (IntKind.i64.wrap ((↑i : Int) + 1)) = ai ((↑i : Int) + 1)]) (by kernel_rfl) ⟨(av_i64 (by omega) (by omega)), trivial⟩ ?_
   refine round_n (i + 1) ⟨by omega, fun j hj => by by_cases e2 : j = i; (subst e2; omega); exact hno j (by omega)⟩ (by omega) (Weaks.ofX [.keep [15, 0, 1, 2, 3, 4, 11] []] (by kernel_rfl))
 ·have hh : ∀ j, j < l.length -> (l.getD j default).length ≤ 1000 := fun j hj => by have := hno j (by omega); omega
  refine AWP.exit (id := 0) (by kernel_rfl) ?_
  refine then_e ?_
  refine round_e ?_
  refine inb_e ?_
  refine then_n ?_
  refine AWP.regsP 1 [{ hs := [(1, { av := some (ai (↑(modI n (10 : Int)) : Int)) }), (2, { av := some (AV.own 1 (encA strC (nms (modI n (10 : Int))))), b := false })] }] [.keep [12, 20, 15, 0, 1, 2, 3, 4, 11] [32]] (by kernel_rfl) (s' := AS.mk [(12, AV.ref 32), (20, ao (decide ((↑i : Int) < (↑(encA strC l).length : Int)))), (15, ao (decide ((↑(encA strC l).length : Int) > 12))), (0, aw seed), (1, ai draws), (2, AV.sl 1 (encA strC l)), (3, ai need), (4, ai n), (11, ai (↑i : Int))] [(32, Row.mk 1 true false (encA strC (nms (modI n (10 : Int)))))]) (C := [Ret Tryd.prog (7 : Nat) [ai n, ai 10] (ai (↑(modI n (10 : Int)) : Int)), Ret Tryd.prog (6 : Nat) [ai (↑(modI n (10 : Int)) : Int)] (AV.own 1 (encA strC (nms (modI n (10 : Int)))))]) (by kernel_rfl) ⟨(mod_ret (n) ((10 : Int)) (by omega) (by omega)), (names_ret (modI n (10 : Int)) (by omega)), trivial⟩ ?_
  generalize modI n 10 = m at *
  have hml : (encA strC (nms m)).length = m := by rw [encA_len (e := 1) (fun _ => rfl), hNl]; omega
  refine AWP.joinX (fun (K : List (List UInt8)) => (⟨[(20, ao (decide ((↑i : Int) < (↑(encA strC l).length : Int)))), (15, ao (decide ((↑(encA strC l).length : Int) > 12))), (0, aw seed), (1, ai draws), (2, AV.sl 1 (encA strC l)), (3, ai need), (4, ai n), (11, ai (↑i : Int)), (12, AV.ref 32)], [(32, ⟨1, true, false, encA strC K⟩)]⟩ : AS)) (fun K => (K.length ≤ 10 ∧ ∀ j, j < K.length -> (K.getD j default).length ≤ 1000)) (by kernel_rfl) ?_ ?_
  ·by_cases d1 : 1 < m
   case neg =>
    refine AWP.regsPX 1 [{ hs := [(1, { k := (encA strC (nms m)).length }), (4, { g := false }), (5, { g := false }), (6, { g := false }), (7, { b := false })] }] [.keep [40, 12, 20, 15, 0, 1, 2, 3, 4, 11] [32]] (by kernel_rfl) (C := [(encA strC (nms m)).length = (encA strC (nms m)).length, decide ((↑(encA strC (nms m)).length : Int) > 1) = false, decide ((↑(encA strC (nms m)).length : Int) > 1) = false, decide ((↑(encA strC (nms m)).length : Int) > 1) = false, decide ((↑(encA strC (nms m)).length : Int) > 1) = false]) (by kernel_rfl) ⟨rfl, (decide_eq_false (by omega)), (decide_eq_false (by omega)), (decide_eq_false (by omega)), (decide_eq_false (by omega)), trivial⟩ ?_
    refine AWP.condF (x := .tmp 40) (b := false) (by kernel_rfl) (by kernel_rfl) rfl ?_
    refine AWP.skip (by kernel_rfl) ?_
    refine then_n ?_
    refine ⟨(nms m), ⟨by omega, nms_len2 m⟩, Weaks.of [.keep [20, 15, 0, 1, 2, 3, 4, 11, 12] [32]] (s1 := AS.mk [(20, ao (decide ((↑i : Int) < (↑(encA strC l).length : Int)))), (15, ao (decide ((↑(encA strC l).length : Int) > 12))), (0, aw seed), (1, ai draws), (2, AV.sl 1 (encA strC l)), (3, ai need), (4, ai n), (11, ai (↑i : Int)), (12, AV.ref 32)] [(32, Row.mk 1 true false (encA strC (nms m)))]) (by kernel_rfl) rfl⟩
   by_cases d2 : andJ n 64 = 64
   case neg =>
    refine AWP.regsPX 1 [{ hs := [(1, { k := (encA strC (nms m)).length }), (5, { av := some (ai (andJ n (64 : Int))) }), (6, { av := some (ao false) })] }] [.keep [40, 12, 20, 15, 0, 1, 2, 3, 4, 11] [32]] (by kernel_rfl) (C := [(encA strC (nms m)).length = (encA strC (nms m)).length, decide ((↑(encA strC (nms m)).length : Int) > 1) = true, decide ((↑(encA strC (nms m)).length : Int) > 1) = true, ai (IntKind.i64.wrap (↑(BitVec.ofInt IntKind.i64.bits n &&& BitVec.ofInt IntKind.i64.bits (64 : Int)).toNat : Int)) = ai (andJ n (64 : Int)), decide ((↑(encA strC (nms m)).length : Int) > 1) = true, ao (andJ n (64 : Int) == (64 : Int)) = ao false, decide ((↑(encA strC (nms m)).length : Int) > 1) = true]) (by kernel_rfl) ⟨rfl, (decide_eq_true (by omega)), (decide_eq_true (by omega)), rfl, (decide_eq_true (by omega)), (by simp [d2]), (decide_eq_true (by omega)), trivial⟩ ?_
    refine AWP.condF (x := .tmp 40) (b := false) (by kernel_rfl) (by kernel_rfl) rfl ?_
    refine AWP.skip (by kernel_rfl) ?_
    refine then_n ?_
    refine ⟨(nms m), ⟨by omega, nms_len2 m⟩, Weaks.of [.keep [20, 15, 0, 1, 2, 3, 4, 11, 12] [32]] (s1 := AS.mk [(20, ao (decide ((↑i : Int) < (↑(encA strC l).length : Int)))), (15, ao (decide ((↑(encA strC l).length : Int) > 12))), (0, aw seed), (1, ai draws), (2, AV.sl 1 (encA strC l)), (3, ai need), (4, ai n), (11, ai (↑i : Int)), (12, AV.ref 32)] [(32, Row.mk 1 true false (encA strC (nms m)))]) (by kernel_rfl) rfl⟩
   obtain ⟨q, hq, hq4⟩ := andJ3 (n.fdiv (2 ^ min 7 IntKind.i64.bits))
   rcases (show q = 0 ∨ q = 1 ∨ q = 2 ∨ q = 3 by omega) with rfl | rfl | rfl | rfl
   ·skip
    refine AWP.regsPX 1 [{ hs := [(1, { k := (encA strC (nms m)).length }), (5, { av := some (ai (andJ n (64 : Int))) }), (6, { av := some (ao true) })] }] [.keep [40, 12, 20, 15, 0, 1, 2, 3, 4, 11] [32]] (by kernel_rfl) (C := [(encA strC (nms m)).length = (encA strC (nms m)).length, decide ((↑(encA strC (nms m)).length : Int) > 1) = true, decide ((↑(encA strC (nms m)).length : Int) > 1) = true, ai (IntKind.i64.wrap (↑(BitVec.ofInt IntKind.i64.bits n &&& BitVec.ofInt IntKind.i64.bits (64 : Int)).toNat : Int)) = ai (andJ n (64 : Int)), decide ((↑(encA strC (nms m)).length : Int) > 1) = true, ao (andJ n (64 : Int) == (64 : Int)) = ao true, decide ((↑(encA strC (nms m)).length : Int) > 1) = true]) (by kernel_rfl) ⟨rfl, (decide_eq_true (by omega)), (decide_eq_true (by omega)), rfl, (decide_eq_true (by omega)), (by simp [d2]), (decide_eq_true (by omega)), trivial⟩ ?_
    refine AWP.condT (x := .tmp 40) (b := true) (by kernel_rfl) (by kernel_rfl) rfl ?_
    refine AWP.regX { hs := [(3, { av := some (ai (sar n (7 : Nat))) }), (4, { av := some (ai 0) }), (5, { k := 0 }), (7, { k := 0 })] } (C := [ai (n.fdiv ((2 : Int) ^ min (Int.toNat (7 : Int)) IntKind.i64.bits)) = ai (sar n (7 : Nat)), (0 : Int) ≤ 7, ai (IntKind.i64.wrap (↑(BitVec.ofInt IntKind.i64.bits (sar n (7 : Nat)) &&& BitVec.ofInt IntKind.i64.bits (3 : Int)).toNat : Int)) = ai 0, (0 : Int) = (↑(0 : Nat) : Int), (0 : Nat) < (4 : Nat), (0 : Int) = (↑(0 : Nat) : Int), (0 : Nat) < (encA strC (nms m)).length, (1 : Nat) ≤ (encA strC (nms m)).length]) (by kernel_rfl) ⟨(avi_sar (n) 7 (by omega)), (by simp [d2]), (congrArg (fun n => AV.val (.int .i64 n)) hq), rfl, (by simp [d2]), rfl, (by omega), (by omega), trivial⟩ ?_
    refine then_n ?_
    refine ⟨((nms m).set 0 []), (set_small m [] (by decide) (by omega)), Weaks.of [.keep [20, 15, 0, 1, 2, 3, 4, 11, 12] [32]] (s1 := AS.mk [(20, ao (decide ((↑i : Int) < (↑(encA strC l).length : Int)))), (15, ao (decide ((↑(encA strC l).length : Int) > 12))), (0, aw seed), (1, ai draws), (2, AV.sl 1 (encA strC l)), (3, ai need), (4, ai n), (11, ai (↑i : Int)), (12, AV.ref 32)] [(32, Row.mk 1 true false ((encA strC (nms m)).set (0 : Nat) (AV.val (Value.string (ByteArray.mk #[])))))]) (by kernel_rfl) (as_eq (f_cons rfl (f_cons rfl (f_cons rfl (f_cons rfl (f_cons rfl (f_cons rfl (f_cons rfl (f_cons rfl (f_cons rfl rfl))))))))) (h_cons (strs_set (nms m) 0 []) rfl))⟩
   ·skip
    refine AWP.regsPX 1 [{ hs := [(1, { k := (encA strC (nms m)).length }), (5, { av := some (ai (andJ n (64 : Int))) }), (6, { av := some (ao true) })] }] [.keep [40, 12, 20, 15, 0, 1, 2, 3, 4, 11] [32]] (by kernel_rfl) (C := [(encA strC (nms m)).length = (encA strC (nms m)).length, decide ((↑(encA strC (nms m)).length : Int) > 1) = true, decide ((↑(encA strC (nms m)).length : Int) > 1) = true, ai (IntKind.i64.wrap (↑(BitVec.ofInt IntKind.i64.bits n &&& BitVec.ofInt IntKind.i64.bits (64 : Int)).toNat : Int)) = ai (andJ n (64 : Int)), decide ((↑(encA strC (nms m)).length : Int) > 1) = true, ao (andJ n (64 : Int) == (64 : Int)) = ao true, decide ((↑(encA strC (nms m)).length : Int) > 1) = true]) (by kernel_rfl) ⟨rfl, (decide_eq_true (by omega)), (decide_eq_true (by omega)), rfl, (decide_eq_true (by omega)), (by simp [d2]), (decide_eq_true (by omega)), trivial⟩ ?_
    refine AWP.condT (x := .tmp 40) (b := true) (by kernel_rfl) (by kernel_rfl) rfl ?_
    refine AWP.regX { hs := [(3, { av := some (ai (sar n (7 : Nat))) }), (4, { av := some (ai 1) }), (5, { k := 1 }), (7, { k := 0 })] } (C := [ai (n.fdiv ((2 : Int) ^ min (Int.toNat (7 : Int)) IntKind.i64.bits)) = ai (sar n (7 : Nat)), (0 : Int) ≤ 7, ai (IntKind.i64.wrap (↑(BitVec.ofInt IntKind.i64.bits (sar n (7 : Nat)) &&& BitVec.ofInt IntKind.i64.bits (3 : Int)).toNat : Int)) = ai 1, (1 : Int) = (↑(1 : Nat) : Int), (1 : Nat) < (4 : Nat), (0 : Int) = (↑(0 : Nat) : Int), (0 : Nat) < (encA strC (nms m)).length, (1 : Nat) ≤ (encA strC (nms m)).length]) (by kernel_rfl) ⟨(avi_sar (n) 7 (by omega)), (by simp [d2]), (congrArg (fun n => AV.val (.int .i64 n)) hq), rfl, (by simp [d2]), rfl, (by omega), (by omega), trivial⟩ ?_
    refine then_n ?_
    refine ⟨((nms m).set 0 [255]), (set_small m [255] (by decide) (by omega)), Weaks.of [.keep [20, 15, 0, 1, 2, 3, 4, 11, 12] [32]] (s1 := AS.mk [(20, ao (decide ((↑i : Int) < (↑(encA strC l).length : Int)))), (15, ao (decide ((↑(encA strC l).length : Int) > 12))), (0, aw seed), (1, ai draws), (2, AV.sl 1 (encA strC l)), (3, ai need), (4, ai n), (11, ai (↑i : Int)), (12, AV.ref 32)] [(32, Row.mk 1 true false ((encA strC (nms m)).set (0 : Nat) (AV.val (Value.string (ByteArray.mk #[255])))))]) (by kernel_rfl) (as_eq (f_cons rfl (f_cons rfl (f_cons rfl (f_cons rfl (f_cons rfl (f_cons rfl (f_cons rfl (f_cons rfl (f_cons rfl rfl))))))))) (h_cons (strs_set (nms m) 0 [255]) rfl))⟩
   ·skip
    refine AWP.regsPX 1 [{ hs := [(1, { k := (encA strC (nms m)).length }), (5, { av := some (ai (andJ n (64 : Int))) }), (6, { av := some (ao true) })] }] [.keep [40, 12, 20, 15, 0, 1, 2, 3, 4, 11] [32]] (by kernel_rfl) (C := [(encA strC (nms m)).length = (encA strC (nms m)).length, decide ((↑(encA strC (nms m)).length : Int) > 1) = true, decide ((↑(encA strC (nms m)).length : Int) > 1) = true, ai (IntKind.i64.wrap (↑(BitVec.ofInt IntKind.i64.bits n &&& BitVec.ofInt IntKind.i64.bits (64 : Int)).toNat : Int)) = ai (andJ n (64 : Int)), decide ((↑(encA strC (nms m)).length : Int) > 1) = true, ao (andJ n (64 : Int) == (64 : Int)) = ao true, decide ((↑(encA strC (nms m)).length : Int) > 1) = true]) (by kernel_rfl) ⟨rfl, (decide_eq_true (by omega)), (decide_eq_true (by omega)), rfl, (decide_eq_true (by omega)), (by simp [d2]), (decide_eq_true (by omega)), trivial⟩ ?_
    refine AWP.condT (x := .tmp 40) (b := true) (by kernel_rfl) (by kernel_rfl) rfl ?_
    refine AWP.regX { hs := [(3, { av := some (ai (sar n (7 : Nat))) }), (4, { av := some (ai 2) }), (5, { k := 2 }), (7, { k := 0 })] } (C := [ai (n.fdiv ((2 : Int) ^ min (Int.toNat (7 : Int)) IntKind.i64.bits)) = ai (sar n (7 : Nat)), (0 : Int) ≤ 7, ai (IntKind.i64.wrap (↑(BitVec.ofInt IntKind.i64.bits (sar n (7 : Nat)) &&& BitVec.ofInt IntKind.i64.bits (3 : Int)).toNat : Int)) = ai 2, (2 : Int) = (↑(2 : Nat) : Int), (2 : Nat) < (4 : Nat), (0 : Int) = (↑(0 : Nat) : Int), (0 : Nat) < (encA strC (nms m)).length, (1 : Nat) ≤ (encA strC (nms m)).length]) (by kernel_rfl) ⟨(avi_sar (n) 7 (by omega)), (by simp [d2]), (congrArg (fun n => AV.val (.int .i64 n)) hq), rfl, (by simp [d2]), rfl, (by omega), (by omega), trivial⟩ ?_
    refine then_n ?_
    refine ⟨((nms m).set 0 [109, 49]), (set_small m [109, 49] (by decide) (by omega)), Weaks.of [.keep [20, 15, 0, 1, 2, 3, 4, 11, 12] [32]] (s1 := AS.mk [(20, ao (decide ((↑i : Int) < (↑(encA strC l).length : Int)))), (15, ao (decide ((↑(encA strC l).length : Int) > 12))), (0, aw seed), (1, ai draws), (2, AV.sl 1 (encA strC l)), (3, ai need), (4, ai n), (11, ai (↑i : Int)), (12, AV.ref 32)] [(32, Row.mk 1 true false ((encA strC (nms m)).set (0 : Nat) (AV.val (Value.string (ByteArray.mk #[109, 49])))))]) (by kernel_rfl) (as_eq (f_cons rfl (f_cons rfl (f_cons rfl (f_cons rfl (f_cons rfl (f_cons rfl (f_cons rfl (f_cons rfl (f_cons rfl rfl))))))))) (h_cons (strs_set (nms m) 0 [109, 49]) rfl))⟩
   ·skip
    refine AWP.regsPX 1 [{ hs := [(1, { k := (encA strC (nms m)).length }), (5, { av := some (ai (andJ n (64 : Int))) }), (6, { av := some (ao true) })] }] [.keep [40, 12, 20, 15, 0, 1, 2, 3, 4, 11] [32]] (by kernel_rfl) (C := [(encA strC (nms m)).length = (encA strC (nms m)).length, decide ((↑(encA strC (nms m)).length : Int) > 1) = true, decide ((↑(encA strC (nms m)).length : Int) > 1) = true, ai (IntKind.i64.wrap (↑(BitVec.ofInt IntKind.i64.bits n &&& BitVec.ofInt IntKind.i64.bits (64 : Int)).toNat : Int)) = ai (andJ n (64 : Int)), decide ((↑(encA strC (nms m)).length : Int) > 1) = true, ao (andJ n (64 : Int) == (64 : Int)) = ao true, decide ((↑(encA strC (nms m)).length : Int) > 1) = true]) (by kernel_rfl) ⟨rfl, (decide_eq_true (by omega)), (decide_eq_true (by omega)), rfl, (decide_eq_true (by omega)), (by simp [d2]), (decide_eq_true (by omega)), trivial⟩ ?_
    refine AWP.condT (x := .tmp 40) (b := true) (by kernel_rfl) (by kernel_rfl) rfl ?_
    refine AWP.regX { hs := [(3, { av := some (ai (sar n (7 : Nat))) }), (4, { av := some (ai 3) }), (5, { k := 3 }), (7, { k := 0 })] } (C := [ai (n.fdiv ((2 : Int) ^ min (Int.toNat (7 : Int)) IntKind.i64.bits)) = ai (sar n (7 : Nat)), (0 : Int) ≤ 7, ai (IntKind.i64.wrap (↑(BitVec.ofInt IntKind.i64.bits (sar n (7 : Nat)) &&& BitVec.ofInt IntKind.i64.bits (3 : Int)).toNat : Int)) = ai 3, (3 : Int) = (↑(3 : Nat) : Int), (3 : Nat) < (4 : Nat), (0 : Int) = (↑(0 : Nat) : Int), (0 : Nat) < (encA strC (nms m)).length, (1 : Nat) ≤ (encA strC (nms m)).length]) (by kernel_rfl) ⟨(avi_sar (n) 7 (by omega)), (by simp [d2]), (congrArg (fun n => AV.val (.int .i64 n)) hq), rfl, (by simp [d2]), rfl, (by omega), (by omega), trivial⟩ ?_
    refine then_n ?_
    refine ⟨((nms m).set 0 [122]), (set_small m [122] (by decide) (by omega)), Weaks.of [.keep [20, 15, 0, 1, 2, 3, 4, 11, 12] [32]] (s1 := AS.mk [(20, ao (decide ((↑i : Int) < (↑(encA strC l).length : Int)))), (15, ao (decide ((↑(encA strC l).length : Int) > 12))), (0, aw seed), (1, ai draws), (2, AV.sl 1 (encA strC l)), (3, ai need), (4, ai n), (11, ai (↑i : Int)), (12, AV.ref 32)] [(32, Row.mk 1 true false ((encA strC (nms m)).set (0 : Nat) (AV.val (Value.string (ByteArray.mk #[122])))))]) (by kernel_rfl) (as_eq (f_cons rfl (f_cons rfl (f_cons rfl (f_cons rfl (f_cons rfl (f_cons rfl (f_cons rfl (f_cons rfl (f_cons rfl rfl))))))))) (h_cons (strs_set (nms m) 0 [122]) rfl))⟩
  rintro K ⟨hK, hK2⟩
  have hKl : (encA strC K).length = K.length := by rw [encA_len (e := 1) (fun _ => rfl)]; omega
  have m1 := modI_lt need (n := (K.length : Int) + 1) (by omega)
  have m2 := prepares_ret seed draws K (modI need 11) (by omega) hK2
  have m3 := prepares_ret seed (modI draws 99) K (1 + (modI need ((K.length : Int) + 1) : Int)) (by omega) hK2
  have m4 := prepares_ret seed draws l need (by omega) hh
  refine AWP.regsPX 1 [{ hs := [(4, { av := some (ao true) }), (10, { av := some (ai (↑(modI need (11 : Int)) : Int)) }), (11, { av := some (ao true) }), (16, { av := some (ai (↑(modI draws (99 : Int)) : Int)) }), (20, { k := (encA strC K).length }), (21, { av := some (ai ((↑K.length : Int) + 1)) }), (22, { av := some (ai (↑(modI need ((↑K.length : Int) + 1)) : Int)) }), (23, { av := some (ai ((1 : Int) + (↑(modI need ((↑K.length : Int) + 1)) : Int))) }), (24, { av := some (ao true) }), (27, { av := some (ao true) })] }] [.keep [10, 20, 15, 0, 1, 2, 3, 4, 11, 12] [32]] (by kernel_rfl) (C := [Ret Tryd.prog (8 : Nat) [aw seed, ai draws, AV.sl 1 (encA strC l), ai need] (ao true), true = true, true = true, true = true, true = true, true = true, Ret Tryd.prog (7 : Nat) [ai need, ai 11] (ai (↑(modI need (11 : Int)) : Int)), true = true, Ret Tryd.prog (8 : Nat) [aw seed, ai draws, AV.sl 1 (encA strC K), ai (↑(modI need (11 : Int)) : Int)] (ao true), true = true, true = true, true = true, true = true, Ret Tryd.prog (7 : Nat) [ai draws, ai 99] (ai (↑(modI draws (99 : Int)) : Int)), true = true, true = true, true = true, true = true, (encA strC K).length = (encA strC K).length, true = true, ai (IntKind.i64.wrap ((↑(encA strC K).length : Int) + 1)) = ai ((↑K.length : Int) + 1), true = true, Ret Tryd.prog (7 : Nat) [ai need, ai ((↑K.length : Int) + 1)] (ai (↑(modI need ((↑K.length : Int) + 1)) : Int)), true = true, ai (IntKind.i64.wrap ((1 : Int) + (↑(modI need ((↑K.length : Int) + 1)) : Int))) = ai ((1 : Int) + (↑(modI need ((↑K.length : Int) + 1)) : Int)), true = true, Ret Tryd.prog (8 : Nat) [aw seed, ai (↑(modI draws (99 : Int)) : Int), AV.sl 1 (encA strC K), ai ((1 : Int) + (↑(modI need ((↑K.length : Int) + 1)) : Int))] (ao true), true = true, true = true, Ret Tryd.prog (5 : Nat) [] (ao true), true = true]) (by kernel_rfl) ⟨(prepares_ret (seed) (draws) (l) (need) (by omega) (by assumption)), rfl, rfl, rfl, rfl, rfl, (mod_ret (need) ((11 : Int)) (by omega) (by omega)), rfl, (prepares_ret (seed) (draws) (K) ((↑(modI need (11 : Int)) : Int)) (by omega) (by assumption)), rfl, rfl, rfl, rfl, (mod_ret (draws) ((99 : Int)) (by omega) (by omega)), rfl, rfl, rfl, rfl, rfl, rfl, (congrArg (fun n => AV.val (.int .i64 n)) (by rw [IntKind.wrap_i64]; omega)), rfl, (mod_ret (need) ((↑K.length : Int) + 1) (by omega) (by omega)), rfl, (av_i64 (by omega) (by omega)), rfl, (prepares_ret (seed) ((↑(modI draws (99 : Int)) : Int)) (K) ((1 : Int) + (↑(modI need ((↑K.length : Int) + 1)) : Int)) (by omega) (by assumption)), rfl, rfl, (awake39_ret), rfl, trivial⟩ ?_
  refine AWP.ret (by kernel_rfl) ?_
  refine Done.ret_ (C := [Value.bool true = Value.bool true]) (by kernel_rfl) ⟨rfl, trivial⟩
end Go.Proofs.YtejpabdmiagnnaaDoor
