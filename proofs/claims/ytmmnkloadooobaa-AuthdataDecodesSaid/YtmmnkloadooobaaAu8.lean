/-
  The contract of the law AuthdataDecodes. No condition.
-/
import Derived.Test.YtmmnkloadooobaaAu7
import Derived.Test.YtmmnkloadooobaaAu3
import Derived.Test.YtmmnkloadooobaaAu4
namespace Go.Proofs.Ytmmnkloadooobaa
open Go.RowKit
set_option maxRecDepth 100000
set_option maxHeartbeats 4000000
set_option linter.unusedVariables false
--@au0

theorem samedata_ret (rp : UInt64) (fl co ra : Int) (mo : UInt64) (id : List UInt8) (kh : Int) (kr : UInt64) : Ret Try.prog 35 [.agg [aw rp, ai fl, ai co, ai ra, aw mo, .sl 1 (bytesA id), ai kh, aw kr], .agg [aw rp, ai fl, ai co, ai ra, aw mo, .sl 1 (bytesA id), ai kh, aw kr]] (ao true) := by
  refine Ret.of_fn Try.func35 (by kernel_rfl) 54 (by kernel_rfl) (by kernel_rfl) ?_
  refine AWP.regsP 2 [{  }, { hs := [(4, { av := some (ao (rp == rp)) }), (31, { av := some (ao (mo == mo)) }), (36, { av := some (AV.val (Value.string (ByteArray.mk id.toArray))) }), (39, { av := some (AV.val (Value.string (ByteArray.mk id.toArray))) }), (40, { av := some (ao (id == id)) })] }] [.keep [4, 3, 2, 0, 1] [3, 2]] (by kernel_rfl) (s' := AS.mk [(4, ao (kh == kh && (wv kr == wv kr && true))), (3, AV.addr 3 0), (2, AV.addr 2 0), (0, AV.agg [aw rp, ai fl, ai co, ai ra, aw mo, AV.sl 1 (bytesA id), ai kh, aw kr]), (1, AV.agg [aw rp, ai fl, ai co, ai ra, aw mo, AV.sl 1 (bytesA id), ai kh, aw kr])] [(3, Row.mk 1 false true [aw rp, ai fl, ai co, ai ra, aw mo, AV.sl 1 (bytesA id), ai kh, aw kr]), (2, Row.mk 1 false true [aw rp, ai fl, ai co, ai ra, aw mo, AV.sl 1 (bytesA id), ai kh, aw kr])]) (C := [ao (wv rp == wv rp) = ao (rp == rp), (rp == rp) = true, (rp == rp) = true, (rp == rp) = true, (rp == rp) = true, (rp == rp) = true, (rp == rp) = true, (fl == fl) = true, (fl == fl) = true, (fl == fl) = true, (fl == fl) = true, (fl == fl) = true, (fl == fl) = true, (co == co) = true, (co == co) = true, (co == co) = true, (co == co) = true, (co == co) = true, (co == co) = true, (ra == ra) = true, (ra == ra) = true, (ra == ra) = true, (ra == ra) = true, (ra == ra) = true, ao (wv mo == wv mo) = ao (mo == mo), (ra == ra) = true, (mo == mo) = true, (mo == mo) = true, (mo == mo) = true, bytesA id = bytesA id.toArray.toList, (mo == mo) = true, (mo == mo) = true, (mo == mo) = true, bytesA id = bytesA id.toArray.toList, (mo == mo) = true, ao ((ByteArray.mk id.toArray).toList == (ByteArray.mk id.toArray).toList) = ao (id == id), (mo == mo) = true, (id == id) = true, (id == id) = true, (id == id) = true, (id == id) = true, (id == id) = true, (id == id) = true]) (by kernel_rfl) ⟨(avw_eq (rp) (rp)), (by simp_all), (by simp_all), (by simp_all), (by simp_all), (by simp_all), (by simp_all), (decide_eq_true (by omega)), (decide_eq_true (by omega)), (decide_eq_true (by omega)), (decide_eq_true (by omega)), (decide_eq_true (by omega)), (decide_eq_true (by omega)), (decide_eq_true (by omega)), (decide_eq_true (by omega)), (decide_eq_true (by omega)), (decide_eq_true (by omega)), (decide_eq_true (by omega)), (decide_eq_true (by omega)), (decide_eq_true (by omega)), (decide_eq_true (by omega)), (decide_eq_true (by omega)), (decide_eq_true (by omega)), (decide_eq_true (by omega)), (avw_eq (mo) (mo)), (decide_eq_true (by omega)), (by simp_all), (by simp_all), (by simp_all), (by simp_all), (by simp_all), (by simp_all), (by simp_all), (by simp_all), (by simp_all), (by simp_all), (by simp_all), (by simp_all), (by simp_all), (by simp_all), (by simp_all), (by simp_all), (by simp_all), trivial⟩ ?_
  refine AWP.ret (by kernel_rfl) ?_
  refine Done.ret_ (C := [Value.bool (kh == kh && (wv kr == wv kr && true)) = Value.bool true]) (by kernel_rfl) ⟨(by simp), trivial⟩
theorem adD_len (rp : UInt64) (fl co ra : Int) (mo : UInt64) (id : List UInt8) (kh : Int) (kr : UInt64) : (adD rp fl co ra mo id kh kr).length ≤ 204 := by
  have hw : (words [rp]).length = 8 := by rw [words_len]; rfl
  have hm : (words [mo]).length = 8 := by rw [words_len]; rfl
  have hk : (keyD kh kr).length ≤ 9 := by
    unfold keyD
    split
    · exact Nat.zero_le _
    · rw [List.length_cons, words_len]; exact Nat.le_refl _
  unfold adD
  split
  · exact Nat.zero_le _
  rename_i h
  have h : adE fl co ra mo id kh kr = 0 := Classical.byContradiction h
  split
  · simp only [List.length_append, hw, List.length_cons, List.length_nil]; omega
  rename_i h2
  have hi : id.length = 176 := by
    rw [adE] at h
    split at h
    · cases h
    split at h
    · cases h
    split at h
    · cases h
    rename_i h3; omega
  simp only [List.length_append, hw, hm, hi, List.length_cons, List.length_nil]; omega
theorem decodes_ret (b : List UInt8) : Ret Try.prog 33 [.sl 1 (bytesA b)] (ao true) := by
  have h1 := decode14_ret b
  have h2 := refdecode14_ret b
  generalize dcW b = zw at *
  generalize dcF b = zf at *
  generalize dcC b = zc at *
  generalize dcR b = zr at *
  generalize dcM b = zm at *
  generalize dcI b = zi at *
  generalize dcH b = zh at *
  generalize dcK b = zk at *
  generalize dcE b = ze at *
  refine Ret.of_fn Try.func33 (by kernel_rfl) 25 (by kernel_rfl) (by kernel_rfl) ?_
  refine AWP.regsP 4 [{  }, { hs := [(1, { av := some (AV.tup [AV.agg [aw zw, ai zf, ai zc, ai zr, aw zm, AV.own 1 (bytesA zi), ai zh, aw zk], ai ze]) })] }, { hs := [(1, { av := some (AV.tup [AV.agg [aw zw, ai zf, ai zc, ai zr, aw zm, AV.own 1 (bytesA zi), ai zh, aw zk], ai ze]) })] }, { hs := [(6, { av := some (ao true) })] }] [.keep [2, 6, 5, 4, 3, 0] [5, 601014, 3, 601009]] (by kernel_rfl) (s' := AS.mk [(2, ao true), (6, ai ze), (5, AV.addr 5 0), (4, ai ze), (3, AV.addr 3 0), (0, AV.sl 1 (bytesA b))] [(5, Row.mk 1 false true [aw zw, ai zf, ai zc, ai zr, aw zm, AV.ref 601014, ai zh, aw zk]), (601014, Row.mk 1 true false (bytesA zi)), (3, Row.mk 1 false true [aw zw, ai zf, ai zc, ai zr, aw zm, AV.ref 601009, ai zh, aw zk]), (601009, Row.mk 1 true false (bytesA zi))]) (C := [Ret Try.prog (34 : Nat) [AV.sl 1 (bytesA b)] (AV.tup [AV.agg [aw zw, ai zf, ai zc, ai zr, aw zm, AV.own 1 (bytesA zi), ai zh, aw zk], ai ze]), valR (bytesA zi), (8 : Nat) ≤ (8 : Nat), Ret Try.prog (50 : Nat) [AV.sl 1 (bytesA b)] (AV.tup [AV.agg [aw zw, ai zf, ai zc, ai zr, aw zm, AV.own 1 (bytesA zi), ai zh, aw zk], ai ze]), valR (bytesA zi), (8 : Nat) ≤ (8 : Nat), (ze == ze) = true, (ze == ze) = true, (ze == ze) = true, Ret Try.prog (35 : Nat) [AV.agg [aw zw, ai zf, ai zc, ai zr, aw zm, AV.sl 1 (bytesA zi), ai zh, aw zk], AV.agg [aw zw, ai zf, ai zc, ai zr, aw zm, AV.sl 1 (bytesA zi), ai zh, aw zk]] (ao true), (ze == ze) = true]) (by kernel_rfl) ⟨(h1), (valR_bytes _), (by omega), (h2), (valR_bytes _), (by omega), (decide_eq_true (by omega)), (decide_eq_true (by omega)), (decide_eq_true (by omega)), (samedata_ret (zw) (zf) (zc) (zr) (zm) (zi) (zh) (zk)), (decide_eq_true (by omega)), trivial⟩ ?_
  refine AWP.ret (by kernel_rfl) ?_
  refine Done.ret_ (C := [Value.bool true = Value.bool true]) (by kernel_rfl) ⟨rfl, trivial⟩
theorem and16 (a : Int) : ∃ j : Nat, IntKind.i64.wrap ((BitVec.ofInt IntKind.i64.bits a &&& BitVec.ofInt IntKind.i64.bits 65535).toNat : Int) = j ∧ j < 65536 := by
  have h : (BitVec.ofInt IntKind.i64.bits a &&& BitVec.ofInt IntKind.i64.bits 65535).toNat ≤ 65535 := by
    rw [BitVec.toNat_and]; exact Nat.and_le_right
  refine ⟨(BitVec.ofInt IntKind.i64.bits a &&& BitVec.ofInt IntKind.i64.bits 65535).toNat, ?_, by omega⟩
  rw [IntKind.wrap_i64]; omega
theorem authdataDecodes_law (b : List UInt8) (n at_ : Int) (by_ : UInt8) (_ : i64ok n) (_ : i64ok at_) : Ret Try.prog 11 [.sl 1 (bytesA b), ai n, ai at_, ab by_] (ao true) := by
  by_cases h1 : 400 < b.length
  · refine Ret.of_fn Try.func11 (by kernel_rfl) 54 (by kernel_rfl) (by kernel_rfl) ?_
    refine AWP.regsK 1 [{  }] (by kernel_rfl) (s' := AS.mk [(8, ao false), (0, AV.sl 1 (bytesA b)), (1, ai n), (2, ai at_), (3, ab by_)] []) (C := []) (by kernel_rfl) trivial ?_
    refine AWP.seq (by kernel_rfl) ?_
    refine AWP.regsP 1 [{ hs := [(1, { k := b.length })] }] [.keep [13, 8, 0, 1, 2, 3] []] (by kernel_rfl) (s' := AS.mk [(13, ao (decide ((↑b.length : Int) > (400 : Int)))), (8, ao false), (0, AV.sl 1 (bytesA b)), (1, ai n), (2, ai at_), (3, ab by_)] []) (C := [(bytesA b).length = b.length]) (by kernel_rfl) ⟨(bytesA_len _), trivial⟩ ?_
    refine AWP.condT (x := .tmp 13) (b := decide ((↑b.length : Int) > (400 : Int))) (by kernel_rfl) (by kernel_rfl) (decide_eq_true (by omega)) ?_
    refine AWP.regsK 1 [{ hs := [(0, { av := some (ao true) })] }] (by kernel_rfl) (s' := AS.mk [(8, ao true), (14, ao true), (13, ao (decide ((↑b.length : Int) > (400 : Int)))), (0, AV.sl 1 (bytesA b)), (1, ai n), (2, ai at_), (3, ab by_)] []) (C := [Ret Try.prog (14 : Nat) [] (ao true)]) (by kernel_rfl) ⟨(awake14_ret), trivial⟩ ?_
    refine AWP.ret (by kernel_rfl) ?_
    refine then_r ?_
    refine Done.ret_ (C := [Value.bool true = Value.bool true]) (by kernel_rfl) ⟨rfl, trivial⟩
  obtain ⟨n', hn'⟩ : ∃ n' : Int, IntKind.i64.wrap ((BitVec.ofInt IntKind.i64.bits n ||| BitVec.ofInt IntKind.i64.bits 16777216).toNat : Int) = n' := ⟨_, rfl⟩
  have hm := made_ret n' 9
  generalize mFl n' = zfl at *
  generalize mCo n' = zco at *
  generalize mRa n' = zra at *
  generalize mMo n' = zmo at *
  generalize mId n' = zid at *
  generalize mKh n' = zkh at *
  generalize mKr n' 9 = zkr at *
  have he := refencode14_ret 9 zfl zco zra zmo zid zkh zkr
  have hcl := adD_len 9 zfl zco zra zmo zid zkh zkr
  generalize adD 9 zfl zco zra zmo zid zkh zkr = c at *
  generalize adE zfl zco zra zmo zid zkh zkr = ce at *
  by_cases hc : c.length = 0
  · refine Ret.of_fn Try.func11 (by kernel_rfl) 54 (by kernel_rfl) (by kernel_rfl) ?_
    refine AWP.regsK 1 [{  }] (by kernel_rfl) (s' := AS.mk [(8, ao false), (0, AV.sl 1 (bytesA b)), (1, ai n), (2, ai at_), (3, ab by_)] []) (C := []) (by kernel_rfl) trivial ?_
    refine AWP.seq (by kernel_rfl) ?_
    refine AWP.regsP 1 [{ hs := [(1, { k := b.length })] }] [.keep [13, 8, 0, 1, 2, 3] []] (by kernel_rfl) (s' := AS.mk [(13, ao (decide ((↑b.length : Int) > (400 : Int)))), (8, ao false), (0, AV.sl 1 (bytesA b)), (1, ai n), (2, ai at_), (3, ab by_)] []) (C := [(bytesA b).length = b.length]) (by kernel_rfl) ⟨(bytesA_len _), trivial⟩ ?_
    refine AWP.condF (x := .tmp 13) (b := decide ((↑b.length : Int) > (400 : Int))) (by kernel_rfl) (by kernel_rfl) (decide_eq_false (by omega)) ?_
    refine AWP.skip (by kernel_rfl) ?_
    refine then_n ?_
    refine AWP.regsP 1 [{ hs := [(1, { av := some (ai (n')) }), (2, { av := some (AV.agg [aw (9 : UInt64), ai zfl, ai zco, ai zra, aw zmo, AV.own 1 (bytesA zid), ai zkh, aw zkr]) }), (3, { av := some (AV.tup [AV.own 1 (bytesA c), ai ce]) })] }] [.keep [9, 13, 8, 0, 1, 2, 3] [1019]] (by kernel_rfl) (s' := AS.mk [(9, AV.ref 1019), (13, ao (decide ((↑b.length : Int) > (400 : Int)))), (8, ao false), (0, AV.sl 1 (bytesA b)), (1, ai n), (2, ai at_), (3, ab by_)] [(1019, Row.mk 1 true false (bytesA c))]) (C := [ai (IntKind.i64.wrap (↑(BitVec.ofInt IntKind.i64.bits n ||| BitVec.ofInt IntKind.i64.bits (16777216 : Int)).toNat : Int)) = ai (n'), Ret Try.prog (15 : Nat) [ai (n'), AV.val (Value.int .u64 9)] (AV.agg [aw (9 : UInt64), ai zfl, ai zco, ai zra, aw zmo, AV.own 1 (bytesA zid), ai zkh, aw zkr]), valR (bytesA zid), Ret Try.prog (17 : Nat) [AV.agg [aw (9 : UInt64), ai zfl, ai zco, ai zra, aw zmo, AV.sl 1 (bytesA zid), ai zkh, aw zkr]] (AV.tup [AV.own 1 (bytesA c), ai ce]), valR (bytesA c)]) (by kernel_rfl) ⟨(congrArg (fun n => AV.val (.int .i64 n)) hn'), (hm), (valR_bytes _), (he), (valR_bytes _), trivial⟩ ?_
    refine AWP.seq (by kernel_rfl) ?_
    refine AWP.regsP 1 [{ hs := [(1, { k := c.length })] }] [.keep [24, 9, 13, 8, 0, 1, 2, 3] [1019]] (by kernel_rfl) (s' := AS.mk [(24, ao (decide ((↑c.length : Int) > (0 : Int)))), (9, AV.ref 1019), (13, ao (decide ((↑b.length : Int) > (400 : Int)))), (8, ao false), (0, AV.sl 1 (bytesA b)), (1, ai n), (2, ai at_), (3, ab by_)] [(1019, Row.mk 1 true false (bytesA c))]) (C := [(bytesA c).length = c.length]) (by kernel_rfl) ⟨(bytesA_len _), trivial⟩ ?_
    refine AWP.condF (x := .tmp 24) (b := decide ((↑c.length : Int) > (0 : Int))) (by kernel_rfl) (by kernel_rfl) (decide_eq_false (by omega)) ?_
    refine AWP.skip (by kernel_rfl) ?_
    refine then_n ?_
    refine AWP.regsP 1 [{ hs := [(1, { av := some (ao true) }), (4, { av := some (ao true) }), (9, { k := c.length }), (11, { av := some (ai ((if (1 : Int) > (↑c.length : Int) then (1 : Int) else (↑c.length : Int)) - (1 : Int))) }), (12, { m := ((if (1 : Int) > (↑c.length : Int) then (1 : Int) else (↑c.length : Int)) - (1 : Int)).toNat }), (13, { av := some (ao true) }), (16, { av := some (ao true) })] }] [.keep [8, 24, 9, 13, 0, 1, 2, 3] [1019]] (by kernel_rfl) (s' := AS.mk [(8, ao true), (24, ao (decide ((↑c.length : Int) > (0 : Int)))), (9, AV.ref 1019), (13, ao (decide ((↑b.length : Int) > (400 : Int)))), (0, AV.sl 1 (bytesA b)), (1, ai n), (2, ai at_), (3, ab by_)] [(1019, Row.mk 1 true false (bytesA c))]) (C := [Ret Try.prog (33 : Nat) [AV.sl 1 (bytesA b)] (ao true), true = true, true = true, Ret Try.prog (33 : Nat) [AV.sl 1 (bytesA c)] (ao true), true = true, true = true, true = true, true = true, (bytesA c).length = c.length, true = true, true = true, ai (IntKind.i64.wrap ((if (1 : Int) > (↑c.length : Int) then (1 : Int) else (↑c.length : Int)) - (1 : Int))) = ai ((if (1 : Int) > (↑c.length : Int) then (1 : Int) else (↑c.length : Int)) - (1 : Int)), true = true, (if (1 : Int) > (↑c.length : Int) then (1 : Int) else (↑c.length : Int)) - (1 : Int) = (↑((if (1 : Int) > (↑c.length : Int) then (1 : Int) else (↑c.length : Int)) - (1 : Int)).toNat : Int), ((if (1 : Int) > (↑c.length : Int) then (1 : Int) else (↑c.length : Int)) - (1 : Int)).toNat ≤ (bytesA c).length, true = true, Ret Try.prog (33 : Nat) [AV.sl 1 (List.take ((if (1 : Int) > (↑c.length : Int) then (1 : Int) else (↑c.length : Int)) - (1 : Int)).toNat (bytesA c))] (ao true), true = true, true = true, Ret Try.prog (14 : Nat) [] (ao true), true = true]) (by kernel_rfl) ⟨(decodes_ret (b)), rfl, rfl, (decodes_ret (c)), rfl, rfl, rfl, rfl, (bytesA_len _), rfl, rfl, (av_i64 (by omega) (by omega)), rfl, (by omega), (by omega), rfl, (by simp only [bytesA_take]; exact (decodes_ret (List.take ((if (1 : Int) > (↑c.length : Int) then (1 : Int) else (↑c.length : Int)) - (1 : Int)).toNat c))), rfl, rfl, (awake14_ret), rfl, trivial⟩ ?_
    refine AWP.ret (by kernel_rfl) ?_
    refine Done.ret_ (C := [Value.bool true = Value.bool true]) (by kernel_rfl) ⟨rfl, trivial⟩
  obtain ⟨j, hj, hj2⟩ := and16 at_
  obtain ⟨q, hq, hq2⟩ : ∃ q : Nat, ((j : Int)).tmod (c.length : Int) = q ∧ q < c.length :=
      ⟨j % c.length, by rw [Int.tmod_eq_emod_of_nonneg (by omega)]; omega, Nat.mod_lt _ (by omega)⟩
  have hx : IntKind.i64.wrap ((if 1 > (c.length : Int) then 1 else (c.length : Int)) - 1) = ((c.length - 1 : Nat) : Int) := by
    rw [if_neg (by omega), IntKind.wrap_i64]; omega
  refine Ret.of_fn Try.func11 (by kernel_rfl) 54 (by kernel_rfl) (by kernel_rfl) ?_
  refine AWP.regsK 1 [{  }] (by kernel_rfl) (s' := AS.mk [(8, ao false), (0, AV.sl 1 (bytesA b)), (1, ai n), (2, ai at_), (3, ab by_)] []) (C := []) (by kernel_rfl) trivial ?_
  refine AWP.seq (by kernel_rfl) ?_
  refine AWP.regsP 1 [{ hs := [(1, { k := b.length })] }] [.keep [13, 8, 0, 1, 2, 3] []] (by kernel_rfl) (s' := AS.mk [(13, ao (decide ((↑b.length : Int) > (400 : Int)))), (8, ao false), (0, AV.sl 1 (bytesA b)), (1, ai n), (2, ai at_), (3, ab by_)] []) (C := [(bytesA b).length = b.length]) (by kernel_rfl) ⟨(bytesA_len _), trivial⟩ ?_
  refine AWP.condF (x := .tmp 13) (b := decide ((↑b.length : Int) > (400 : Int))) (by kernel_rfl) (by kernel_rfl) (decide_eq_false (by omega)) ?_
  refine AWP.skip (by kernel_rfl) ?_
  refine then_n ?_
  refine AWP.regsP 1 [{ hs := [(1, { av := some (ai (n')) }), (2, { av := some (AV.agg [aw (9 : UInt64), ai zfl, ai zco, ai zra, aw zmo, AV.own 1 (bytesA zid), ai zkh, aw zkr]) }), (3, { av := some (AV.tup [AV.own 1 (bytesA c), ai ce]) })] }] [.keep [9, 13, 8, 0, 1, 2, 3] [1019]] (by kernel_rfl) (s' := AS.mk [(9, AV.ref 1019), (13, ao (decide ((↑b.length : Int) > (400 : Int)))), (8, ao false), (0, AV.sl 1 (bytesA b)), (1, ai n), (2, ai at_), (3, ab by_)] [(1019, Row.mk 1 true false (bytesA c))]) (C := [ai (IntKind.i64.wrap (↑(BitVec.ofInt IntKind.i64.bits n ||| BitVec.ofInt IntKind.i64.bits (16777216 : Int)).toNat : Int)) = ai (n'), Ret Try.prog (15 : Nat) [ai (n'), AV.val (Value.int .u64 9)] (AV.agg [aw (9 : UInt64), ai zfl, ai zco, ai zra, aw zmo, AV.own 1 (bytesA zid), ai zkh, aw zkr]), valR (bytesA zid), Ret Try.prog (17 : Nat) [AV.agg [aw (9 : UInt64), ai zfl, ai zco, ai zra, aw zmo, AV.sl 1 (bytesA zid), ai zkh, aw zkr]] (AV.tup [AV.own 1 (bytesA c), ai ce]), valR (bytesA c)]) (by kernel_rfl) ⟨(congrArg (fun n => AV.val (.int .i64 n)) hn'), (hm), (valR_bytes _), (he), (valR_bytes _), trivial⟩ ?_
  refine AWP.seq (by kernel_rfl) ?_
  refine AWP.regsP 1 [{ hs := [(1, { k := c.length })] }] [.keep [24, 9, 13, 8, 0, 1, 2, 3] [1019]] (by kernel_rfl) (s' := AS.mk [(24, ao (decide ((↑c.length : Int) > (0 : Int)))), (9, AV.ref 1019), (13, ao (decide ((↑b.length : Int) > (400 : Int)))), (8, ao false), (0, AV.sl 1 (bytesA b)), (1, ai n), (2, ai at_), (3, ab by_)] [(1019, Row.mk 1 true false (bytesA c))]) (C := [(bytesA c).length = c.length]) (by kernel_rfl) ⟨(bytesA_len _), trivial⟩ ?_
  refine AWP.condT (x := .tmp 24) (b := decide ((↑c.length : Int) > (0 : Int))) (by kernel_rfl) (by kernel_rfl) (decide_eq_true (by omega)) ?_
  refine AWP.reg { hs := [(2, { av := some (ai (↑j : Int)) }), (4, { k := c.length }), (5, { av := some (ai (↑q : Int)) }), (6, { k := q }), (7, { av := some (ab (c.getD q (0 : UInt8))) }), (9, { av := some (ab (c.getD q (0 : UInt8) ^^^ by_)) }), (10, { k := q }), (11, { av := some (AV.arr (bytesA (c.set q (c.getD q (0 : UInt8) ^^^ by_)))) })] } (s' := AS.mk [(35, AV.addr 1019 q), (34, ab (c.getD q (0 : UInt8) ^^^ by_)), (33, ab by_), (32, ab (c.getD q (0 : UInt8))), (31, AV.addr 1019 q), (30, ai (↑q : Int)), (29, ai (↑c.length : Int)), (28, AV.ref 1019), (27, ai (↑j : Int)), (26, ai at_), (25, AV.ref 1019), (24, ao (decide ((↑c.length : Int) > (0 : Int)))), (9, AV.ref 1019), (13, ao (decide ((↑b.length : Int) > (400 : Int)))), (8, ao false), (0, AV.sl 1 (bytesA b)), (1, ai n), (2, ai at_), (3, ab by_)] [(1019, Row.mk 1 true false (bytesA (c.set q (c.getD q (0 : UInt8) ^^^ by_))))]) (C := [ai (IntKind.i64.wrap (↑(BitVec.ofInt IntKind.i64.bits at_ &&& BitVec.ofInt IntKind.i64.bits (65535 : Int)).toNat : Int)) = ai (↑j : Int), (bytesA c).length = c.length, ai ((↑j : Int).tmod (↑c.length : Int)) = ai (↑q : Int), (↑c.length : Int) ≠ (0 : Int), (↑q : Int) = (↑q : Int), q < (bytesA c).length, (bytesA c)[q]? = some (ab (c.getD q (0 : UInt8))), AV.val (Value.int .u8 (IntKind.u8.wrap (↑(BitVec.ofInt IntKind.u8.bits (bv (c.getD q (0 : UInt8))) ^^^ BitVec.ofInt IntKind.u8.bits (bv by_)).toNat : Int))) = ab (c.getD q (0 : UInt8) ^^^ by_), (↑q : Int) = (↑q : Int), q < (bytesA c).length, (bytesA c).set q (ab (c.getD q (0 : UInt8) ^^^ by_)) = bytesA (c.set q (c.getD q (0 : UInt8) ^^^ by_)), q + (1 : Nat) ≤ (bytesA c).length]) (by kernel_rfl) ⟨(congrArg (fun n => AV.val (.int .i64 n)) hj), (bytesA_len _), (congrArg (fun n => AV.val (.int .i64 n)) hq), (by omega), rfl, (by simp only [bytesA_len]; omega), (bytesA_at (by omega)), (avb_xor (c.getD q (0 : UInt8)) (by_)), rfl, (by simp only [bytesA_len]; omega), (bytesA_set _ _ _), (by simp only [bytesA_len]; omega), trivial⟩ ?_
  refine then_n ?_
  refine AWP.regsP 1 [{ hs := [(1, { av := some (ao true) }), (4, { av := some (ao true) }), (9, { k := c.length }), (11, { av := some (ai (↑(c.length - (1 : Nat)) : Int)) }), (12, { m := c.length - (1 : Nat) }), (13, { av := some (ao true) }), (16, { av := some (ao true) })] }] [.keep [8, 24, 9, 13, 0, 1, 2, 3] [1019]] (by kernel_rfl) (s' := AS.mk [(8, ao true), (24, ao (decide ((↑c.length : Int) > (0 : Int)))), (9, AV.ref 1019), (13, ao (decide ((↑b.length : Int) > (400 : Int)))), (0, AV.sl 1 (bytesA b)), (1, ai n), (2, ai at_), (3, ab by_)] [(1019, Row.mk 1 true false (bytesA (c.set q (c.getD q (0 : UInt8) ^^^ by_))))]) (C := [Ret Try.prog (33 : Nat) [AV.sl 1 (bytesA b)] (ao true), true = true, true = true, Ret Try.prog (33 : Nat) [AV.sl 1 (bytesA (c.set q (c.getD q (0 : UInt8) ^^^ by_)))] (ao true), true = true, true = true, true = true, true = true, (bytesA (c.set q (c.getD q (0 : UInt8) ^^^ by_))).length = c.length, true = true, true = true, ai (IntKind.i64.wrap ((if (1 : Int) > (↑c.length : Int) then (1 : Int) else (↑c.length : Int)) - (1 : Int))) = ai (↑(c.length - (1 : Nat)) : Int), true = true, (↑(c.length - (1 : Nat)) : Int) = (↑(c.length - (1 : Nat)) : Int), c.length - (1 : Nat) ≤ (bytesA (c.set q (c.getD q (0 : UInt8) ^^^ by_))).length, true = true, Ret Try.prog (33 : Nat) [AV.sl 1 (List.take (c.length - (1 : Nat)) (bytesA (c.set q (c.getD q (0 : UInt8) ^^^ by_))))] (ao true), true = true, true = true, Ret Try.prog (14 : Nat) [] (ao true), true = true]) (by kernel_rfl) ⟨(decodes_ret (b)), rfl, rfl, (decodes_ret (c.set q (c.getD q (0 : UInt8) ^^^ by_))), rfl, rfl, rfl, rfl, (by simp only [bytesA_len, List.length_set]), rfl, rfl, (congrArg (fun n => AV.val (.int .i64 n)) hx), rfl, rfl, (by simp only [bytesA_len, List.length_set]; omega), rfl, (by simp only [bytesA_take]; exact (decodes_ret (List.take (c.length - (1 : Nat)) (c.set q (c.getD q (0 : UInt8) ^^^ by_))))), rfl, rfl, (awake14_ret), rfl, trivial⟩ ?_
  refine AWP.ret (by kernel_rfl) ?_
  refine Done.ret_ (C := [Value.bool true = Value.bool true]) (by kernel_rfl) ⟨rfl, trivial⟩
end Go.Proofs.Ytmmnkloadooobaa
