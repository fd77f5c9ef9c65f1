/-
  The contracts of token.SealPin, OpenPin, SealWord, OpenWord and of the reference's. No condition.
-/
import Derived.Test.YthfipmkhadkldaaTok2
namespace Go.Proofs.Ythfipmkhadkldaa
open Go.RowKit
set_option maxRecDepth 100000
set_option maxHeartbeats 4000000
set_option linter.unusedVariables false

/-- A nil slice reads as an empty one. -/
theorem Ret.nils {P : Program} {f : FuncId} {args args' : List AV} {r : AV} (h : Ret P f args r) (hl : args'.length = args.length) (ha : ∀ (j : Nat) x y, args'[j]? = some x → args[j]? = some y → x = y ∨ (x = .nil ∧ y = .sl 1 [])) : Ret P f args' r := by
  intro w S vs hS hv hr
  refine h w S vs hS (hv.trans hl) fun j v y hvj hy => ?_
  have hj : j < args'.length := by have := (List.getElem?_eq_some_iff.1 hy).1; omega
  have hx : args'[j]? = some args'[j] := List.getElem?_eq_getElem hj
  have hrep := hr j v _ hvj hx
  rcases ha j _ y hx hy with e | ⟨e1, e2⟩
  · rw [← e]; exact hrep
  · rw [e1] at hrep; rw [e2]; cases hrep; exact sl_empty none 0 0 1 (by simp) (Nat.le_refl _) (by simp)
theorem sealN_ret (key nonce : UInt64) (text : List UInt8) : Ret Try.prog 31 [aw key, aw nonce, .nil, .sl 1 (bytesA text)] (.tup [.own 1 (bytesA (sealD key nonce [] text)), ai (sealE [] text)]) :=
  Ret.nils (seal_ret key nonce [] text) rfl (fun j x y hx hy => by
    match j with
    | 0 => cases hx; cases hy; exact .inl rfl
    | 1 => cases hx; cases hy; exact .inl rfl
    | 2 => cases hx; cases hy; exact .inr ⟨rfl, rfl⟩
    | 3 => cases hx; cases hy; exact .inl rfl
    | j + 4 => simp at hx)
theorem refsealN_ret (key nonce : UInt64) (text : List UInt8) : Ret Try.prog 13 [aw key, aw nonce, .nil, .sl 1 (bytesA text)] (.tup [.own 1 (bytesA (sealD key nonce [] text)), ai (sealE [] text)]) :=
  Ret.nils (refseal_ret key nonce [] text) rfl (fun j x y hx hy => by
    match j with
    | 0 => cases hx; cases hy; exact .inl rfl
    | 1 => cases hx; cases hy; exact .inl rfl
    | 2 => cases hx; cases hy; exact .inr ⟨rfl, rfl⟩
    | 3 => cases hx; cases hy; exact .inl rfl
    | j + 4 => simp at hx)
theorem openN_ret (key : UInt64) (box : List UInt8) : Ret Try.prog 39 [aw key, .nil, .sl 1 (bytesA box)] (.tup [.own 1 (bytesA (openD key [] box)), ai (openE key [] box)]) :=
  Ret.nils (open_ret key [] box) rfl (fun j x y hx hy => by
    match j with
    | 0 => cases hx; cases hy; exact .inl rfl
    | 1 => cases hx; cases hy; exact .inr ⟨rfl, rfl⟩
    | 2 => cases hx; cases hy; exact .inl rfl
    | j + 3 => simp at hx)
theorem refopenN_ret (key : UInt64) (box : List UInt8) : Ret Try.prog 47 [aw key, .nil, .sl 1 (bytesA box)] (.tup [.own 1 (bytesA (openD key [] box)), ai (openE key [] box)]) :=
  Ret.nils (refopen_ret key [] box) rfl (fun j x y hx hy => by
    match j with
    | 0 => cases hx; cases hy; exact .inl rfl
    | 1 => cases hx; cases hy; exact .inr ⟨rfl, rfl⟩
    | 2 => cases hx; cases hy; exact .inl rfl
    | j + 3 => simp at hx)
theorem issue_ret (se : UInt64) (ac : Bool) (va : UInt64) (pe : Int) (r0 : List UInt8) (si : Int) (value : UInt64) (perms : Int) (rp : List UInt8) (now : Int) (hr : rp.length ≤ 9223372036854775807) : Ret Try.prog 16 [.agg [aw se, ao ac, aw va, ai pe, as_ r0, ai si], aw value, ai perms, as_ rp, ai now] (.tup [.agg [aw (issueV ⟨se, ac, va, pe, r0, si⟩ value perms rp now).secret, ao (issueV ⟨se, ac, va, pe, r0, si⟩ value perms rp now).active, aw (issueV ⟨se, ac, va, pe, r0, si⟩ value perms rp now).value, ai (issueV ⟨se, ac, va, pe, r0, si⟩ value perms rp now).perms, as_ (issueV ⟨se, ac, va, pe, r0, si⟩ value perms rp now).rp, ai (issueV ⟨se, ac, va, pe, r0, si⟩ value perms rp now).since], ai (issueE perms rp now)]) := issue_tk ⟨se, ac, va, pe, r0, si⟩ value perms rp now hr
theorem refissue_ret (se : UInt64) (ac : Bool) (va : UInt64) (pe : Int) (r0 : List UInt8) (si : Int) (value : UInt64) (perms : Int) (rp : List UInt8) (now : Int) (hr : rp.length ≤ 9223372036854775807) : Ret Try.prog 17 [.agg [aw se, ao ac, aw va, ai pe, as_ r0, ai si], aw value, ai perms, as_ rp, ai now] (.tup [.agg [aw (issueV ⟨se, ac, va, pe, r0, si⟩ value perms rp now).secret, ao (issueV ⟨se, ac, va, pe, r0, si⟩ value perms rp now).active, aw (issueV ⟨se, ac, va, pe, r0, si⟩ value perms rp now).value, ai (issueV ⟨se, ac, va, pe, r0, si⟩ value perms rp now).perms, as_ (issueV ⟨se, ac, va, pe, r0, si⟩ value perms rp now).rp, ai (issueV ⟨se, ac, va, pe, r0, si⟩ value perms rp now).since], ai (issueE perms rp now)]) := refissue_tk ⟨se, ac, va, pe, r0, si⟩ value perms rp now hr
theorem use_ret (se : UInt64) (ac : Bool) (va : UInt64) (pe : Int) (r0 : List UInt8) (si : Int) (p : Int) : Ret Try.prog 24 [.agg [aw se, ao ac, aw va, ai pe, as_ r0, ai si], ai p] (.agg [aw (useV ⟨se, ac, va, pe, r0, si⟩ p).secret, ao (useV ⟨se, ac, va, pe, r0, si⟩ p).active, aw (useV ⟨se, ac, va, pe, r0, si⟩ p).value, ai (useV ⟨se, ac, va, pe, r0, si⟩ p).perms, as_ (useV ⟨se, ac, va, pe, r0, si⟩ p).rp, ai (useV ⟨se, ac, va, pe, r0, si⟩ p).since]) := use_tk ⟨se, ac, va, pe, r0, si⟩ p
theorem refuse_ret (se : UInt64) (ac : Bool) (va : UInt64) (pe : Int) (r0 : List UInt8) (si : Int) (p : Int) : Ret Try.prog 25 [.agg [aw se, ao ac, aw va, ai pe, as_ r0, ai si], ai p] (.agg [aw (useV ⟨se, ac, va, pe, r0, si⟩ p).secret, ao (useV ⟨se, ac, va, pe, r0, si⟩ p).active, aw (useV ⟨se, ac, va, pe, r0, si⟩ p).value, ai (useV ⟨se, ac, va, pe, r0, si⟩ p).perms, as_ (useV ⟨se, ac, va, pe, r0, si⟩ p).rp, ai (useV ⟨se, ac, va, pe, r0, si⟩ p).since]) := refuse_tk ⟨se, ac, va, pe, r0, si⟩ p
theorem verify_ret (se : UInt64) (ac : Bool) (va : UInt64) (pe : Int) (r0 : List UInt8) (si : Int) (now p : Int) (rp : List UInt8) (d a : UInt64) : Ret Try.prog 21 [.agg [aw se, ao ac, aw va, ai pe, as_ r0, ai si], ai now, ai p, as_ rp, aw d, aw a] (ai (verE ⟨se, ac, va, pe, r0, si⟩ now p rp d a)) := verify_tk ⟨se, ac, va, pe, r0, si⟩ now p rp d a
theorem refverify_ret (se : UInt64) (ac : Bool) (va : UInt64) (pe : Int) (r0 : List UInt8) (si : Int) (now p : Int) (rp : List UInt8) (d a : UInt64) : Ret Try.prog 22 [.agg [aw se, ao ac, aw va, ai pe, as_ r0, ai si], ai now, ai p, as_ rp, aw d, aw a] (ai (verE ⟨se, ac, va, pe, r0, si⟩ now p rp d a)) := refverify_tk ⟨se, ac, va, pe, r0, si⟩ now p rp d a
theorem openD_le (key : UInt64) (bound box : List UInt8) : (openD key bound box).length ≤ 1024 := by
  rw [openD]
  split
  · rename_i h
    rw [mixL_len, openH, List.length_take, List.length_drop]
    unfold openE at h
    split at h
    · cases h
    split at h
    · cases h
    omega
  · simp
theorem sealE_short (text : List UInt8) (h : text.length ≤ 1024) : sealE [] text = 0 := by
  unfold sealE; rw [if_neg (by simp; omega)]
def sealWD (key nonce w : UInt64) : List UInt8 := sealD key nonce [] (words [w])
theorem sealword_ret (key nonce w : UInt64) : Ret Try.prog 28 [aw key, aw nonce, aw w] (.own 1 (bytesA (sealWD key nonce w))) := by
  have hw : (words [w]).length = 8 := by rw [words_len]; rfl
  have hE := sealE_short (words [w]) (by omega)
  refine Ret.of_fn Try.func28 (by kernel_rfl) 21 (by kernel_rfl) (by kernel_rfl) ?_
  skip
  refine AWP.regsK 2 [{  }, { hs := [(3, { av := some (AV.arr (wordsA [w])) }), (4, { av := some (AV.own (1 : Nat) (bytesA (words [w]))) }), (5, { av := some (AV.tup [AV.own (1 : Nat) (bytesA (sealD key nonce [] (words [w]))), ai (sealE [] (words [w]))]) })] }] (by kernel_rfl) (s' := AS.mk [(8, ai (sealE [] (words [w]))), (7, AV.ref (1015 : Nat)), (17, ai (sealE [] (words [w]))), (16, AV.ref (1015 : Nat)), (9, AV.tup [AV.ref (1015 : Nat), ai (sealE [] (words [w]))]), (15, AV.tup [AV.ref (1015 : Nat), ai (sealE [] (words [w]))]), (14, AV.ref (14 : Nat)), (13, AV.ref (13 : Nat)), (12, aw w), (11, aw nonce), (10, aw key), (6, AV.nil), (0, aw key), (1, aw nonce), (2, aw w)] [(1015, Row.mk (1 : Nat) true false (bytesA (sealD key nonce [] (words [w])))), (14, Row.mk (1 : Nat) true false (bytesA (words [w]))), (13, Row.mk (1 : Nat) true true (wordsA [w]))]) (C := [[aw w] = wordsA [w], Ret Try.prog (41 : Nat) [AV.sl (1 : Nat) (wordsA [w])] (AV.own (1 : Nat) (bytesA (words [w]))), valR (bytesA (words [w])), Ret Try.prog (31 : Nat) [aw key, aw nonce, AV.nil, AV.sl (1 : Nat) (bytesA (words [w]))] (AV.tup [AV.own (1 : Nat) (bytesA (sealD key nonce [] (words [w]))), ai (sealE [] (words [w]))]), valR (bytesA (sealD key nonce [] (words [w])))]) (by kernel_rfl) ⟨rfl, (words_ret ([w]) (by simp only [List.length_cons, List.length_nil]; omega)), (valR_bytes _), (sealN_ret (key) (nonce) (words [w])), (valR_bytes _), trivial⟩ ?_
  refine AWP.wk [.keep [8, 7, 6, 0, 1, 2] [1015]] (s' := AS.mk [(8, ai (sealE [] (words [w]))), (7, AV.ref (1015 : Nat)), (6, AV.nil), (0, aw key), (1, aw nonce), (2, aw w)] [(1015, Row.mk (1 : Nat) true false (bytesA (sealD key nonce [] (words [w]))))]) (by kernel_rfl) ?_
  refine AWP.seq (by kernel_rfl) ?_
  refine AWP.regsK 1 [{  }] (by kernel_rfl) (s' := AS.mk [(19, ao (sealE [] (words [w]) != (0 : Int))), (18, ai (sealE [] (words [w]))), (8, ai (sealE [] (words [w]))), (7, AV.ref (1015 : Nat)), (6, AV.nil), (0, aw key), (1, aw nonce), (2, aw w)] [(1015, Row.mk (1 : Nat) true false (bytesA (sealD key nonce [] (words [w]))))]) (C := []) (by kernel_rfl) trivial ?_
  refine AWP.condF (x := Operand.tmp (19 : Nat)) (b := sealE [] (words [w]) != (0 : Int)) (by kernel_rfl) (by kernel_rfl) rfl ?_
  refine AWP.skip (by kernel_rfl) ?_
  skip
  refine then_n ?_
  refine AWP.regsK 1 [{  }] (by kernel_rfl) (s' := AS.mk [(6, AV.ref (1015 : Nat)), (20, AV.ref (1015 : Nat)), (19, ao (sealE [] (words [w]) != (0 : Int))), (18, ai (sealE [] (words [w]))), (8, ai (sealE [] (words [w]))), (7, AV.ref (1015 : Nat)), (0, aw key), (1, aw nonce), (2, aw w)] [(1015, Row.mk (1 : Nat) true false (bytesA (sealD key nonce [] (words [w]))))]) (C := []) (by kernel_rfl) trivial ?_
  refine AWP.ret (by kernel_rfl) ?_
  refine Done.ret_ (C := [bytesA (sealD key nonce [] (words [w])) = bytesA (sealWD key nonce w)]) (by kernel_rfl) ⟨rfl, trivial⟩
theorem refsealword_ret (key nonce w : UInt64) : Ret Try.prog 29 [aw key, aw nonce, aw w] (.own 1 (bytesA (sealWD key nonce w))) := by
  have hw : (words [w]).length = 8 := by rw [words_len]; rfl
  refine Ret.of_fn Try.func29 (by kernel_rfl) 19 (by kernel_rfl) (by kernel_rfl) ?_
  skip
  refine AWP.regsK 3 [{  }, { hs := [(3, { av := some (AV.arr (wordsA [w])) }), (4, { av := some (AV.own (1 : Nat) (bytesA (words [w]))) }), (5, { av := some (AV.tup [AV.own (1 : Nat) (bytesA (sealD key nonce [] (words [w]))), ai (sealE [] (words [w]))]) })] }, {  }] (by kernel_rfl) (s' := AS.mk [(6, AV.ref (1015 : Nat)), (18, AV.ref (1015 : Nat)), (8, ai (sealE [] (words [w]))), (7, AV.ref (1015 : Nat)), (17, ai (sealE [] (words [w]))), (16, AV.ref (1015 : Nat)), (9, AV.tup [AV.ref (1015 : Nat), ai (sealE [] (words [w]))]), (15, AV.tup [AV.ref (1015 : Nat), ai (sealE [] (words [w]))]), (14, AV.ref (14 : Nat)), (13, AV.ref (13 : Nat)), (12, aw w), (11, aw nonce), (10, aw key), (0, aw key), (1, aw nonce), (2, aw w)] [(1015, Row.mk (1 : Nat) true false (bytesA (sealD key nonce [] (words [w])))), (14, Row.mk (1 : Nat) true false (bytesA (words [w]))), (13, Row.mk (1 : Nat) true true (wordsA [w]))]) (C := [[aw w] = wordsA [w], Ret Try.prog (33 : Nat) [AV.sl (1 : Nat) (wordsA [w])] (AV.own (1 : Nat) (bytesA (words [w]))), valR (bytesA (words [w])), Ret Try.prog (13 : Nat) [aw key, aw nonce, AV.nil, AV.sl (1 : Nat) (bytesA (words [w]))] (AV.tup [AV.own (1 : Nat) (bytesA (sealD key nonce [] (words [w]))), ai (sealE [] (words [w]))]), valR (bytesA (sealD key nonce [] (words [w])))]) (by kernel_rfl) ⟨rfl, (refwords_ret ([w]) (by simp only [List.length_cons, List.length_nil]; omega)), (valR_bytes _), (refsealN_ret (key) (nonce) (words [w])), (valR_bytes _), trivial⟩ ?_
  refine AWP.wk [.keep [6, 7, 0, 1, 2] [1015]] (s' := AS.mk [(6, AV.ref (1015 : Nat)), (7, AV.ref (1015 : Nat)), (0, aw key), (1, aw nonce), (2, aw w)] [(1015, Row.mk (1 : Nat) true false (bytesA (sealD key nonce [] (words [w]))))]) (by kernel_rfl) ?_
  refine AWP.ret (by kernel_rfl) ?_
  refine Done.ret_ (C := [bytesA (sealD key nonce [] (words [w])) = bytesA (sealWD key nonce w)]) (by kernel_rfl) ⟨rfl, trivial⟩
def openWE (key : UInt64) (box : List UInt8) : Int := if openE key [] box ≠ 0 then openE key [] box else if (openD key [] box).length ≠ 8 then 2 else 0
def openWV (key : UInt64) (box : List UInt8) : UInt64 := if openWE key box = 0 then wordOf (openD key [] box) else 0
theorem openword_ret (key : UInt64) (box : List UInt8) : Ret Try.prog 27 [aw key, .sl 1 (bytesA box)] (.tup [aw (openWV key box), ai (openWE key box)]) := by
  have hle := openD_le key [] box
  by_cases h1 : openE key [] box = 0
  · by_cases h2 : (openD key [] box).length = 8
    · have e : openWE key box = 0 := by rw [openWE, if_neg (by omega), if_neg (by omega)]
      have ev : openWV key box = wordOf (openD key [] box) := by rw [openWV, if_pos e]
      refine Ret.of_fn Try.func27 (by kernel_rfl) 36 (by kernel_rfl) (by kernel_rfl) ?_
      skip
      refine AWP.regsK 2 [{  }, { hs := [(2, { av := some (AV.tup [AV.own (1 : Nat) (bytesA (openD key [] box)), ai (openE key [] box)]) })] }] (by kernel_rfl) (s' := AS.mk [(7, ai (openE key [] box)), (6, AV.ref (1014 : Nat)), (16, ai (openE key [] box)), (15, AV.ref (1014 : Nat)), (11, AV.tup [AV.ref (1014 : Nat), ai (openE key [] box)]), (14, AV.tup [AV.ref (1014 : Nat), ai (openE key [] box)]), (13, AV.sl (1 : Nat) (bytesA box)), (12, aw key), (5, ai (0 : Int)), (4, AV.val (Value.int IntKind.u64 (0 : Int))), (0, aw key), (1, AV.sl (1 : Nat) (bytesA box))] [(1014, Row.mk (1 : Nat) true false (bytesA (openD key [] box)))]) (C := [Ret Try.prog (39 : Nat) [aw key, AV.nil, AV.sl (1 : Nat) (bytesA box)] (AV.tup [AV.own (1 : Nat) (bytesA (openD key [] box)), ai (openE key [] box)]), valR (bytesA (openD key [] box))]) (by kernel_rfl) ⟨(openN_ret (key) (box)), (valR_bytes _), trivial⟩ ?_
      refine AWP.seq (by kernel_rfl) ?_
      refine AWP.regsK 1 [{  }] (by kernel_rfl) (s' := AS.mk [(18, ao (openE key [] box != (0 : Int))), (17, ai (openE key [] box)), (7, ai (openE key [] box)), (6, AV.ref (1014 : Nat)), (16, ai (openE key [] box)), (15, AV.ref (1014 : Nat)), (11, AV.tup [AV.ref (1014 : Nat), ai (openE key [] box)]), (14, AV.tup [AV.ref (1014 : Nat), ai (openE key [] box)]), (13, AV.sl (1 : Nat) (bytesA box)), (12, aw key), (5, ai (0 : Int)), (4, AV.val (Value.int IntKind.u64 (0 : Int))), (0, aw key), (1, AV.sl (1 : Nat) (bytesA box))] [(1014, Row.mk (1 : Nat) true false (bytesA (openD key [] box)))]) (C := []) (by kernel_rfl) trivial ?_
      refine AWP.wk [.keep [18, 7, 6, 5, 4, 0, 1] [1014]] (s' := AS.mk [(18, ao (openE key [] box != (0 : Int))), (7, ai (openE key [] box)), (6, AV.ref (1014 : Nat)), (5, ai (0 : Int)), (4, AV.val (Value.int IntKind.u64 (0 : Int))), (0, aw key), (1, AV.sl (1 : Nat) (bytesA box))] [(1014, Row.mk (1 : Nat) true false (bytesA (openD key [] box)))]) (by kernel_rfl) ?_
      refine AWP.condF (x := Operand.tmp (18 : Nat)) (b := openE key [] box != (0 : Int)) (by kernel_rfl) (by kernel_rfl) (by simp_all; done) ?_
      refine AWP.skip (by kernel_rfl) ?_
      skip
      refine then_n ?_
      refine AWP.seq (by kernel_rfl) ?_
      refine AWP.regsK 1 [{ hs := [(1, { k := (openD key [] box).length })] }] (by kernel_rfl) (s' := AS.mk [(22, ao ((↑(openD key [] box).length : Int) != (8 : Int))), (21, ai (↑(openD key [] box).length : Int)), (20, AV.ref (1014 : Nat)), (18, ao (openE key [] box != (0 : Int))), (7, ai (openE key [] box)), (6, AV.ref (1014 : Nat)), (5, ai (0 : Int)), (4, AV.val (Value.int IntKind.u64 (0 : Int))), (0, aw key), (1, AV.sl (1 : Nat) (bytesA box))] [(1014, Row.mk (1 : Nat) true false (bytesA (openD key [] box)))]) (C := [(bytesA (openD key [] box)).length = (openD key [] box).length]) (by kernel_rfl) ⟨(bytesA_len _), trivial⟩ ?_
      refine AWP.condF (x := Operand.tmp (22 : Nat)) (b := (↑(openD key [] box).length : Int) != (8 : Int)) (by kernel_rfl) (by kernel_rfl) (by simp_all; done) ?_
      refine AWP.skip (by kernel_rfl) ?_
      skip
      refine then_n ?_
      refine AWP.regsK 1 [{  }] (by kernel_rfl) (s' := AS.mk [(8, AV.val (Value.int IntKind.u64 (0 : Int))), (22, ao ((↑(openD key [] box).length : Int) != (8 : Int))), (21, ai (↑(openD key [] box).length : Int)), (20, AV.ref (1014 : Nat)), (18, ao (openE key [] box != (0 : Int))), (7, ai (openE key [] box)), (6, AV.ref (1014 : Nat)), (5, ai (0 : Int)), (4, AV.val (Value.int IntKind.u64 (0 : Int))), (0, aw key), (1, AV.sl (1 : Nat) (bytesA box))] [(1014, Row.mk (1 : Nat) true false (bytesA (openD key [] box)))]) (C := []) (by kernel_rfl) trivial ?_
      refine AWP.seq (by kernel_rfl) ?_
      refine AWP.regsK 1 [{ hs := [(1, { k := (openD key [] box).length })] }] (by kernel_rfl) (s' := AS.mk [(25, ai (0 : Int)), (24, ai (↑(openD key [] box).length : Int)), (23, AV.ref (1014 : Nat)), (8, AV.val (Value.int IntKind.u64 (0 : Int))), (22, ao ((↑(openD key [] box).length : Int) != (8 : Int))), (21, ai (↑(openD key [] box).length : Int)), (20, AV.ref (1014 : Nat)), (18, ao (openE key [] box != (0 : Int))), (7, ai (openE key [] box)), (6, AV.ref (1014 : Nat)), (5, ai (0 : Int)), (4, AV.val (Value.int IntKind.u64 (0 : Int))), (0, aw key), (1, AV.sl (1 : Nat) (bytesA box))] [(1014, Row.mk (1 : Nat) true false (bytesA (openD key [] box)))]) (C := [(bytesA (openD key [] box)).length = (openD key [] box).length]) (by kernel_rfl) ⟨(bytesA_len _), trivial⟩ ?_
      refine AWP.block (id := 0) (by kernel_rfl) ?_
      refine AWP.loop (fun (i : Nat) => (⟨[(24, ai (↑(openD key [] box).length : Int)), (23, AV.ref (1014 : Nat)), (22, ao ((↑(openD key [] box).length : Int) != (8 : Int))), (18, ao (openE key [] box != (0 : Int))), (7, ai (openE key [] box)), (6, AV.ref (1014 : Nat)), (5, ai (0 : Int)), (4, AV.val (Value.int IntKind.u64 (0 : Int))), (0, aw key), (1, AV.sl (1 : Nat) (bytesA box)), (25, ai i), (8, aw (wordOf ((openD key [] box).take i)))], [(1014, ⟨1, true, false, bytesA (openD key [] box)⟩)]⟩ : AS)) (fun i => (i ≤ 8)) (fun i => (8 - i)) (by kernel_rfl) (0) ?_ (Weaks.of [.keep [24, 23, 22, 18, 7, 6, 5, 4, 0, 1, 25, 8] [1014]] (s1 := AS.mk [(24, ai (↑(openD key [] box).length : Int)), (23, AV.ref (1014 : Nat)), (22, ao ((↑(openD key [] box).length : Int) != (8 : Int))), (18, ao (openE key [] box != (0 : Int))), (7, ai (openE key [] box)), (6, AV.ref (1014 : Nat)), (5, ai (0 : Int)), (4, AV.val (Value.int IntKind.u64 (0 : Int))), (0, aw key), (1, AV.sl (1 : Nat) (bytesA box)), (25, ai (0 : Int)), (8, AV.val (Value.int IntKind.u64 (0 : Int)))] [(1014, Row.mk (1 : Nat) true false (bytesA (openD key [] box)))]) (by kernel_rfl) rfl) ?_
      · omega
      intro i hi
      skip
      refine AWP.regsK 1 [{  }] (by kernel_rfl) (s' := AS.mk [(26, ao (decide ((↑i : Int) < (↑(openD key [] box).length : Int)))), (24, ai (↑(openD key [] box).length : Int)), (23, AV.ref (1014 : Nat)), (22, ao ((↑(openD key [] box).length : Int) != (8 : Int))), (18, ao (openE key [] box != (0 : Int))), (7, ai (openE key [] box)), (6, AV.ref (1014 : Nat)), (5, ai (0 : Int)), (4, AV.val (Value.int IntKind.u64 (0 : Int))), (0, aw key), (1, AV.sl (1 : Nat) (bytesA box)), (25, ai (↑i : Int)), (8, aw (wordOf (List.take i (openD key [] box))))] [(1014, Row.mk (1 : Nat) true false (bytesA (openD key [] box)))]) (C := []) (by kernel_rfl) trivial ?_
      refine AWP.seq (by kernel_rfl) ?_
      refine AWP.condD (x := Operand.tmp (26 : Nat)) (p := (↑i : Int) < (↑(openD key [] box).length : Int)) (by kernel_rfl) (by kernel_rfl) (fun h4 => ?_) (fun h4 => ?_)
      · have hw := wordOf_take (b := openD key [] box) (i := i) (by omega)
        skip
        refine AWP.skip (by kernel_rfl) ?_
        skip
        refine then_n ?_
        refine AWP.seq (by kernel_rfl) ?_
        refine AWP.block (id := 1) (by kernel_rfl) ?_
        refine AWP.regsK 1 [{ hs := [(0, { k := i }), (1, { av := some (ab ((openD key [] box).getD i (0 : UInt8))) })] }] (by kernel_rfl) (s' := AS.mk [(10, ab ((openD key [] box).getD i (0 : UInt8))), (28, ab ((openD key [] box).getD i (0 : UInt8))), (27, AV.addr (1014 : Nat) i), (26, ao (decide ((↑i : Int) < (↑(openD key [] box).length : Int)))), (24, ai (↑(openD key [] box).length : Int)), (23, AV.ref (1014 : Nat)), (22, ao ((↑(openD key [] box).length : Int) != (8 : Int))), (18, ao (openE key [] box != (0 : Int))), (7, ai (openE key [] box)), (6, AV.ref (1014 : Nat)), (5, ai (0 : Int)), (4, AV.val (Value.int IntKind.u64 (0 : Int))), (0, aw key), (1, AV.sl (1 : Nat) (bytesA box)), (25, ai (↑i : Int)), (8, aw (wordOf (List.take i (openD key [] box))))] [(1014, Row.mk (1 : Nat) true false (bytesA (openD key [] box)))]) (C := [(↑i : Int) = (↑i : Int), i < (bytesA (openD key [] box)).length, (bytesA (openD key [] box))[i]? = some (ab ((openD key [] box).getD i (0 : UInt8)))]) (by kernel_rfl) ⟨rfl, (by simp only [bytesA_len]; omega), (bytesA_at (by omega)), trivial⟩ ?_
        refine AWP.reg { hs := [(1, { av := some (aw (wordOf (List.take i (openD key [] box)) <<< (8 : UInt64))) }), (3, { av := some (aw (((openD key [] box).getD i (0 : UInt8)).toUInt64)) }), (4, { av := some (aw (wordOf (List.take i (openD key [] box)) <<< (8 : UInt64) ||| ((openD key [] box).getD i (0 : UInt8)).toUInt64)) })] } (s' := AS.mk [(8, aw (wordOf (List.take i (openD key [] box)) <<< (8 : UInt64) ||| ((openD key [] box).getD i (0 : UInt8)).toUInt64)), (33, aw (wordOf (List.take i (openD key [] box)) <<< (8 : UInt64) ||| ((openD key [] box).getD i (0 : UInt8)).toUInt64)), (32, aw (((openD key [] box).getD i (0 : UInt8)).toUInt64)), (31, ab ((openD key [] box).getD i (0 : UInt8))), (30, aw (wordOf (List.take i (openD key [] box)) <<< (8 : UInt64))), (29, aw (wordOf (List.take i (openD key [] box)))), (10, ab ((openD key [] box).getD i (0 : UInt8))), (28, ab ((openD key [] box).getD i (0 : UInt8))), (27, AV.addr (1014 : Nat) i), (26, ao (decide ((↑i : Int) < (↑(openD key [] box).length : Int)))), (24, ai (↑(openD key [] box).length : Int)), (23, AV.ref (1014 : Nat)), (22, ao ((↑(openD key [] box).length : Int) != (8 : Int))), (18, ao (openE key [] box != (0 : Int))), (7, ai (openE key [] box)), (6, AV.ref (1014 : Nat)), (5, ai (0 : Int)), (4, AV.val (Value.int IntKind.u64 (0 : Int))), (0, aw key), (1, AV.sl (1 : Nat) (bytesA box)), (25, ai (↑i : Int))] [(1014, Row.mk (1 : Nat) true false (bytesA (openD key [] box)))]) (C := [AV.val (Value.int IntKind.u64 (IntKind.u64.wrap (wv (wordOf (List.take i (openD key [] box))) * (2 : Int) ^ min (Int.toNat (8 : Int)) IntKind.u64.bits))) = aw (wordOf (List.take i (openD key [] box)) <<< (8 : UInt64)), (0 : Int) ≤ (8 : Int), AV.val (Value.int IntKind.u64 (IntKind.u64.wrap (bv ((openD key [] box).getD i (0 : UInt8))))) = aw (((openD key [] box).getD i (0 : UInt8)).toUInt64), AV.val (Value.int IntKind.u64 (IntKind.u64.wrap (↑(BitVec.ofInt IntKind.u64.bits (wv (wordOf (List.take i (openD key [] box)) <<< (8 : UInt64))) ||| BitVec.ofInt IntKind.u64.bits (wv ((openD key [] box).getD i (0 : UInt8)).toUInt64)).toNat : Int))) = aw (wordOf (List.take i (openD key [] box)) <<< (8 : UInt64) ||| ((openD key [] box).getD i (0 : UInt8)).toUInt64)]) (by kernel_rfl) ⟨(avw_shl (wordOf (List.take i (openD key [] box))) ((8 : Int)) (by omega) (by omega)), (by omega), (avw_bv ((openD key [] box).getD i (0 : UInt8))), (avw_or (wordOf (List.take i (openD key [] box)) <<< (8 : UInt64)) (((openD key [] box).getD i (0 : UInt8)).toUInt64)), trivial⟩ ?_
        skip
        refine inb_n ?_
        refine then_n ?_
        refine AWP.reg { hs := [(0, { av := some (ai ((↑i : Int) + (1 : Int))) })] } (s' := AS.mk [(25, ai ((↑i : Int) + (1 : Int))), (34, ai ((↑i : Int) + (1 : Int))), (8, aw (wordOf (List.take i (openD key [] box)) <<< (8 : UInt64) ||| ((openD key [] box).getD i (0 : UInt8)).toUInt64)), (33, aw (wordOf (List.take i (openD key [] box)) <<< (8 : UInt64) ||| ((openD key [] box).getD i (0 : UInt8)).toUInt64)), (32, aw (((openD key [] box).getD i (0 : UInt8)).toUInt64)), (31, ab ((openD key [] box).getD i (0 : UInt8))), (30, aw (wordOf (List.take i (openD key [] box)) <<< (8 : UInt64))), (29, aw (wordOf (List.take i (openD key [] box)))), (10, ab ((openD key [] box).getD i (0 : UInt8))), (28, ab ((openD key [] box).getD i (0 : UInt8))), (27, AV.addr (1014 : Nat) i), (26, ao (decide ((↑i : Int) < (↑(openD key [] box).length : Int)))), (24, ai (↑(openD key [] box).length : Int)), (23, AV.ref (1014 : Nat)), (22, ao ((↑(openD key [] box).length : Int) != (8 : Int))), (18, ao (openE key [] box != (0 : Int))), (7, ai (openE key [] box)), (6, AV.ref (1014 : Nat)), (5, ai (0 : Int)), (4, AV.val (Value.int IntKind.u64 (0 : Int))), (0, aw key), (1, AV.sl (1 : Nat) (bytesA box))] [(1014, Row.mk (1 : Nat) true false (bytesA (openD key [] box)))]) (C := [ai (IntKind.i64.wrap ((↑i : Int) + (1 : Int))) = ai ((↑i : Int) + (1 : Int))]) (by kernel_rfl) ⟨(av_i64 (by omega) (by omega)), trivial⟩ ?_
        refine round_n (i + 1) (by omega) (by omega) (Weaks.of [.keep [24, 23, 22, 18, 7, 6, 5, 4, 0, 1, 25, 8] [1014]] (s1 := AS.mk [(24, ai (↑(openD key [] box).length : Int)), (23, AV.ref (1014 : Nat)), (22, ao ((↑(openD key [] box).length : Int) != (8 : Int))), (18, ao (openE key [] box != (0 : Int))), (7, ai (openE key [] box)), (6, AV.ref (1014 : Nat)), (5, ai (0 : Int)), (4, AV.val (Value.int IntKind.u64 (0 : Int))), (0, aw key), (1, AV.sl (1 : Nat) (bytesA box)), (25, ai ((↑i : Int) + (1 : Int))), (8, aw (wordOf (List.take i (openD key [] box)) <<< (8 : UInt64) ||| ((openD key [] box).getD i (0 : UInt8)).toUInt64))] [(1014, Row.mk (1 : Nat) true false (bytesA (openD key [] box)))]) (by kernel_rfl) (as_eq (f_cons rfl (f_cons rfl (f_cons rfl (f_cons rfl (f_cons rfl (f_cons rfl (f_cons rfl (f_cons rfl (f_cons rfl (f_cons rfl (f_cons rfl (f_cons (congrArg aw hw) rfl)))))))))))) (h_cons rfl rfl)))
      · have e8 : i = 8 := by omega
        subst e8
        have et : (openD key [] box).take 8 = openD key [] box := List.take_of_length_le (by omega)
        skip
        refine AWP.exit (id := 0) (by kernel_rfl) ?_
        skip
        refine then_e ?_
        refine round_e ?_
        refine inb_e ?_
        refine then_n ?_
        refine AWP.regsK 1 [{  }] (by kernel_rfl) (s' := AS.mk [(5, ai (0 : Int)), (4, aw (wordOf (List.take (8 : Nat) (openD key [] box)))), (35, aw (wordOf (List.take (8 : Nat) (openD key [] box)))), (26, ao (decide ((↑(8 : Nat) : Int) < (↑(openD key [] box).length : Int)))), (24, ai (↑(openD key [] box).length : Int)), (23, AV.ref (1014 : Nat)), (22, ao ((↑(openD key [] box).length : Int) != (8 : Int))), (18, ao (openE key [] box != (0 : Int))), (7, ai (openE key [] box)), (6, AV.ref (1014 : Nat)), (0, aw key), (1, AV.sl (1 : Nat) (bytesA box)), (25, ai (↑(8 : Nat) : Int)), (8, aw (wordOf (List.take (8 : Nat) (openD key [] box))))] [(1014, Row.mk (1 : Nat) true false (bytesA (openD key [] box)))]) (C := []) (by kernel_rfl) trivial ?_
        refine AWP.ret (by kernel_rfl) ?_
        refine Done.ret_ (C := [Value.int IntKind.u64 (wv (wordOf (List.take (8 : Nat) (openD key [] box)))) = Value.int IntKind.u64 (wv (openWV key box)), Value.int IntKind.i64 (0 : Int) = Value.int IntKind.i64 (openWE key box)]) (by kernel_rfl) ⟨(by rw [ev, et]), (by rw [e]), trivial⟩
    · have e : openWE key box = 2 := by rw [openWE, if_neg (by omega), if_pos h2]
      have ev : openWV key box = 0 := by rw [openWV, if_neg (by omega)]
      refine Ret.of_fn Try.func27 (by kernel_rfl) 36 (by kernel_rfl) (by kernel_rfl) ?_
      skip
      refine AWP.regsK 2 [{  }, { hs := [(2, { av := some (AV.tup [AV.own (1 : Nat) (bytesA (openD key [] box)), ai (openE key [] box)]) })] }] (by kernel_rfl) (s' := AS.mk [(7, ai (openE key [] box)), (6, AV.ref (1014 : Nat)), (16, ai (openE key [] box)), (15, AV.ref (1014 : Nat)), (11, AV.tup [AV.ref (1014 : Nat), ai (openE key [] box)]), (14, AV.tup [AV.ref (1014 : Nat), ai (openE key [] box)]), (13, AV.sl (1 : Nat) (bytesA box)), (12, aw key), (5, ai (0 : Int)), (4, AV.val (Value.int IntKind.u64 (0 : Int))), (0, aw key), (1, AV.sl (1 : Nat) (bytesA box))] [(1014, Row.mk (1 : Nat) true false (bytesA (openD key [] box)))]) (C := [Ret Try.prog (39 : Nat) [aw key, AV.nil, AV.sl (1 : Nat) (bytesA box)] (AV.tup [AV.own (1 : Nat) (bytesA (openD key [] box)), ai (openE key [] box)]), valR (bytesA (openD key [] box))]) (by kernel_rfl) ⟨(openN_ret (key) (box)), (valR_bytes _), trivial⟩ ?_
      refine AWP.seq (by kernel_rfl) ?_
      refine AWP.regsK 1 [{  }] (by kernel_rfl) (s' := AS.mk [(18, ao (openE key [] box != (0 : Int))), (17, ai (openE key [] box)), (7, ai (openE key [] box)), (6, AV.ref (1014 : Nat)), (16, ai (openE key [] box)), (15, AV.ref (1014 : Nat)), (11, AV.tup [AV.ref (1014 : Nat), ai (openE key [] box)]), (14, AV.tup [AV.ref (1014 : Nat), ai (openE key [] box)]), (13, AV.sl (1 : Nat) (bytesA box)), (12, aw key), (5, ai (0 : Int)), (4, AV.val (Value.int IntKind.u64 (0 : Int))), (0, aw key), (1, AV.sl (1 : Nat) (bytesA box))] [(1014, Row.mk (1 : Nat) true false (bytesA (openD key [] box)))]) (C := []) (by kernel_rfl) trivial ?_
      refine AWP.wk [.keep [18, 7, 6, 5, 4, 0, 1] [1014]] (s' := AS.mk [(18, ao (openE key [] box != (0 : Int))), (7, ai (openE key [] box)), (6, AV.ref (1014 : Nat)), (5, ai (0 : Int)), (4, AV.val (Value.int IntKind.u64 (0 : Int))), (0, aw key), (1, AV.sl (1 : Nat) (bytesA box))] [(1014, Row.mk (1 : Nat) true false (bytesA (openD key [] box)))]) (by kernel_rfl) ?_
      refine AWP.condF (x := Operand.tmp (18 : Nat)) (b := openE key [] box != (0 : Int)) (by kernel_rfl) (by kernel_rfl) (by simp_all; done) ?_
      refine AWP.skip (by kernel_rfl) ?_
      skip
      refine then_n ?_
      refine AWP.seq (by kernel_rfl) ?_
      refine AWP.regsK 1 [{ hs := [(1, { k := (openD key [] box).length })] }] (by kernel_rfl) (s' := AS.mk [(22, ao ((↑(openD key [] box).length : Int) != (8 : Int))), (21, ai (↑(openD key [] box).length : Int)), (20, AV.ref (1014 : Nat)), (18, ao (openE key [] box != (0 : Int))), (7, ai (openE key [] box)), (6, AV.ref (1014 : Nat)), (5, ai (0 : Int)), (4, AV.val (Value.int IntKind.u64 (0 : Int))), (0, aw key), (1, AV.sl (1 : Nat) (bytesA box))] [(1014, Row.mk (1 : Nat) true false (bytesA (openD key [] box)))]) (C := [(bytesA (openD key [] box)).length = (openD key [] box).length]) (by kernel_rfl) ⟨(bytesA_len _), trivial⟩ ?_
      refine AWP.condT (x := Operand.tmp (22 : Nat)) (b := (↑(openD key [] box).length : Int) != (8 : Int)) (by kernel_rfl) (by kernel_rfl) (by simp; omega) ?_
      refine AWP.regsK 1 [{  }] (by kernel_rfl) (s' := AS.mk [(5, ai (2 : Int)), (4, AV.val (Value.int IntKind.u64 (0 : Int))), (22, ao ((↑(openD key [] box).length : Int) != (8 : Int))), (21, ai (↑(openD key [] box).length : Int)), (20, AV.ref (1014 : Nat)), (18, ao (openE key [] box != (0 : Int))), (7, ai (openE key [] box)), (6, AV.ref (1014 : Nat)), (0, aw key), (1, AV.sl (1 : Nat) (bytesA box))] [(1014, Row.mk (1 : Nat) true false (bytesA (openD key [] box)))]) (C := []) (by kernel_rfl) trivial ?_
      refine AWP.ret (by kernel_rfl) ?_
      skip
      refine then_r ?_
      refine Done.ret_ (C := [Value.int IntKind.u64 (0 : Int) = Value.int IntKind.u64 (wv (openWV key box)), Value.int IntKind.i64 (2 : Int) = Value.int IntKind.i64 (openWE key box)]) (by kernel_rfl) ⟨(by rw [ev]; rfl), (by rw [e]), trivial⟩
  · have e : openWE key box = openE key [] box := by rw [openWE, if_pos h1]
    have ev : openWV key box = 0 := by rw [openWV, if_neg (by omega)]
    refine Ret.of_fn Try.func27 (by kernel_rfl) 36 (by kernel_rfl) (by kernel_rfl) ?_
    skip
    refine AWP.regsK 2 [{  }, { hs := [(2, { av := some (AV.tup [AV.own (1 : Nat) (bytesA (openD key [] box)), ai (openE key [] box)]) })] }] (by kernel_rfl) (s' := AS.mk [(7, ai (openE key [] box)), (6, AV.ref (1014 : Nat)), (16, ai (openE key [] box)), (15, AV.ref (1014 : Nat)), (11, AV.tup [AV.ref (1014 : Nat), ai (openE key [] box)]), (14, AV.tup [AV.ref (1014 : Nat), ai (openE key [] box)]), (13, AV.sl (1 : Nat) (bytesA box)), (12, aw key), (5, ai (0 : Int)), (4, AV.val (Value.int IntKind.u64 (0 : Int))), (0, aw key), (1, AV.sl (1 : Nat) (bytesA box))] [(1014, Row.mk (1 : Nat) true false (bytesA (openD key [] box)))]) (C := [Ret Try.prog (39 : Nat) [aw key, AV.nil, AV.sl (1 : Nat) (bytesA box)] (AV.tup [AV.own (1 : Nat) (bytesA (openD key [] box)), ai (openE key [] box)]), valR (bytesA (openD key [] box))]) (by kernel_rfl) ⟨(openN_ret (key) (box)), (valR_bytes _), trivial⟩ ?_
    refine AWP.seq (by kernel_rfl) ?_
    refine AWP.regsK 1 [{  }] (by kernel_rfl) (s' := AS.mk [(18, ao (openE key [] box != (0 : Int))), (17, ai (openE key [] box)), (7, ai (openE key [] box)), (6, AV.ref (1014 : Nat)), (16, ai (openE key [] box)), (15, AV.ref (1014 : Nat)), (11, AV.tup [AV.ref (1014 : Nat), ai (openE key [] box)]), (14, AV.tup [AV.ref (1014 : Nat), ai (openE key [] box)]), (13, AV.sl (1 : Nat) (bytesA box)), (12, aw key), (5, ai (0 : Int)), (4, AV.val (Value.int IntKind.u64 (0 : Int))), (0, aw key), (1, AV.sl (1 : Nat) (bytesA box))] [(1014, Row.mk (1 : Nat) true false (bytesA (openD key [] box)))]) (C := []) (by kernel_rfl) trivial ?_
    refine AWP.wk [.keep [18, 7, 6, 5, 4, 0, 1] [1014]] (s' := AS.mk [(18, ao (openE key [] box != (0 : Int))), (7, ai (openE key [] box)), (6, AV.ref (1014 : Nat)), (5, ai (0 : Int)), (4, AV.val (Value.int IntKind.u64 (0 : Int))), (0, aw key), (1, AV.sl (1 : Nat) (bytesA box))] [(1014, Row.mk (1 : Nat) true false (bytesA (openD key [] box)))]) (by kernel_rfl) ?_
    refine AWP.condT (x := Operand.tmp (18 : Nat)) (b := openE key [] box != (0 : Int)) (by kernel_rfl) (by kernel_rfl) (by simp_all; done) ?_
    refine AWP.regsK 1 [{  }] (by kernel_rfl) (s' := AS.mk [(5, ai (openE key [] box)), (4, AV.val (Value.int IntKind.u64 (0 : Int))), (19, ai (openE key [] box)), (18, ao (openE key [] box != (0 : Int))), (7, ai (openE key [] box)), (6, AV.ref (1014 : Nat)), (0, aw key), (1, AV.sl (1 : Nat) (bytesA box))] [(1014, Row.mk (1 : Nat) true false (bytesA (openD key [] box)))]) (C := []) (by kernel_rfl) trivial ?_
    refine AWP.ret (by kernel_rfl) ?_
    skip
    refine then_r ?_
    refine Done.ret_ (C := [Value.int IntKind.u64 (0 : Int) = Value.int IntKind.u64 (wv (openWV key box)), Value.int IntKind.i64 (openE key [] box) = Value.int IntKind.i64 (openWE key box)]) (by kernel_rfl) ⟨(by rw [ev]; rfl), (by rw [e]), trivial⟩
theorem refopenword_ret (key : UInt64) (box : List UInt8) : Ret Try.prog 42 [aw key, .sl 1 (bytesA box)] (.tup [aw (openWV key box), ai (openWE key box)]) := by
  have hle := openD_le key [] box
  by_cases h1 : openE key [] box = 0
  · by_cases h2 : (openD key [] box).length = 8
    · have e : openWE key box = 0 := by rw [openWE, if_neg (by omega), if_neg (by omega)]
      have ev : openWV key box = wordOf (openD key [] box) := by rw [openWV, if_pos e]
      refine Ret.of_fn Try.func42 (by kernel_rfl) 22 (by kernel_rfl) (by kernel_rfl) ?_
      skip
      refine AWP.regsK 2 [{  }, { hs := [(2, { av := some (AV.tup [AV.own (1 : Nat) (bytesA (openD key [] box)), ai (openE key [] box)]) })] }] (by kernel_rfl) (s' := AS.mk [(7, ai (openE key [] box)), (6, AV.ref (1011 : Nat)), (13, ai (openE key [] box)), (12, AV.ref (1011 : Nat)), (8, AV.tup [AV.ref (1011 : Nat), ai (openE key [] box)]), (11, AV.tup [AV.ref (1011 : Nat), ai (openE key [] box)]), (10, AV.sl (1 : Nat) (bytesA box)), (9, aw key), (5, ai (0 : Int)), (4, AV.val (Value.int IntKind.u64 (0 : Int))), (0, aw key), (1, AV.sl (1 : Nat) (bytesA box))] [(1011, Row.mk (1 : Nat) true false (bytesA (openD key [] box)))]) (C := [Ret Try.prog (47 : Nat) [aw key, AV.nil, AV.sl (1 : Nat) (bytesA box)] (AV.tup [AV.own (1 : Nat) (bytesA (openD key [] box)), ai (openE key [] box)]), valR (bytesA (openD key [] box))]) (by kernel_rfl) ⟨(refopenN_ret (key) (box)), (valR_bytes _), trivial⟩ ?_
      refine AWP.seq (by kernel_rfl) ?_
      refine AWP.regsK 1 [{  }] (by kernel_rfl) (s' := AS.mk [(15, ao (openE key [] box != (0 : Int))), (14, ai (openE key [] box)), (7, ai (openE key [] box)), (6, AV.ref (1011 : Nat)), (13, ai (openE key [] box)), (12, AV.ref (1011 : Nat)), (8, AV.tup [AV.ref (1011 : Nat), ai (openE key [] box)]), (11, AV.tup [AV.ref (1011 : Nat), ai (openE key [] box)]), (10, AV.sl (1 : Nat) (bytesA box)), (9, aw key), (5, ai (0 : Int)), (4, AV.val (Value.int IntKind.u64 (0 : Int))), (0, aw key), (1, AV.sl (1 : Nat) (bytesA box))] [(1011, Row.mk (1 : Nat) true false (bytesA (openD key [] box)))]) (C := []) (by kernel_rfl) trivial ?_
      refine AWP.wk [.keep [15, 7, 6, 5, 4, 0, 1] [1011]] (s' := AS.mk [(15, ao (openE key [] box != (0 : Int))), (7, ai (openE key [] box)), (6, AV.ref (1011 : Nat)), (5, ai (0 : Int)), (4, AV.val (Value.int IntKind.u64 (0 : Int))), (0, aw key), (1, AV.sl (1 : Nat) (bytesA box))] [(1011, Row.mk (1 : Nat) true false (bytesA (openD key [] box)))]) (by kernel_rfl) ?_
      refine AWP.condF (x := Operand.tmp (15 : Nat)) (b := openE key [] box != (0 : Int)) (by kernel_rfl) (by kernel_rfl) (by simp_all; done) ?_
      refine AWP.skip (by kernel_rfl) ?_
      skip
      refine then_n ?_
      refine AWP.seq (by kernel_rfl) ?_
      refine AWP.regsK 1 [{ hs := [(1, { k := (openD key [] box).length })] }] (by kernel_rfl) (s' := AS.mk [(19, ao ((↑(openD key [] box).length : Int) != (8 : Int))), (18, ai (↑(openD key [] box).length : Int)), (17, AV.ref (1011 : Nat)), (15, ao (openE key [] box != (0 : Int))), (7, ai (openE key [] box)), (6, AV.ref (1011 : Nat)), (5, ai (0 : Int)), (4, AV.val (Value.int IntKind.u64 (0 : Int))), (0, aw key), (1, AV.sl (1 : Nat) (bytesA box))] [(1011, Row.mk (1 : Nat) true false (bytesA (openD key [] box)))]) (C := [(bytesA (openD key [] box)).length = (openD key [] box).length]) (by kernel_rfl) ⟨(bytesA_len _), trivial⟩ ?_
      refine AWP.condF (x := Operand.tmp (19 : Nat)) (b := (↑(openD key [] box).length : Int) != (8 : Int)) (by kernel_rfl) (by kernel_rfl) (by simp_all; done) ?_
      refine AWP.skip (by kernel_rfl) ?_
      skip
      refine then_n ?_
      refine AWP.regsK 1 [{ hs := [(1, { av := some (aw (wordOf (openD key [] box))) })] }] (by kernel_rfl) (s' := AS.mk [(5, ai (0 : Int)), (4, aw (wordOf (openD key [] box))), (21, aw (wordOf (openD key [] box))), (20, AV.ref (1011 : Nat)), (19, ao ((↑(openD key [] box).length : Int) != (8 : Int))), (18, ai (↑(openD key [] box).length : Int)), (17, AV.ref (1011 : Nat)), (15, ao (openE key [] box != (0 : Int))), (7, ai (openE key [] box)), (6, AV.ref (1011 : Nat)), (0, aw key), (1, AV.sl (1 : Nat) (bytesA box))] [(1011, Row.mk (1 : Nat) true false (bytesA (openD key [] box)))]) (C := [Ret Try.prog (51 : Nat) [AV.sl (1 : Nat) (bytesA (openD key [] box))] (aw (wordOf (openD key [] box)))]) (by kernel_rfl) ⟨(refword_ret (openD key [] box) (by assumption)), trivial⟩ ?_
      refine AWP.ret (by kernel_rfl) ?_
      refine Done.ret_ (C := [Value.int IntKind.u64 (wv (wordOf (openD key [] box))) = Value.int IntKind.u64 (wv (openWV key box)), Value.int IntKind.i64 (0 : Int) = Value.int IntKind.i64 (openWE key box)]) (by kernel_rfl) ⟨(by rw [ev]), (by rw [e]), trivial⟩
    · have e : openWE key box = 2 := by rw [openWE, if_neg (by omega), if_pos h2]
      have ev : openWV key box = 0 := by rw [openWV, if_neg (by omega)]
      refine Ret.of_fn Try.func42 (by kernel_rfl) 22 (by kernel_rfl) (by kernel_rfl) ?_
      skip
      refine AWP.regsK 2 [{  }, { hs := [(2, { av := some (AV.tup [AV.own (1 : Nat) (bytesA (openD key [] box)), ai (openE key [] box)]) })] }] (by kernel_rfl) (s' := AS.mk [(7, ai (openE key [] box)), (6, AV.ref (1011 : Nat)), (13, ai (openE key [] box)), (12, AV.ref (1011 : Nat)), (8, AV.tup [AV.ref (1011 : Nat), ai (openE key [] box)]), (11, AV.tup [AV.ref (1011 : Nat), ai (openE key [] box)]), (10, AV.sl (1 : Nat) (bytesA box)), (9, aw key), (5, ai (0 : Int)), (4, AV.val (Value.int IntKind.u64 (0 : Int))), (0, aw key), (1, AV.sl (1 : Nat) (bytesA box))] [(1011, Row.mk (1 : Nat) true false (bytesA (openD key [] box)))]) (C := [Ret Try.prog (47 : Nat) [aw key, AV.nil, AV.sl (1 : Nat) (bytesA box)] (AV.tup [AV.own (1 : Nat) (bytesA (openD key [] box)), ai (openE key [] box)]), valR (bytesA (openD key [] box))]) (by kernel_rfl) ⟨(refopenN_ret (key) (box)), (valR_bytes _), trivial⟩ ?_
      refine AWP.seq (by kernel_rfl) ?_
      refine AWP.regsK 1 [{  }] (by kernel_rfl) (s' := AS.mk [(15, ao (openE key [] box != (0 : Int))), (14, ai (openE key [] box)), (7, ai (openE key [] box)), (6, AV.ref (1011 : Nat)), (13, ai (openE key [] box)), (12, AV.ref (1011 : Nat)), (8, AV.tup [AV.ref (1011 : Nat), ai (openE key [] box)]), (11, AV.tup [AV.ref (1011 : Nat), ai (openE key [] box)]), (10, AV.sl (1 : Nat) (bytesA box)), (9, aw key), (5, ai (0 : Int)), (4, AV.val (Value.int IntKind.u64 (0 : Int))), (0, aw key), (1, AV.sl (1 : Nat) (bytesA box))] [(1011, Row.mk (1 : Nat) true false (bytesA (openD key [] box)))]) (C := []) (by kernel_rfl) trivial ?_
      refine AWP.wk [.keep [15, 7, 6, 5, 4, 0, 1] [1011]] (s' := AS.mk [(15, ao (openE key [] box != (0 : Int))), (7, ai (openE key [] box)), (6, AV.ref (1011 : Nat)), (5, ai (0 : Int)), (4, AV.val (Value.int IntKind.u64 (0 : Int))), (0, aw key), (1, AV.sl (1 : Nat) (bytesA box))] [(1011, Row.mk (1 : Nat) true false (bytesA (openD key [] box)))]) (by kernel_rfl) ?_
      refine AWP.condF (x := Operand.tmp (15 : Nat)) (b := openE key [] box != (0 : Int)) (by kernel_rfl) (by kernel_rfl) (by simp_all; done) ?_
      refine AWP.skip (by kernel_rfl) ?_
      skip
      refine then_n ?_
      refine AWP.seq (by kernel_rfl) ?_
      refine AWP.regsK 1 [{ hs := [(1, { k := (openD key [] box).length })] }] (by kernel_rfl) (s' := AS.mk [(19, ao ((↑(openD key [] box).length : Int) != (8 : Int))), (18, ai (↑(openD key [] box).length : Int)), (17, AV.ref (1011 : Nat)), (15, ao (openE key [] box != (0 : Int))), (7, ai (openE key [] box)), (6, AV.ref (1011 : Nat)), (5, ai (0 : Int)), (4, AV.val (Value.int IntKind.u64 (0 : Int))), (0, aw key), (1, AV.sl (1 : Nat) (bytesA box))] [(1011, Row.mk (1 : Nat) true false (bytesA (openD key [] box)))]) (C := [(bytesA (openD key [] box)).length = (openD key [] box).length]) (by kernel_rfl) ⟨(bytesA_len _), trivial⟩ ?_
      refine AWP.condT (x := Operand.tmp (19 : Nat)) (b := (↑(openD key [] box).length : Int) != (8 : Int)) (by kernel_rfl) (by kernel_rfl) (by simp; omega) ?_
      refine AWP.regsK 1 [{  }] (by kernel_rfl) (s' := AS.mk [(5, ai (2 : Int)), (4, AV.val (Value.int IntKind.u64 (0 : Int))), (19, ao ((↑(openD key [] box).length : Int) != (8 : Int))), (18, ai (↑(openD key [] box).length : Int)), (17, AV.ref (1011 : Nat)), (15, ao (openE key [] box != (0 : Int))), (7, ai (openE key [] box)), (6, AV.ref (1011 : Nat)), (0, aw key), (1, AV.sl (1 : Nat) (bytesA box))] [(1011, Row.mk (1 : Nat) true false (bytesA (openD key [] box)))]) (C := []) (by kernel_rfl) trivial ?_
      refine AWP.ret (by kernel_rfl) ?_
      skip
      refine then_r ?_
      refine Done.ret_ (C := [Value.int IntKind.u64 (0 : Int) = Value.int IntKind.u64 (wv (openWV key box)), Value.int IntKind.i64 (2 : Int) = Value.int IntKind.i64 (openWE key box)]) (by kernel_rfl) ⟨(by rw [ev]; rfl), (by rw [e]), trivial⟩
  · have e : openWE key box = openE key [] box := by rw [openWE, if_pos h1]
    have ev : openWV key box = 0 := by rw [openWV, if_neg (by omega)]
    refine Ret.of_fn Try.func42 (by kernel_rfl) 22 (by kernel_rfl) (by kernel_rfl) ?_
    skip
    refine AWP.regsK 2 [{  }, { hs := [(2, { av := some (AV.tup [AV.own (1 : Nat) (bytesA (openD key [] box)), ai (openE key [] box)]) })] }] (by kernel_rfl) (s' := AS.mk [(7, ai (openE key [] box)), (6, AV.ref (1011 : Nat)), (13, ai (openE key [] box)), (12, AV.ref (1011 : Nat)), (8, AV.tup [AV.ref (1011 : Nat), ai (openE key [] box)]), (11, AV.tup [AV.ref (1011 : Nat), ai (openE key [] box)]), (10, AV.sl (1 : Nat) (bytesA box)), (9, aw key), (5, ai (0 : Int)), (4, AV.val (Value.int IntKind.u64 (0 : Int))), (0, aw key), (1, AV.sl (1 : Nat) (bytesA box))] [(1011, Row.mk (1 : Nat) true false (bytesA (openD key [] box)))]) (C := [Ret Try.prog (47 : Nat) [aw key, AV.nil, AV.sl (1 : Nat) (bytesA box)] (AV.tup [AV.own (1 : Nat) (bytesA (openD key [] box)), ai (openE key [] box)]), valR (bytesA (openD key [] box))]) (by kernel_rfl) ⟨(refopenN_ret (key) (box)), (valR_bytes _), trivial⟩ ?_
    refine AWP.seq (by kernel_rfl) ?_
    refine AWP.regsK 1 [{  }] (by kernel_rfl) (s' := AS.mk [(15, ao (openE key [] box != (0 : Int))), (14, ai (openE key [] box)), (7, ai (openE key [] box)), (6, AV.ref (1011 : Nat)), (13, ai (openE key [] box)), (12, AV.ref (1011 : Nat)), (8, AV.tup [AV.ref (1011 : Nat), ai (openE key [] box)]), (11, AV.tup [AV.ref (1011 : Nat), ai (openE key [] box)]), (10, AV.sl (1 : Nat) (bytesA box)), (9, aw key), (5, ai (0 : Int)), (4, AV.val (Value.int IntKind.u64 (0 : Int))), (0, aw key), (1, AV.sl (1 : Nat) (bytesA box))] [(1011, Row.mk (1 : Nat) true false (bytesA (openD key [] box)))]) (C := []) (by kernel_rfl) trivial ?_
    refine AWP.wk [.keep [15, 7, 6, 5, 4, 0, 1] [1011]] (s' := AS.mk [(15, ao (openE key [] box != (0 : Int))), (7, ai (openE key [] box)), (6, AV.ref (1011 : Nat)), (5, ai (0 : Int)), (4, AV.val (Value.int IntKind.u64 (0 : Int))), (0, aw key), (1, AV.sl (1 : Nat) (bytesA box))] [(1011, Row.mk (1 : Nat) true false (bytesA (openD key [] box)))]) (by kernel_rfl) ?_
    refine AWP.condT (x := Operand.tmp (15 : Nat)) (b := openE key [] box != (0 : Int)) (by kernel_rfl) (by kernel_rfl) (by simp_all; done) ?_
    refine AWP.regsK 1 [{  }] (by kernel_rfl) (s' := AS.mk [(5, ai (openE key [] box)), (4, AV.val (Value.int IntKind.u64 (0 : Int))), (16, ai (openE key [] box)), (15, ao (openE key [] box != (0 : Int))), (7, ai (openE key [] box)), (6, AV.ref (1011 : Nat)), (0, aw key), (1, AV.sl (1 : Nat) (bytesA box))] [(1011, Row.mk (1 : Nat) true false (bytesA (openD key [] box)))]) (C := []) (by kernel_rfl) trivial ?_
    refine AWP.ret (by kernel_rfl) ?_
    skip
    refine then_r ?_
    refine Done.ret_ (C := [Value.int IntKind.u64 (0 : Int) = Value.int IntKind.u64 (wv (openWV key box)), Value.int IntKind.i64 (openE key [] box) = Value.int IntKind.i64 (openWE key box)]) (by kernel_rfl) ⟨(by rw [ev]; rfl), (by rw [e]), trivial⟩
/-- A PIN in its box. -/
def pad (s : List UInt8) : List UInt8 := s ++ List.replicate (64 - s.length) 0
def sealPE (s : List UInt8) : Int := if 63 < s.length then 8 else 0
def sealPD (key nonce : UInt64) (s : List UInt8) : List UInt8 := if 63 < s.length then [] else sealD key nonce [] (pad s)
theorem copy_pad (s : List UInt8) (h : s.length ≤ 63) : setCells (bytesA (List.replicate 64 0)) 0 ((bytesA s).take (mul1 s.length 1)) = bytesA (pad s) := by
  have h1 : (bytesA s).take (mul1 s.length 1) = bytesA s := List.take_of_length_le (by rw [mul1_eq, bytesA_len]; omega)
  rw [h1, setCells_eq _ _ _ (by rw [bytesA_len, bytesA_len, List.length_replicate]; omega), List.take_zero, List.nil_append, bytesA_len, bytesA_drop, bytesA_app, pad, List.drop_replicate, Nat.zero_add]
theorem sealpin_ret (key nonce : UInt64) (s : List UInt8) (hs : s.length ≤ 9223372036854775807) : Ret Try.prog 11 [aw key, aw nonce, as_ s] (.tup [.own 1 (bytesA (sealPD key nonce s)), ai (sealPE s)]) := by
  by_cases h : 63 < s.length
  · have e : sealPE s = 8 := by rw [sealPE, if_pos h]
    have ed : sealPD key nonce s = [] := by rw [sealPD, if_pos h]
    refine Ret.of_fn Try.func11 (by kernel_rfl) 22 (by kernel_rfl) (by kernel_rfl) ?_
    skip
    refine AWP.regsK 1 [{  }] (by kernel_rfl) (s' := AS.mk [(7, ai (0 : Int)), (6, AV.nil), (0, aw key), (1, aw nonce), (2, AV.val (Value.string (ByteArray.mk s.toArray)))] []) (C := []) (by kernel_rfl) trivial ?_
    refine AWP.seq (by kernel_rfl) ?_
    refine AWP.regsK 1 [{ hs := [(1, { av := some (ai (↑s.length : Int)) })] }] (by kernel_rfl) (s' := AS.mk [(11, ao (decide ((↑s.length : Int) > (63 : Int)))), (10, ai (↑s.length : Int)), (9, AV.val (Value.string (ByteArray.mk s.toArray))), (7, ai (0 : Int)), (6, AV.nil), (0, aw key), (1, aw nonce), (2, AV.val (Value.string (ByteArray.mk s.toArray)))] []) (C := [ai (↑(ByteArray.mk s.toArray).size : Int) = ai (↑s.length : Int)]) (by kernel_rfl) ⟨rfl, trivial⟩ ?_
    refine AWP.condT (x := Operand.tmp (11 : Nat)) (b := decide ((↑s.length : Int) > (63 : Int))) (by kernel_rfl) (by kernel_rfl) (decide_eq_true (by omega)) ?_
    refine AWP.regsK 1 [{  }] (by kernel_rfl) (s' := AS.mk [(7, ai (8 : Int)), (6, AV.nil), (11, ao (decide ((↑s.length : Int) > (63 : Int)))), (10, ai (↑s.length : Int)), (9, AV.val (Value.string (ByteArray.mk s.toArray))), (0, aw key), (1, aw nonce), (2, AV.val (Value.string (ByteArray.mk s.toArray)))] []) (C := []) (by kernel_rfl) trivial ?_
    refine AWP.ret (by kernel_rfl) ?_
    skip
    refine then_r ?_
    refine Done.ret_ (C := [bytesA (sealPD key nonce s) = [], Value.int IntKind.i64 (8 : Int) = Value.int IntKind.i64 (sealPE s)]) (by kernel_rfl) ⟨(by rw [ed]; rfl), (by rw [e]), trivial⟩
  · have e : sealPE s = 0 := by rw [sealPE, if_neg h]
    have ed : sealPD key nonce s = sealD key nonce [] (pad s) := by rw [sealPD, if_neg h]
    have hp : (pad s).length = 64 := by rw [pad, List.length_append, List.length_replicate]; omega
    have hE := sealE_short (pad s) (by omega)
    refine Ret.of_fn Try.func11 (by kernel_rfl) 22 (by kernel_rfl) (by kernel_rfl) ?_
    skip
    refine AWP.regsK 1 [{  }] (by kernel_rfl) (s' := AS.mk [(7, ai (0 : Int)), (6, AV.nil), (0, aw key), (1, aw nonce), (2, AV.val (Value.string (ByteArray.mk s.toArray)))] []) (C := []) (by kernel_rfl) trivial ?_
    refine AWP.seq (by kernel_rfl) ?_
    refine AWP.regsK 1 [{ hs := [(1, { av := some (ai (↑s.length : Int)) })] }] (by kernel_rfl) (s' := AS.mk [(11, ao (decide ((↑s.length : Int) > (63 : Int)))), (10, ai (↑s.length : Int)), (9, AV.val (Value.string (ByteArray.mk s.toArray))), (7, ai (0 : Int)), (6, AV.nil), (0, aw key), (1, aw nonce), (2, AV.val (Value.string (ByteArray.mk s.toArray)))] []) (C := [ai (↑(ByteArray.mk s.toArray).size : Int) = ai (↑s.length : Int)]) (by kernel_rfl) ⟨rfl, trivial⟩ ?_
    refine AWP.condF (x := Operand.tmp (11 : Nat)) (b := decide ((↑s.length : Int) > (63 : Int))) (by kernel_rfl) (by kernel_rfl) (decide_eq_false (by omega)) ?_
    refine AWP.skip (by kernel_rfl) ?_
    skip
    refine then_n ?_
    refine AWP.regsK 3 [{ hs := [(0, { av := some (AV.arr (bytesA (List.replicate (64 : Nat) (0 : UInt8)))), k := (64 : Nat), m := (64 : Nat) })] }, { hs := [(2, { av := some (AV.arr (bytesA (pad s))), k := s.length, b := false })] }, { hs := [(3, { av := some (AV.tup [AV.own (1 : Nat) (bytesA (sealD key nonce [] (pad s))), ai (sealE [] (pad s))]) })] }] (by kernel_rfl) (s' := AS.mk [(7, ai (sealE [] (pad s))), (6, AV.ref (1019 : Nat)), (21, ai (sealE [] (pad s))), (20, AV.ref (1019 : Nat)), (19, AV.tup [AV.ref (1019 : Nat), ai (sealE [] (pad s))]), (18, AV.ref (12 : Nat)), (17, aw nonce), (16, aw key), (15, ai (↑s.length : Int)), (14, AV.val (Value.string (ByteArray.mk s.toArray))), (13, AV.ref (12 : Nat)), (8, AV.ref (12 : Nat)), (12, AV.ref (12 : Nat)), (11, ao (decide ((↑s.length : Int) > (63 : Int)))), (10, ai (↑s.length : Int)), (9, AV.val (Value.string (ByteArray.mk s.toArray))), (0, aw key), (1, aw nonce), (2, AV.val (Value.string (ByteArray.mk s.toArray)))] [(1019, Row.mk (1 : Nat) true false (bytesA (sealD key nonce [] (pad s)))), (12, Row.mk (1 : Nat) true false (bytesA (pad s)))]) (C := [List.replicate (64 : Nat) (AV.val (Value.int IntKind.u8 (0 : Int))) = bytesA (List.replicate (64 : Nat) (0 : UInt8)), (64 : Int) = (↑(64 : Nat) : Int), (64 : Int) = (↑(64 : Nat) : Int), (64 : Nat) ≤ (64 : Nat), (64 : Nat) ≤ (281474976710656 : Nat), (64 : Nat) ≤ maxLen, (match List.take s.length (bytesA s.toArray.toList) with | [x] => (bytesA (List.replicate (64 : Nat) (0 : UInt8))).set (0 : Nat) x | l => List.take (0 : Nat) (bytesA (List.replicate (64 : Nat) (0 : UInt8))) ++ l ++ List.drop ((0 : Nat) + l.length) (bytesA (List.replicate (64 : Nat) (0 : UInt8)))) = bytesA (pad s), plainR (bytesA s.toArray.toList), min (bytesA s.toArray.toList).length (bytesA (List.replicate (64 : Nat) (0 : UInt8))).length = s.length, (0 : Nat) < (bytesA (List.replicate (64 : Nat) (0 : UInt8))).length, Ret Try.prog (31 : Nat) [aw key, aw nonce, AV.nil, AV.sl (1 : Nat) (bytesA (pad s))] (AV.tup [AV.own (1 : Nat) (bytesA (sealD key nonce [] (pad s))), ai (sealE [] (pad s))]), valR (bytesA (sealD key nonce [] (pad s)))]) (by kernel_rfl) ⟨(bytesA_rep _), rfl, rfl, (by omega), (by omega), (by decide), (copy_pad s (by omega)), (plainR_bytes _), (by simp only [bytesA_len, List.length_replicate]; omega), (by decide), (sealN_ret (key) (nonce) (pad s)), (valR_bytes _), trivial⟩ ?_
    refine AWP.wk [.keep [7, 6, 8, 11, 0, 1, 2] [1019, 12]] (s' := AS.mk [(7, ai (sealE [] (pad s))), (6, AV.ref (1019 : Nat)), (8, AV.ref (12 : Nat)), (11, ao (decide ((↑s.length : Int) > (63 : Int)))), (0, aw key), (1, aw nonce), (2, AV.val (Value.string (ByteArray.mk s.toArray)))] [(1019, Row.mk (1 : Nat) true false (bytesA (sealD key nonce [] (pad s)))), (12, Row.mk (1 : Nat) true false (bytesA (pad s)))]) (by kernel_rfl) ?_
    refine AWP.ret (by kernel_rfl) ?_
    refine Done.ret_ (C := [bytesA (sealD key nonce [] (pad s)) = bytesA (sealPD key nonce s), Value.int IntKind.i64 (sealE [] (pad s)) = Value.int IntKind.i64 (sealPE s)]) (by kernel_rfl) ⟨(by rw [ed]), (by rw [e, hE]), trivial⟩
def pinE (b : List UInt8) : Int := if b.length ≠ 64 ∨ Lib.indexByte b 0 < 0 then 2 else if ∀ i, i < b.length - (Lib.indexByte b 0).toNat → b.getD (i + (Lib.indexByte b 0).toNat) 0 = 0 then 0 else 2
def pinS (b : List UInt8) : List UInt8 := if pinE b = 0 then b.take (Lib.indexByte b 0).toNat else []
def openPE (key : UInt64) (box : List UInt8) : Int := if openE key [] box ≠ 0 then openE key [] box else pinE (openD key [] box)
def openPS (key : UInt64) (box : List UInt8) : List UInt8 := if openE key [] box ≠ 0 then [] else pinS (openD key [] box)
theorem openpin_ret (key : UInt64) (box : List UInt8) : Ret Try.prog 26 [aw key, .sl 1 (bytesA box)] (.tup [as_ (openPS key box), ai (openPE key box)]) := by
  have hle := openD_le key [] box
  by_cases h1 : openE key [] box = 0
  case neg =>
    have e : openPE key box = openE key [] box := by rw [openPE, if_pos h1]
    have es : openPS key box = [] := by rw [openPS, if_pos h1]
    refine Ret.of_fn Try.func26 (by kernel_rfl) 44 (by kernel_rfl) (by kernel_rfl) ?_
    skip
    refine AWP.regsK 2 [{  }, { hs := [(2, { av := some (AV.tup [AV.own (1 : Nat) (bytesA (openD key [] box)), ai (openE key [] box)]) })] }] (by kernel_rfl) (s' := AS.mk [(7, ai (openE key [] box)), (6, AV.ref (1014 : Nat)), (16, ai (openE key [] box)), (15, AV.ref (1014 : Nat)), (11, AV.tup [AV.ref (1014 : Nat), ai (openE key [] box)]), (14, AV.tup [AV.ref (1014 : Nat), ai (openE key [] box)]), (13, AV.sl (1 : Nat) (bytesA box)), (12, aw key), (5, ai (0 : Int)), (4, AV.val (Value.string (ByteArray.mk #[]))), (0, aw key), (1, AV.sl (1 : Nat) (bytesA box))] [(1014, Row.mk (1 : Nat) true false (bytesA (openD key [] box)))]) (C := [Ret Try.prog (39 : Nat) [aw key, AV.nil, AV.sl (1 : Nat) (bytesA box)] (AV.tup [AV.own (1 : Nat) (bytesA (openD key [] box)), ai (openE key [] box)]), valR (bytesA (openD key [] box))]) (by kernel_rfl) ⟨(openN_ret (key) (box)), (valR_bytes _), trivial⟩ ?_
    refine AWP.seq (by kernel_rfl) ?_
    refine AWP.regsK 1 [{  }] (by kernel_rfl) (s' := AS.mk [(18, ao (openE key [] box != (0 : Int))), (17, ai (openE key [] box)), (7, ai (openE key [] box)), (6, AV.ref (1014 : Nat)), (16, ai (openE key [] box)), (15, AV.ref (1014 : Nat)), (11, AV.tup [AV.ref (1014 : Nat), ai (openE key [] box)]), (14, AV.tup [AV.ref (1014 : Nat), ai (openE key [] box)]), (13, AV.sl (1 : Nat) (bytesA box)), (12, aw key), (5, ai (0 : Int)), (4, AV.val (Value.string (ByteArray.mk #[]))), (0, aw key), (1, AV.sl (1 : Nat) (bytesA box))] [(1014, Row.mk (1 : Nat) true false (bytesA (openD key [] box)))]) (C := []) (by kernel_rfl) trivial ?_
    refine AWP.wk [.keep [18, 7, 6, 5, 4, 0, 1] [1014]] (s' := AS.mk [(18, ao (openE key [] box != (0 : Int))), (7, ai (openE key [] box)), (6, AV.ref (1014 : Nat)), (5, ai (0 : Int)), (4, AV.val (Value.string (ByteArray.mk #[]))), (0, aw key), (1, AV.sl (1 : Nat) (bytesA box))] [(1014, Row.mk (1 : Nat) true false (bytesA (openD key [] box)))]) (by kernel_rfl) ?_
    refine AWP.condT (x := Operand.tmp (18 : Nat)) (b := openE key [] box != (0 : Int)) (by kernel_rfl) (by kernel_rfl) (by simp_all; done) ?_
    refine AWP.regsK 1 [{  }] (by kernel_rfl) (s' := AS.mk [(5, ai (openE key [] box)), (4, AV.val (Value.string (ByteArray.mk #[]))), (19, ai (openE key [] box)), (18, ao (openE key [] box != (0 : Int))), (7, ai (openE key [] box)), (6, AV.ref (1014 : Nat)), (0, aw key), (1, AV.sl (1 : Nat) (bytesA box))] [(1014, Row.mk (1 : Nat) true false (bytesA (openD key [] box)))]) (C := []) (by kernel_rfl) trivial ?_
    refine AWP.ret (by kernel_rfl) ?_
    skip
    refine then_r ?_
    refine Done.ret_ (C := [Value.string (ByteArray.mk #[]) = Value.string (ByteArray.mk (openPS key box).toArray), Value.int IntKind.i64 (openE key [] box) = Value.int IntKind.i64 (openPE key box)]) (by kernel_rfl) ⟨(by rw [es]), (by rw [e]), trivial⟩
  have e : openPE key box = pinE (openD key [] box) := by rw [openPE, if_neg (by omega)]
  have es : openPS key box = pinS (openD key [] box) := by rw [openPS, if_neg (by omega)]
  by_cases h2 : (openD key [] box).length = 64
  case neg =>
    have e2 : pinE (openD key [] box) = 2 := by rw [pinE, if_pos (.inl h2)]
    have es2 : pinS (openD key [] box) = [] := by rw [pinS, if_neg (by omega)]
    refine Ret.of_fn Try.func26 (by kernel_rfl) 44 (by kernel_rfl) (by kernel_rfl) ?_
    skip
    refine AWP.regsK 2 [{  }, { hs := [(2, { av := some (AV.tup [AV.own (1 : Nat) (bytesA (openD key [] box)), ai (openE key [] box)]) })] }] (by kernel_rfl) (s' := AS.mk [(7, ai (openE key [] box)), (6, AV.ref (1014 : Nat)), (16, ai (openE key [] box)), (15, AV.ref (1014 : Nat)), (11, AV.tup [AV.ref (1014 : Nat), ai (openE key [] box)]), (14, AV.tup [AV.ref (1014 : Nat), ai (openE key [] box)]), (13, AV.sl (1 : Nat) (bytesA box)), (12, aw key), (5, ai (0 : Int)), (4, AV.val (Value.string (ByteArray.mk #[]))), (0, aw key), (1, AV.sl (1 : Nat) (bytesA box))] [(1014, Row.mk (1 : Nat) true false (bytesA (openD key [] box)))]) (C := [Ret Try.prog (39 : Nat) [aw key, AV.nil, AV.sl (1 : Nat) (bytesA box)] (AV.tup [AV.own (1 : Nat) (bytesA (openD key [] box)), ai (openE key [] box)]), valR (bytesA (openD key [] box))]) (by kernel_rfl) ⟨(openN_ret (key) (box)), (valR_bytes _), trivial⟩ ?_
    refine AWP.seq (by kernel_rfl) ?_
    refine AWP.regsK 1 [{  }] (by kernel_rfl) (s' := AS.mk [(18, ao (openE key [] box != (0 : Int))), (17, ai (openE key [] box)), (7, ai (openE key [] box)), (6, AV.ref (1014 : Nat)), (16, ai (openE key [] box)), (15, AV.ref (1014 : Nat)), (11, AV.tup [AV.ref (1014 : Nat), ai (openE key [] box)]), (14, AV.tup [AV.ref (1014 : Nat), ai (openE key [] box)]), (13, AV.sl (1 : Nat) (bytesA box)), (12, aw key), (5, ai (0 : Int)), (4, AV.val (Value.string (ByteArray.mk #[]))), (0, aw key), (1, AV.sl (1 : Nat) (bytesA box))] [(1014, Row.mk (1 : Nat) true false (bytesA (openD key [] box)))]) (C := []) (by kernel_rfl) trivial ?_
    refine AWP.wk [.keep [18, 7, 6, 5, 4, 0, 1] [1014]] (s' := AS.mk [(18, ao (openE key [] box != (0 : Int))), (7, ai (openE key [] box)), (6, AV.ref (1014 : Nat)), (5, ai (0 : Int)), (4, AV.val (Value.string (ByteArray.mk #[]))), (0, aw key), (1, AV.sl (1 : Nat) (bytesA box))] [(1014, Row.mk (1 : Nat) true false (bytesA (openD key [] box)))]) (by kernel_rfl) ?_
    refine AWP.condF (x := Operand.tmp (18 : Nat)) (b := openE key [] box != (0 : Int)) (by kernel_rfl) (by kernel_rfl) (by simp_all; done) ?_
    refine AWP.skip (by kernel_rfl) ?_
    skip
    refine then_n ?_
    refine AWP.regsK 1 [{ hs := [(1, { av := some (ai (Lib.indexByte (openD key [] box) (0 : UInt8))) })] }] (by kernel_rfl) (s' := AS.mk [(8, ai (Lib.indexByte (openD key [] box) (0 : UInt8))), (21, ai (Lib.indexByte (openD key [] box) (0 : UInt8))), (20, AV.ref (1014 : Nat)), (18, ao (openE key [] box != (0 : Int))), (7, ai (openE key [] box)), (6, AV.ref (1014 : Nat)), (5, ai (0 : Int)), (4, AV.val (Value.string (ByteArray.mk #[]))), (0, aw key), (1, AV.sl (1 : Nat) (bytesA box))] [(1014, Row.mk (1 : Nat) true false (bytesA (openD key [] box)))]) (C := [Ret Try.prog (40 : Nat) [AV.sl (1 : Nat) (bytesA (openD key [] box)), AV.val (Value.int IntKind.u8 (0 : Int))] (ai (Lib.indexByte (openD key [] box) (0 : UInt8)))]) (by kernel_rfl) ⟨(index_ret (openD key [] box) ((0 : UInt8))), trivial⟩ ?_
    refine AWP.seq (by kernel_rfl) ?_
    refine AWP.regsK 1 [{ hs := [(1, { k := (openD key [] box).length })] }] (by kernel_rfl) (s' := AS.mk [(28, ao true), (27, AV.val (Value.tuple #[])), (26, AV.val (Value.tuple #[])), (25, ao ((↑(openD key [] box).length : Int) != (64 : Int))), (24, ao ((↑(openD key [] box).length : Int) != (64 : Int))), (23, ai (↑(openD key [] box).length : Int)), (22, AV.ref (1014 : Nat)), (8, ai (Lib.indexByte (openD key [] box) (0 : UInt8))), (21, ai (Lib.indexByte (openD key [] box) (0 : UInt8))), (20, AV.ref (1014 : Nat)), (18, ao (openE key [] box != (0 : Int))), (7, ai (openE key [] box)), (6, AV.ref (1014 : Nat)), (5, ai (0 : Int)), (4, AV.val (Value.string (ByteArray.mk #[]))), (0, aw key), (1, AV.sl (1 : Nat) (bytesA box))] [(1014, Row.mk (1 : Nat) true false (bytesA (openD key [] box)))]) (C := [(bytesA (openD key [] box)).length = (openD key [] box).length, ((↑(openD key [] box).length : Int) != (64 : Int)) = true, ((↑(openD key [] box).length : Int) != (64 : Int)) = true, ((↑(openD key [] box).length : Int) != (64 : Int)) = true]) (by kernel_rfl) ⟨(bytesA_len _), (by simp; omega), (by simp; omega), (by simp; omega), trivial⟩ ?_
    refine AWP.wk [.keep [28, 8, 18, 7, 6, 5, 4, 0, 1] [1014]] (s' := AS.mk [(28, ao true), (8, ai (Lib.indexByte (openD key [] box) (0 : UInt8))), (18, ao (openE key [] box != (0 : Int))), (7, ai (openE key [] box)), (6, AV.ref (1014 : Nat)), (5, ai (0 : Int)), (4, AV.val (Value.string (ByteArray.mk #[]))), (0, aw key), (1, AV.sl (1 : Nat) (bytesA box))] [(1014, Row.mk (1 : Nat) true false (bytesA (openD key [] box)))]) (by kernel_rfl) ?_
    refine AWP.condT (x := Operand.tmp (28 : Nat)) (b := true) (by kernel_rfl) (by kernel_rfl) rfl ?_
    refine AWP.regsK 1 [{  }] (by kernel_rfl) (s' := AS.mk [(5, ai (2 : Int)), (4, AV.val (Value.string (ByteArray.mk #[]))), (28, ao true), (8, ai (Lib.indexByte (openD key [] box) (0 : UInt8))), (18, ao (openE key [] box != (0 : Int))), (7, ai (openE key [] box)), (6, AV.ref (1014 : Nat)), (0, aw key), (1, AV.sl (1 : Nat) (bytesA box))] [(1014, Row.mk (1 : Nat) true false (bytesA (openD key [] box)))]) (C := []) (by kernel_rfl) trivial ?_
    refine AWP.ret (by kernel_rfl) ?_
    skip
    refine then_r ?_
    refine Done.ret_ (C := [Value.string (ByteArray.mk #[]) = Value.string (ByteArray.mk (openPS key box).toArray), Value.int IntKind.i64 (2 : Int) = Value.int IntKind.i64 (openPE key box)]) (by kernel_rfl) ⟨(by rw [es, es2]), (by rw [e, e2]), trivial⟩
  rcases firstZ (openD key [] box) with ⟨z1, z2⟩ | ⟨N, z1, z2, z3, z4⟩
  · have e2 : pinE (openD key [] box) = 2 := by rw [pinE, if_pos (.inr (by omega))]
    have es2 : pinS (openD key [] box) = [] := by rw [pinS, if_neg (by omega)]
    refine Ret.of_fn Try.func26 (by kernel_rfl) 44 (by kernel_rfl) (by kernel_rfl) ?_
    skip
    refine AWP.regsK 2 [{  }, { hs := [(2, { av := some (AV.tup [AV.own (1 : Nat) (bytesA (openD key [] box)), ai (openE key [] box)]) })] }] (by kernel_rfl) (s' := AS.mk [(7, ai (openE key [] box)), (6, AV.ref (1014 : Nat)), (16, ai (openE key [] box)), (15, AV.ref (1014 : Nat)), (11, AV.tup [AV.ref (1014 : Nat), ai (openE key [] box)]), (14, AV.tup [AV.ref (1014 : Nat), ai (openE key [] box)]), (13, AV.sl (1 : Nat) (bytesA box)), (12, aw key), (5, ai (0 : Int)), (4, AV.val (Value.string (ByteArray.mk #[]))), (0, aw key), (1, AV.sl (1 : Nat) (bytesA box))] [(1014, Row.mk (1 : Nat) true false (bytesA (openD key [] box)))]) (C := [Ret Try.prog (39 : Nat) [aw key, AV.nil, AV.sl (1 : Nat) (bytesA box)] (AV.tup [AV.own (1 : Nat) (bytesA (openD key [] box)), ai (openE key [] box)]), valR (bytesA (openD key [] box))]) (by kernel_rfl) ⟨(openN_ret (key) (box)), (valR_bytes _), trivial⟩ ?_
    refine AWP.seq (by kernel_rfl) ?_
    refine AWP.regsK 1 [{  }] (by kernel_rfl) (s' := AS.mk [(18, ao (openE key [] box != (0 : Int))), (17, ai (openE key [] box)), (7, ai (openE key [] box)), (6, AV.ref (1014 : Nat)), (16, ai (openE key [] box)), (15, AV.ref (1014 : Nat)), (11, AV.tup [AV.ref (1014 : Nat), ai (openE key [] box)]), (14, AV.tup [AV.ref (1014 : Nat), ai (openE key [] box)]), (13, AV.sl (1 : Nat) (bytesA box)), (12, aw key), (5, ai (0 : Int)), (4, AV.val (Value.string (ByteArray.mk #[]))), (0, aw key), (1, AV.sl (1 : Nat) (bytesA box))] [(1014, Row.mk (1 : Nat) true false (bytesA (openD key [] box)))]) (C := []) (by kernel_rfl) trivial ?_
    refine AWP.wk [.keep [18, 7, 6, 5, 4, 0, 1] [1014]] (s' := AS.mk [(18, ao (openE key [] box != (0 : Int))), (7, ai (openE key [] box)), (6, AV.ref (1014 : Nat)), (5, ai (0 : Int)), (4, AV.val (Value.string (ByteArray.mk #[]))), (0, aw key), (1, AV.sl (1 : Nat) (bytesA box))] [(1014, Row.mk (1 : Nat) true false (bytesA (openD key [] box)))]) (by kernel_rfl) ?_
    refine AWP.condF (x := Operand.tmp (18 : Nat)) (b := openE key [] box != (0 : Int)) (by kernel_rfl) (by kernel_rfl) (by simp_all; done) ?_
    refine AWP.skip (by kernel_rfl) ?_
    skip
    refine then_n ?_
    refine AWP.regsK 1 [{ hs := [(1, { av := some (ai (Lib.indexByte (openD key [] box) (0 : UInt8))) })] }] (by kernel_rfl) (s' := AS.mk [(8, ai (Lib.indexByte (openD key [] box) (0 : UInt8))), (21, ai (Lib.indexByte (openD key [] box) (0 : UInt8))), (20, AV.ref (1014 : Nat)), (18, ao (openE key [] box != (0 : Int))), (7, ai (openE key [] box)), (6, AV.ref (1014 : Nat)), (5, ai (0 : Int)), (4, AV.val (Value.string (ByteArray.mk #[]))), (0, aw key), (1, AV.sl (1 : Nat) (bytesA box))] [(1014, Row.mk (1 : Nat) true false (bytesA (openD key [] box)))]) (C := [Ret Try.prog (40 : Nat) [AV.sl (1 : Nat) (bytesA (openD key [] box)), AV.val (Value.int IntKind.u8 (0 : Int))] (ai (Lib.indexByte (openD key [] box) (0 : UInt8)))]) (by kernel_rfl) ⟨(index_ret (openD key [] box) ((0 : UInt8))), trivial⟩ ?_
    refine AWP.seq (by kernel_rfl) ?_
    refine AWP.regsK 1 [{ hs := [(1, { k := (openD key [] box).length }), (4, { g := false }), (5, { g := false }), (6, { b := false })] }] (by kernel_rfl) (s' := AS.mk [(28, ao (decide (Lib.indexByte (openD key [] box) (0 : UInt8) < (0 : Int)))), (27, ao (decide (Lib.indexByte (openD key [] box) (0 : UInt8) < (0 : Int)))), (26, ai (Lib.indexByte (openD key [] box) (0 : UInt8))), (25, ao ((↑(openD key [] box).length : Int) != (64 : Int))), (24, ao ((↑(openD key [] box).length : Int) != (64 : Int))), (23, ai (↑(openD key [] box).length : Int)), (22, AV.ref (1014 : Nat)), (8, ai (Lib.indexByte (openD key [] box) (0 : UInt8))), (21, ai (Lib.indexByte (openD key [] box) (0 : UInt8))), (20, AV.ref (1014 : Nat)), (18, ao (openE key [] box != (0 : Int))), (7, ai (openE key [] box)), (6, AV.ref (1014 : Nat)), (5, ai (0 : Int)), (4, AV.val (Value.string (ByteArray.mk #[]))), (0, aw key), (1, AV.sl (1 : Nat) (bytesA box))] [(1014, Row.mk (1 : Nat) true false (bytesA (openD key [] box)))]) (C := [(bytesA (openD key [] box)).length = (openD key [] box).length, ((↑(openD key [] box).length : Int) != (64 : Int)) = false, ((↑(openD key [] box).length : Int) != (64 : Int)) = false, ((↑(openD key [] box).length : Int) != (64 : Int)) = false]) (by kernel_rfl) ⟨(bytesA_len _), (by simp_all; done), (by simp_all; done), (by simp_all; done), trivial⟩ ?_
    refine AWP.wk [.keep [28, 8, 18, 7, 6, 5, 4, 0, 1] [1014]] (s' := AS.mk [(28, ao (decide (Lib.indexByte (openD key [] box) (0 : UInt8) < (0 : Int)))), (8, ai (Lib.indexByte (openD key [] box) (0 : UInt8))), (18, ao (openE key [] box != (0 : Int))), (7, ai (openE key [] box)), (6, AV.ref (1014 : Nat)), (5, ai (0 : Int)), (4, AV.val (Value.string (ByteArray.mk #[]))), (0, aw key), (1, AV.sl (1 : Nat) (bytesA box))] [(1014, Row.mk (1 : Nat) true false (bytesA (openD key [] box)))]) (by kernel_rfl) ?_
    refine AWP.condT (x := Operand.tmp (28 : Nat)) (b := decide (Lib.indexByte (openD key [] box) (0 : UInt8) < (0 : Int))) (by kernel_rfl) (by kernel_rfl) (decide_eq_true (by omega)) ?_
    refine AWP.regsK 1 [{  }] (by kernel_rfl) (s' := AS.mk [(5, ai (2 : Int)), (4, AV.val (Value.string (ByteArray.mk #[]))), (28, ao (decide (Lib.indexByte (openD key [] box) (0 : UInt8) < (0 : Int)))), (8, ai (Lib.indexByte (openD key [] box) (0 : UInt8))), (18, ao (openE key [] box != (0 : Int))), (7, ai (openE key [] box)), (6, AV.ref (1014 : Nat)), (0, aw key), (1, AV.sl (1 : Nat) (bytesA box))] [(1014, Row.mk (1 : Nat) true false (bytesA (openD key [] box)))]) (C := []) (by kernel_rfl) trivial ?_
    refine AWP.ret (by kernel_rfl) ?_
    skip
    refine then_r ?_
    refine Done.ret_ (C := [Value.string (ByteArray.mk #[]) = Value.string (ByteArray.mk (openPS key box).toArray), Value.int IntKind.i64 (2 : Int) = Value.int IntKind.i64 (openPE key box)]) (by kernel_rfl) ⟨(by rw [es, es2]), (by rw [e, e2]), trivial⟩
  have hN : (Lib.indexByte (openD key [] box) 0).toNat = N := by omega
  have hbl : (bytesA (openD key [] box)).length = 64 := by rw [bytesA_len]; exact h2
  have hidx := index_ret (openD key [] box) 0
  rw [z1] at hidx
  refine Ret.of_fn Try.func26 (by kernel_rfl) 44 (by kernel_rfl) (by kernel_rfl) ?_
  skip
  refine AWP.regsK 2 [{  }, { hs := [(2, { av := some (AV.tup [AV.own (1 : Nat) (bytesA (openD key [] box)), ai (openE key [] box)]) })] }] (by kernel_rfl) (s' := AS.mk [(7, ai (openE key [] box)), (6, AV.ref (1014 : Nat)), (16, ai (openE key [] box)), (15, AV.ref (1014 : Nat)), (11, AV.tup [AV.ref (1014 : Nat), ai (openE key [] box)]), (14, AV.tup [AV.ref (1014 : Nat), ai (openE key [] box)]), (13, AV.sl (1 : Nat) (bytesA box)), (12, aw key), (5, ai (0 : Int)), (4, AV.val (Value.string (ByteArray.mk #[]))), (0, aw key), (1, AV.sl (1 : Nat) (bytesA box))] [(1014, Row.mk (1 : Nat) true false (bytesA (openD key [] box)))]) (C := [Ret Try.prog (39 : Nat) [aw key, AV.nil, AV.sl (1 : Nat) (bytesA box)] (AV.tup [AV.own (1 : Nat) (bytesA (openD key [] box)), ai (openE key [] box)]), valR (bytesA (openD key [] box))]) (by kernel_rfl) ⟨(openN_ret (key) (box)), (valR_bytes _), trivial⟩ ?_
  refine AWP.seq (by kernel_rfl) ?_
  refine AWP.regsK 1 [{  }] (by kernel_rfl) (s' := AS.mk [(18, ao (openE key [] box != (0 : Int))), (17, ai (openE key [] box)), (7, ai (openE key [] box)), (6, AV.ref (1014 : Nat)), (16, ai (openE key [] box)), (15, AV.ref (1014 : Nat)), (11, AV.tup [AV.ref (1014 : Nat), ai (openE key [] box)]), (14, AV.tup [AV.ref (1014 : Nat), ai (openE key [] box)]), (13, AV.sl (1 : Nat) (bytesA box)), (12, aw key), (5, ai (0 : Int)), (4, AV.val (Value.string (ByteArray.mk #[]))), (0, aw key), (1, AV.sl (1 : Nat) (bytesA box))] [(1014, Row.mk (1 : Nat) true false (bytesA (openD key [] box)))]) (C := []) (by kernel_rfl) trivial ?_
  refine AWP.wk [.keep [18, 7, 6, 5, 4, 0, 1] [1014]] (s' := AS.mk [(18, ao (openE key [] box != (0 : Int))), (7, ai (openE key [] box)), (6, AV.ref (1014 : Nat)), (5, ai (0 : Int)), (4, AV.val (Value.string (ByteArray.mk #[]))), (0, aw key), (1, AV.sl (1 : Nat) (bytesA box))] [(1014, Row.mk (1 : Nat) true false (bytesA (openD key [] box)))]) (by kernel_rfl) ?_
  refine AWP.condF (x := Operand.tmp (18 : Nat)) (b := openE key [] box != (0 : Int)) (by kernel_rfl) (by kernel_rfl) (by simp_all; done) ?_
  refine AWP.skip (by kernel_rfl) ?_
  skip
  refine then_n ?_
  refine AWP.regsK 1 [{ hs := [(1, { av := some (ai (↑N : Int)) })] }] (by kernel_rfl) (s' := AS.mk [(8, ai (↑N : Int)), (21, ai (↑N : Int)), (20, AV.ref (1014 : Nat)), (18, ao (openE key [] box != (0 : Int))), (7, ai (openE key [] box)), (6, AV.ref (1014 : Nat)), (5, ai (0 : Int)), (4, AV.val (Value.string (ByteArray.mk #[]))), (0, aw key), (1, AV.sl (1 : Nat) (bytesA box))] [(1014, Row.mk (1 : Nat) true false (bytesA (openD key [] box)))]) (C := [Ret Try.prog (40 : Nat) [AV.sl (1 : Nat) (bytesA (openD key [] box)), AV.val (Value.int IntKind.u8 (0 : Int))] (ai (↑N : Int))]) (by kernel_rfl) ⟨hidx, trivial⟩ ?_
  refine AWP.seq (by kernel_rfl) ?_
  refine AWP.regsK 1 [{ hs := [(1, { k := (openD key [] box).length }), (4, { g := false }), (5, { g := false }), (6, { b := false })] }] (by kernel_rfl) (s' := AS.mk [(28, ao (decide ((↑N : Int) < (0 : Int)))), (27, ao (decide ((↑N : Int) < (0 : Int)))), (26, ai (↑N : Int)), (25, ao ((↑(openD key [] box).length : Int) != (64 : Int))), (24, ao ((↑(openD key [] box).length : Int) != (64 : Int))), (23, ai (↑(openD key [] box).length : Int)), (22, AV.ref (1014 : Nat)), (8, ai (↑N : Int)), (21, ai (↑N : Int)), (20, AV.ref (1014 : Nat)), (18, ao (openE key [] box != (0 : Int))), (7, ai (openE key [] box)), (6, AV.ref (1014 : Nat)), (5, ai (0 : Int)), (4, AV.val (Value.string (ByteArray.mk #[]))), (0, aw key), (1, AV.sl (1 : Nat) (bytesA box))] [(1014, Row.mk (1 : Nat) true false (bytesA (openD key [] box)))]) (C := [(bytesA (openD key [] box)).length = (openD key [] box).length, ((↑(openD key [] box).length : Int) != (64 : Int)) = false, ((↑(openD key [] box).length : Int) != (64 : Int)) = false, ((↑(openD key [] box).length : Int) != (64 : Int)) = false]) (by kernel_rfl) ⟨(by omega), (by simp_all; done), (by simp_all; done), (by simp_all; done), trivial⟩ ?_
  refine AWP.wk [.keep [28, 8, 18, 7, 6, 5, 4, 0, 1] [1014]] (s' := AS.mk [(28, ao (decide ((↑N : Int) < (0 : Int)))), (8, ai (↑N : Int)), (18, ao (openE key [] box != (0 : Int))), (7, ai (openE key [] box)), (6, AV.ref (1014 : Nat)), (5, ai (0 : Int)), (4, AV.val (Value.string (ByteArray.mk #[]))), (0, aw key), (1, AV.sl (1 : Nat) (bytesA box))] [(1014, Row.mk (1 : Nat) true false (bytesA (openD key [] box)))]) (by kernel_rfl) ?_
  refine AWP.condF (x := Operand.tmp (28 : Nat)) (b := decide ((↑N : Int) < (0 : Int))) (by kernel_rfl) (by kernel_rfl) (decide_eq_false (by omega)) ?_
  refine AWP.skip (by kernel_rfl) ?_
  skip
  refine then_n ?_
  refine AWP.seq (by kernel_rfl) ?_
  refine AWP.regsK 1 [{ hs := [(2, { k := N }), (3, { k := (bytesA (openD key [] box)).length - N })] }] (by kernel_rfl) (s' := AS.mk [(33, ai (0 : Int)), (32, ai (↑((bytesA (openD key [] box)).length - N) : Int)), (31, AV.win (1014 : Nat) N ((bytesA (openD key [] box)).length - N)), (30, ai (↑N : Int)), (29, AV.ref (1014 : Nat)), (28, ao (decide ((↑N : Int) < (0 : Int)))), (8, ai (↑N : Int)), (18, ao (openE key [] box != (0 : Int))), (7, ai (openE key [] box)), (6, AV.ref (1014 : Nat)), (5, ai (0 : Int)), (4, AV.val (Value.string (ByteArray.mk #[]))), (0, aw key), (1, AV.sl (1 : Nat) (bytesA box))] [(1014, Row.mk (1 : Nat) true false (bytesA (openD key [] box)))]) (C := [(↑N : Int) = (↑N : Int), N ≤ (bytesA (openD key [] box)).length, (bytesA (openD key [] box)).length - N = (bytesA (openD key [] box)).length - N]) (by kernel_rfl) ⟨rfl, (by omega), rfl, trivial⟩ ?_
  refine AWP.block (id := 0) (by kernel_rfl) ?_
  refine AWP.loop (fun (i : Nat) => (⟨[(32, ai (↑((bytesA (openD key [] box)).length - N) : Int)), (31, AV.win (1014 : Nat) N ((bytesA (openD key [] box)).length - N)), (28, ao (decide ((↑N : Int) < (0 : Int)))), (8, ai (↑N : Int)), (18, ao (openE key [] box != (0 : Int))), (7, ai (openE key [] box)), (6, AV.ref (1014 : Nat)), (0, aw key), (1, AV.sl (1 : Nat) (bytesA box)), (33, ai i)], [(1014, ⟨1, true, false, bytesA (openD key [] box)⟩)]⟩ : AS)) (fun i => (i ≤ 64 - N ∧ ∀ t, t < i → (openD key [] box).getD (t + N) 0 = 0)) (fun i => (64 - N - i)) (by kernel_rfl) (0) ?_ (Weaks.of [.keep [32, 31, 28, 8, 18, 7, 6, 0, 1, 33] [1014]] (s1 := AS.mk [(32, ai (↑((bytesA (openD key [] box)).length - N) : Int)), (31, AV.win (1014 : Nat) N ((bytesA (openD key [] box)).length - N)), (28, ao (decide ((↑N : Int) < (0 : Int)))), (8, ai (↑N : Int)), (18, ao (openE key [] box != (0 : Int))), (7, ai (openE key [] box)), (6, AV.ref (1014 : Nat)), (0, aw key), (1, AV.sl (1 : Nat) (bytesA box)), (33, ai (0 : Int))] [(1014, Row.mk (1 : Nat) true false (bytesA (openD key [] box)))]) (by kernel_rfl) rfl) ?_
  · exact ⟨by omega, by simp⟩
  rintro i ⟨hi, hz⟩
  skip
  refine AWP.regsK 1 [{  }] (by kernel_rfl) (s' := AS.mk [(34, ao (decide ((↑i : Int) < (↑((bytesA (openD key [] box)).length - N) : Int)))), (32, ai (↑((bytesA (openD key [] box)).length - N) : Int)), (31, AV.win (1014 : Nat) N ((bytesA (openD key [] box)).length - N)), (28, ao (decide ((↑N : Int) < (0 : Int)))), (8, ai (↑N : Int)), (18, ao (openE key [] box != (0 : Int))), (7, ai (openE key [] box)), (6, AV.ref (1014 : Nat)), (0, aw key), (1, AV.sl (1 : Nat) (bytesA box)), (33, ai (↑i : Int))] [(1014, Row.mk (1 : Nat) true false (bytesA (openD key [] box)))]) (C := []) (by kernel_rfl) trivial ?_
  refine AWP.seq (by kernel_rfl) ?_
  refine AWP.condD (x := Operand.tmp (34 : Nat)) (p := (↑i : Int) < (↑((bytesA (openD key [] box)).length - N) : Int)) (by kernel_rfl) (by kernel_rfl) (fun h5 => ?_) (fun h5 => ?_)
  · by_cases h6 : (openD key [] box).getD (i + N) 0 = 0
    · skip
      refine AWP.skip (by kernel_rfl) ?_
      skip
      refine then_n ?_
      refine AWP.seq (by kernel_rfl) ?_
      refine AWP.block (id := 1) (by kernel_rfl) ?_
      refine AWP.regsK 2 [{ hs := [(0, { k := i }), (1, { av := some (ab ((openD key [] box).getD (i + N) (0 : UInt8))) })] }, { hs := [(1, { av := some (ao ((openD key [] box).getD (i + N) (0 : UInt8) != (0 : UInt8))) })] }] (by kernel_rfl) (s' := AS.mk [(38, ao ((openD key [] box).getD (i + N) (0 : UInt8) != (0 : UInt8))), (37, ab ((openD key [] box).getD (i + N) (0 : UInt8))), (10, ab ((openD key [] box).getD (i + N) (0 : UInt8))), (36, ab ((openD key [] box).getD (i + N) (0 : UInt8))), (35, AV.addr (1014 : Nat) (i + N)), (34, ao (decide ((↑i : Int) < (↑((bytesA (openD key [] box)).length - N) : Int)))), (32, ai (↑((bytesA (openD key [] box)).length - N) : Int)), (31, AV.win (1014 : Nat) N ((bytesA (openD key [] box)).length - N)), (28, ao (decide ((↑N : Int) < (0 : Int)))), (8, ai (↑N : Int)), (18, ao (openE key [] box != (0 : Int))), (7, ai (openE key [] box)), (6, AV.ref (1014 : Nat)), (0, aw key), (1, AV.sl (1 : Nat) (bytesA box)), (33, ai (↑i : Int))] [(1014, Row.mk (1 : Nat) true false (bytesA (openD key [] box)))]) (C := [(↑i : Int) = (↑i : Int), i < (bytesA (openD key [] box)).length - N, (bytesA (openD key [] box))[i + N]? = some (ab ((openD key [] box).getD (i + N) (0 : UInt8))), ao (bv ((openD key [] box).getD (i + N) (0 : UInt8)) != (0 : Int)) = ao ((openD key [] box).getD (i + N) (0 : UInt8) != (0 : UInt8))]) (by kernel_rfl) ⟨rfl, (by omega), (bytesA_at (by omega)), (avb_ne ((openD key [] box).getD (i + N) (0 : UInt8)) ((0 : UInt8))), trivial⟩ ?_
      refine AWP.condF (x := Operand.tmp (38 : Nat)) (b := (openD key [] box).getD (i + N) (0 : UInt8) != (0 : UInt8)) (by kernel_rfl) (by kernel_rfl) (by simp_all; done) ?_
      refine AWP.skip (by kernel_rfl) ?_
      skip
      refine inb_n ?_
      refine then_n ?_
      refine AWP.reg { hs := [(0, { av := some (ai ((↑i : Int) + (1 : Int))) })] } (s' := AS.mk [(33, ai ((↑i : Int) + (1 : Int))), (39, ai ((↑i : Int) + (1 : Int))), (38, ao ((openD key [] box).getD (i + N) (0 : UInt8) != (0 : UInt8))), (37, ab ((openD key [] box).getD (i + N) (0 : UInt8))), (10, ab ((openD key [] box).getD (i + N) (0 : UInt8))), (36, ab ((openD key [] box).getD (i + N) (0 : UInt8))), (35, AV.addr (1014 : Nat) (i + N)), (34, ao (decide ((↑i : Int) < (↑((bytesA (openD key [] box)).length - N) : Int)))), (32, ai (↑((bytesA (openD key [] box)).length - N) : Int)), (31, AV.win (1014 : Nat) N ((bytesA (openD key [] box)).length - N)), (28, ao (decide ((↑N : Int) < (0 : Int)))), (8, ai (↑N : Int)), (18, ao (openE key [] box != (0 : Int))), (7, ai (openE key [] box)), (6, AV.ref (1014 : Nat)), (0, aw key), (1, AV.sl (1 : Nat) (bytesA box))] [(1014, Row.mk (1 : Nat) true false (bytesA (openD key [] box)))]) (C := [ai (IntKind.i64.wrap ((↑i : Int) + (1 : Int))) = ai ((↑i : Int) + (1 : Int))]) (by kernel_rfl) ⟨(av_i64 (by omega) (by omega)), trivial⟩ ?_
      refine round_n (i + 1) ⟨by omega, fun t ht => by by_cases q : t = i; (subst q; exact h6); exact hz t (by omega)⟩ (by omega) (Weaks.of [.keep [32, 31, 28, 8, 18, 7, 6, 0, 1, 33] [1014]] (s1 := AS.mk [(32, ai (↑((bytesA (openD key [] box)).length - N) : Int)), (31, AV.win (1014 : Nat) N ((bytesA (openD key [] box)).length - N)), (28, ao (decide ((↑N : Int) < (0 : Int)))), (8, ai (↑N : Int)), (18, ao (openE key [] box != (0 : Int))), (7, ai (openE key [] box)), (6, AV.ref (1014 : Nat)), (0, aw key), (1, AV.sl (1 : Nat) (bytesA box)), (33, ai ((↑i : Int) + (1 : Int)))] [(1014, Row.mk (1 : Nat) true false (bytesA (openD key [] box)))]) (by kernel_rfl) rfl)
    · have e2 : pinE (openD key [] box) = 2 := by
        rw [pinE, if_neg (by rintro (h | h); exact h h2; omega), hN, if_neg (fun h => h6 (h i (by omega)))]
      have es2 : pinS (openD key [] box) = [] := by rw [pinS, if_neg (by omega)]
      skip
      refine AWP.skip (by kernel_rfl) ?_
      skip
      refine then_n ?_
      refine AWP.seq (by kernel_rfl) ?_
      refine AWP.block (id := 1) (by kernel_rfl) ?_
      refine AWP.regsK 2 [{ hs := [(0, { k := i }), (1, { av := some (ab ((openD key [] box).getD (i + N) (0 : UInt8))) })] }, { hs := [(1, { av := some (ao ((openD key [] box).getD (i + N) (0 : UInt8) != (0 : UInt8))) })] }] (by kernel_rfl) (s' := AS.mk [(38, ao ((openD key [] box).getD (i + N) (0 : UInt8) != (0 : UInt8))), (37, ab ((openD key [] box).getD (i + N) (0 : UInt8))), (10, ab ((openD key [] box).getD (i + N) (0 : UInt8))), (36, ab ((openD key [] box).getD (i + N) (0 : UInt8))), (35, AV.addr (1014 : Nat) (i + N)), (34, ao (decide ((↑i : Int) < (↑((bytesA (openD key [] box)).length - N) : Int)))), (32, ai (↑((bytesA (openD key [] box)).length - N) : Int)), (31, AV.win (1014 : Nat) N ((bytesA (openD key [] box)).length - N)), (28, ao (decide ((↑N : Int) < (0 : Int)))), (8, ai (↑N : Int)), (18, ao (openE key [] box != (0 : Int))), (7, ai (openE key [] box)), (6, AV.ref (1014 : Nat)), (0, aw key), (1, AV.sl (1 : Nat) (bytesA box)), (33, ai (↑i : Int))] [(1014, Row.mk (1 : Nat) true false (bytesA (openD key [] box)))]) (C := [(↑i : Int) = (↑i : Int), i < (bytesA (openD key [] box)).length - N, (bytesA (openD key [] box))[i + N]? = some (ab ((openD key [] box).getD (i + N) (0 : UInt8))), ao (bv ((openD key [] box).getD (i + N) (0 : UInt8)) != (0 : Int)) = ao ((openD key [] box).getD (i + N) (0 : UInt8) != (0 : UInt8))]) (by kernel_rfl) ⟨rfl, (by omega), (bytesA_at (by omega)), (avb_ne ((openD key [] box).getD (i + N) (0 : UInt8)) ((0 : UInt8))), trivial⟩ ?_
      refine AWP.condT (x := Operand.tmp (38 : Nat)) (b := (openD key [] box).getD (i + N) (0 : UInt8) != (0 : UInt8)) (by kernel_rfl) (by kernel_rfl) (by simp_all; done) ?_
      refine AWP.regsK 1 [{  }] (by kernel_rfl) (s' := AS.mk [(5, ai (2 : Int)), (4, AV.val (Value.string (ByteArray.mk #[]))), (38, ao ((openD key [] box).getD (i + N) (0 : UInt8) != (0 : UInt8))), (37, ab ((openD key [] box).getD (i + N) (0 : UInt8))), (10, ab ((openD key [] box).getD (i + N) (0 : UInt8))), (36, ab ((openD key [] box).getD (i + N) (0 : UInt8))), (35, AV.addr (1014 : Nat) (i + N)), (34, ao (decide ((↑i : Int) < (↑((bytesA (openD key [] box)).length - N) : Int)))), (32, ai (↑((bytesA (openD key [] box)).length - N) : Int)), (31, AV.win (1014 : Nat) N ((bytesA (openD key [] box)).length - N)), (28, ao (decide ((↑N : Int) < (0 : Int)))), (8, ai (↑N : Int)), (18, ao (openE key [] box != (0 : Int))), (7, ai (openE key [] box)), (6, AV.ref (1014 : Nat)), (0, aw key), (1, AV.sl (1 : Nat) (bytesA box)), (33, ai (↑i : Int))] [(1014, Row.mk (1 : Nat) true false (bytesA (openD key [] box)))]) (C := []) (by kernel_rfl) trivial ?_
      refine AWP.ret (by kernel_rfl) ?_
      skip
      refine inb_r ?_
      refine then_r ?_
      refine round_r ?_
      refine inb_r ?_
      refine then_r ?_
      refine Done.ret_ (C := [Value.string (ByteArray.mk #[]) = Value.string (ByteArray.mk (openPS key box).toArray), Value.int IntKind.i64 (2 : Int) = Value.int IntKind.i64 (openPE key box)]) (by kernel_rfl) ⟨(by rw [es, es2]), (by rw [e, e2]), trivial⟩
  · have e2 : pinE (openD key [] box) = 0 := by
      rw [pinE, if_neg (by rintro (h | h); exact h h2; omega), hN, if_pos (fun t ht => hz t (by omega))]
    have es2 : pinS (openD key [] box) = (openD key [] box).take N := by rw [pinS, if_pos e2, hN]
    skip
    refine AWP.exit (id := 0) (by kernel_rfl) ?_
    skip
    refine then_e ?_
    refine round_e ?_
    refine inb_e ?_
    refine then_n ?_
    refine AWP.regsK 1 [{ hs := [(2, { m := N }), (3, { av := some (AV.val (Value.string (ByteArray.mk (List.take N (openD key [] box)).toArray))) })] }] (by kernel_rfl) (s' := AS.mk [(5, ai (0 : Int)), (4, AV.val (Value.string (ByteArray.mk (List.take N (openD key [] box)).toArray))), (43, AV.val (Value.string (ByteArray.mk (List.take N (openD key [] box)).toArray))), (42, AV.pre (1014 : Nat) N), (41, ai (↑N : Int)), (40, AV.ref (1014 : Nat)), (34, ao (decide ((↑i : Int) < (↑((bytesA (openD key [] box)).length - N) : Int)))), (32, ai (↑((bytesA (openD key [] box)).length - N) : Int)), (31, AV.win (1014 : Nat) N ((bytesA (openD key [] box)).length - N)), (28, ao (decide ((↑N : Int) < (0 : Int)))), (8, ai (↑N : Int)), (18, ao (openE key [] box != (0 : Int))), (7, ai (openE key [] box)), (6, AV.ref (1014 : Nat)), (0, aw key), (1, AV.sl (1 : Nat) (bytesA box)), (33, ai (↑i : Int))] [(1014, Row.mk (1 : Nat) true false (bytesA (openD key [] box)))]) (C := [(↑N : Int) = (↑N : Int), N ≤ (bytesA (openD key [] box)).length, List.take N (bytesA (openD key [] box)) = bytesA (List.take N (openD key [] box)).toArray.toList]) (by kernel_rfl) ⟨rfl, (by omega), (bytesA_take _ _), trivial⟩ ?_
    refine AWP.wk [.keep [5, 4, 34, 32, 31, 28, 8, 18, 7, 6, 0, 1, 33] [1014]] (s' := AS.mk [(5, ai (0 : Int)), (4, AV.val (Value.string (ByteArray.mk (List.take N (openD key [] box)).toArray))), (34, ao (decide ((↑i : Int) < (↑((bytesA (openD key [] box)).length - N) : Int)))), (32, ai (↑((bytesA (openD key [] box)).length - N) : Int)), (31, AV.win (1014 : Nat) N ((bytesA (openD key [] box)).length - N)), (28, ao (decide ((↑N : Int) < (0 : Int)))), (8, ai (↑N : Int)), (18, ao (openE key [] box != (0 : Int))), (7, ai (openE key [] box)), (6, AV.ref (1014 : Nat)), (0, aw key), (1, AV.sl (1 : Nat) (bytesA box)), (33, ai (↑i : Int))] [(1014, Row.mk (1 : Nat) true false (bytesA (openD key [] box)))]) (by kernel_rfl) ?_
    refine AWP.ret (by kernel_rfl) ?_
    refine Done.ret_ (C := [Value.string (ByteArray.mk (List.take N (openD key [] box)).toArray) = Value.string (ByteArray.mk (openPS key box).toArray), Value.int IntKind.i64 (0 : Int) = Value.int IntKind.i64 (openPE key box)]) (by kernel_rfl) ⟨(by rw [es, es2]), (by rw [e, e2]), trivial⟩
end Go.Proofs.Ythfipmkhadkldaa
