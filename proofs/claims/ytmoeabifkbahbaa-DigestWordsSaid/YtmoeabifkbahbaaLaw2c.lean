/-
  The law DigestWords returns true at every input.
-/
import Derived.Test.YtmoeabifkbahbaaLaw2b
import Derived.Test.YtmoeabifkbahbaaRegion


import Derived.Deep.DeepCutAuto
namespace Go.Proofs.Ytmoeabifkbahbaa
open Go.RowKit


set_option maxRecDepth 20000 in
set_option maxHeartbeats 3200000 in
theorem digestWords_law (a : Option Addr) (n c : Nat) (l : List UInt64) (a' : Option Addr) (n' c' : Nat) (m : List UInt64) (hl : l.length = n) (hm : m.length = n') (w : World) (h : SliceAt w (.slice a n c) (wvs l)) (h' : SliceAt w (.slice a' n' c') (wvs m)) :
    Calls Try.prog 4 #[.slice a n c, .slice a' n' c'] w fun e w' => e = .returned (.bool true) ∧ Below w.heap.size w w' := by
  have HL := Lib.hid hl; clear hl
  have HM := Lib.hid hm; clear hm
  have hb : n ≤ maxLen := by have := h.len; rw [wvs_len, HL.out] at this; exact this
  have hb' : n' ≤ maxLen := by have := h'.len; rw [wvs_len, HM.out] at this; exact this
  unfold maxLen at hb hb'
  by_cases hn : 100 < n
  · go_enter Try.func4, Try.ntmps4
    go_wp2_with (go_at_call 14; refine (awake2_any _).mono ?_; rintro e w1 ⟨rfl, hw1⟩)
    go_ret
    exact ⟨rfl, hw1⟩
  · by_cases hn' : 100 < n'
    · go_enter Try.func4, Try.ntmps4
      go_wp2_with (go_at_call 14; refine (awake2_any _).mono ?_; rintro e w1 ⟨rfl, hw1⟩)
      go_ret
      exact ⟨rfl, hw1⟩
    · have tok : True := trivial
      go_enter Try.func4, Try.ntmps4
      go_upto_region 4 with (first
        | (at_builtin; have _t := tok; refine wpList_app _ rfl (.const (.slice none 0 0)) (.tmp 15) 27 rfl E64 w.heap.size _ [] rfl (Own.nil _ _) _ _ rfl h (wvs_one _) (by rw [wvs_len, HL.out]; simp; omega) (Nat.le_refl _) ?_; intro v1 w1 ho1 hg1 _; have hw1 : Below w.heap.size w w1 := (Below.refl _ _).thenApp (Own.nil _ _) hg1; clear hg1 tok)
        | (at_builtin; refine wpList_app _ rfl (.tmp 16) (.tmp 17) 27 rfl E64 w.heap.size v1 _ rfl ho1 _ _ rfl (h'.below hw1) (wvs_one _) (by rw [List.length_append, wvs_len, wvs_len, HL.out, HM.out]; simp; omega) hw1.size ?_; intro v2 w2 ho2 hg2 _; have hw2 : Below w.heap.size w w2 := hw1.thenApp ho1 hg2; clear hg2))
      have hB : Own w2 w.heap.size v2 (wvs (l ++ m)) := by rw [wvs_app]; exact ho2
      have hD : Below w.heap.size w w2 := hw2
      have hlm : (l ++ m).length ≤ 1000000 := by rw [List.length_append, HL.out, HM.out]; omega
      have HW : Hid (words (l ++ m) = words l ++ words m) := words_app l m
      have hadd : ∀ W : World, (Op.stringOp .add ⟨(words l).toArray⟩ ⟨(words m).toArray⟩).run Try.prog W = .ok (.string ⟨(words l ++ words m).toArray⟩) W := fun W => by
        rw [run_string_add_lists W (words l) (words m) (by rw [words_len, HL.out]; omega) (by rw [words_len, HM.out]; omega)]
      clear ho1 hw1 ho2 hw2 _t
      refine wp_region_tab 42 [([], none), ([(0, 19)], none), ([(1, 20)], none), ([], none), ([(3, 22)], none), ([(4, 23)], none), ([(2, 21), (5, 24)], none), ([(6, 25)], none), ([(7, 26)], some (26, true)), ([(8, 27), (7, 26)], some (26, true)), ([(9, 28), (7, 26)], some (26, true)), ([(7, 26)], some (26, true)), ([(11, 30), (7, 26)], some (26, true)), ([(12, 31), (7, 26)], some (26, true)), ([(10, 29), (13, 32), (7, 26)], some (26, true)), ([(7, 26)], some (26, true)), ([(15, 34), (7, 26)], some (26, true)), ([(16, 35), (7, 26)], some (26, true)), ([(14, 33), (17, 36), (7, 26)], some (26, true)), ([(7, 26), (18, 37)], none), ([(19, 38)], none), ([(20, 39)], some (39, true)), ([(20, 39), (21, 40)], none), ([(22, 41)], none)] [0, 1, 5] (by kernel_rfl) rfl (by kernel_rfl) (by kernel_rfl) [(0, .slice a n c), (1, .slice a' n' c'), (5, v2)] rfl (by simp [Act.eval]) [fun v _ => v = v2, fun v w => SliceAt w v (bvs (words (l ++ m))), fun v _ => v = .string ⟨(words (l ++ m)).toArray⟩, fun v _ => v = v2, fun v w => SliceAt w v (bvs (words (l ++ m))), fun v _ => v = .string ⟨(words (l ++ m)).toArray⟩, fun v _ => v = .bool true, fun v _ => v = .bool true, fun v _ => v = .slice a n c, fun v w => SliceAt w v (bvs (words l)), fun v _ => v = .string ⟨(words l).toArray⟩, fun v _ => v = .slice a' n' c', fun v w => SliceAt w v (bvs (words m)), fun v _ => v = .string ⟨(words m).toArray⟩, fun v _ => v = .string ⟨(words l ++ words m).toArray⟩, fun v _ => v = v2, fun v w => SliceAt w v (bvs (words (l ++ m))), fun v _ => v = .string ⟨(words (l ++ m)).toArray⟩, fun v _ => v = .bool true, fun v _ => v = .bool true, fun v _ => v = .bool true, fun v _ => v = .bool true, fun v _ => v = .bool true, fun v _ => v = .bool true] ?_ ?_ ?_
      · intro f hf v w0 w1 hb hv0
        simp only [List.mem_cons, List.not_mem_nil, or_false] at hf
        rcases hf with rfl | rfl | rfl | rfl | rfl | rfl | rfl | rfl | rfl | rfl | rfl | rfl | rfl | rfl | rfl | rfl | rfl | rfl | rfl | rfl | rfl | rfl | rfl | rfl
        all_goals first | exact hv0 | exact SliceAt.below hv0 hb | exact mono_of hv0 hb
      · refine ⟨?_, ?_, ?_, ?_, ?_, ?_, ?_, ?_, ?_, ?_, ?_, ?_, ?_, ?_, ?_, ?_, ?_, ?_, ?_, ?_, ?_, ?_, ?_, ?_, trivial⟩
        · intro b W hW hd hv
          have e5 : b.eval (.tmp 5) = v2 := hv (5, v2) (by simp)
          exact .inl ⟨(fun _ h => by cases h), does_move (.tmp 5) rfl e5⟩
        · intro b W hW hd hv
          have e19 : b.eval (.tmp 19) = v2 := hd (0, 19) (by simp)
          refine .inl ⟨(fun _ h => by cases h), does_call 17 (fun _ _ => by kernel_rfl) #[.tmp 19] #[27] rfl #[v2] (by simp [e19]) ?_⟩
          refine (words_at _ (l ++ m) _ (hB.reads.below hW) hlm).mono ?_
          rintro e w1 ⟨v3, rfl, ho3, hw3⟩
          exact ⟨_, rfl, hw3, ho3.reads⟩
        · intro b W hW hd hv
          have e20 : SliceAt W (b.eval (.tmp 20)) (bvs (words (l ++ m))) := hd (1, 20) (by simp)
          have hs := str_of e20
          refine .inl ⟨(fun _ h => by cases h), does_run (.string ⟨(words (l ++ m)).toArray⟩) ?_ rfl⟩
          clear hd hv hW
          simp only [execOp, Sem.run_bind, Sem.run_pure, Result.andThen_ok, hs]
        · intro b W hW hd hv
          have e5 : b.eval (.tmp 5) = v2 := hv (5, v2) (by simp)
          exact .inl ⟨(fun _ h => by cases h), does_move (.tmp 5) rfl e5⟩
        · intro b W hW hd hv
          have e22 : b.eval (.tmp 22) = v2 := hd (3, 22) (by simp)
          refine .inl ⟨(fun _ h => by cases h), does_call 18 (fun _ _ => by kernel_rfl) #[.tmp 22] #[27] rfl #[v2] (by simp [e22]) ?_⟩
          refine (refwords_at _ (l ++ m) _ (hB.reads.below hW) hlm).mono ?_
          rintro e w1 ⟨v3, rfl, ho3, hw3⟩
          exact ⟨_, rfl, hw3, ho3.reads⟩
        · intro b W hW hd hv
          have e23 : SliceAt W (b.eval (.tmp 23)) (bvs (words (l ++ m))) := hd (4, 23) (by simp)
          have hs := str_of e23
          refine .inl ⟨(fun _ h => by cases h), does_run (.string ⟨(words (l ++ m)).toArray⟩) ?_ rfl⟩
          clear hd hv hW
          simp only [execOp, Sem.run_bind, Sem.run_pure, Result.andThen_ok, hs]
        · intro b W hW hd hv
          have e21 : b.eval (.tmp 21) = .string ⟨(words (l ++ m)).toArray⟩ := hd (2, 21) (by simp)
          have e24 : b.eval (.tmp 24) = .string ⟨(words (l ++ m)).toArray⟩ := hd (5, 24) (by simp)
          refine .inl ⟨(fun _ h => by cases h), does_run (.bool true) ?_ rfl⟩
          clear hd hv hW
          simp only [execOp, Sem.run_bind, Sem.run_pure, e21, e24]
          clear e21 e24
          go_simp
        · intro b W hW hd hv
          have e25 : b.eval (.tmp 25) = .bool true := hd (6, 25) (by simp)
          exact .inl ⟨(fun _ h => by cases h), does_move (.tmp 25) rfl e25⟩
        · intro b W hW hd hv
          have hg : b.eval (.tmp 26) = .bool true := hd (7, 26) (by simp)
          have e0 : b.eval (.tmp 0) = .slice a n c := hv (0, .slice a n c) (by simp)
          exact .inl ⟨(fun _ h => by cases h; exact hg), does_move (.tmp 0) rfl e0⟩
        · intro b W hW hd hv
          have hg : b.eval (.tmp 26) = .bool true := hd (7, 26) (by simp)
          have e27 : b.eval (.tmp 27) = .slice a n c := hd (8, 27) (by simp)
          refine .inl ⟨(fun _ h => by cases h; exact hg), does_call 17 (fun _ _ => by kernel_rfl) #[.tmp 27] #[27] rfl #[.slice a n c] (by simp [e27]) ?_⟩
          refine (words_at _ l _ (h.below (hD.thenCall hW)) (by rw [HL.out]; omega)).mono ?_
          rintro e w1 ⟨v3, rfl, ho3, hw3⟩
          exact ⟨_, rfl, hw3, ho3.reads⟩
        · intro b W hW hd hv
          have hg : b.eval (.tmp 26) = .bool true := hd (7, 26) (by simp)
          have e28 : SliceAt W (b.eval (.tmp 28)) (bvs (words l)) := hd (9, 28) (by simp)
          have hs := str_of e28
          refine .inl ⟨(fun _ h => by cases h; exact hg), does_run (.string ⟨(words l).toArray⟩) ?_ rfl⟩
          clear hd hv hW hg
          simp only [execOp, Sem.run_bind, Sem.run_pure, Result.andThen_ok, hs]
        · intro b W hW hd hv
          have hg : b.eval (.tmp 26) = .bool true := hd (7, 26) (by simp)
          have e1 : b.eval (.tmp 1) = .slice a' n' c' := hv (1, .slice a' n' c') (by simp)
          exact .inl ⟨(fun _ h => by cases h; exact hg), does_move (.tmp 1) rfl e1⟩
        · intro b W hW hd hv
          have hg : b.eval (.tmp 26) = .bool true := hd (7, 26) (by simp)
          have e30 : b.eval (.tmp 30) = .slice a' n' c' := hd (11, 30) (by simp)
          refine .inl ⟨(fun _ h => by cases h; exact hg), does_call 17 (fun _ _ => by kernel_rfl) #[.tmp 30] #[27] rfl #[.slice a' n' c'] (by simp [e30]) ?_⟩
          refine (words_at _ m _ (h'.below (hD.thenCall hW)) (by rw [HM.out]; omega)).mono ?_
          rintro e w1 ⟨v3, rfl, ho3, hw3⟩
          exact ⟨_, rfl, hw3, ho3.reads⟩
        · intro b W hW hd hv
          have hg : b.eval (.tmp 26) = .bool true := hd (7, 26) (by simp)
          have e31 : SliceAt W (b.eval (.tmp 31)) (bvs (words m)) := hd (12, 31) (by simp)
          have hs := str_of e31
          refine .inl ⟨(fun _ h => by cases h; exact hg), does_run (.string ⟨(words m).toArray⟩) ?_ rfl⟩
          clear hd hv hW hg
          simp only [execOp, Sem.run_bind, Sem.run_pure, Result.andThen_ok, hs]
        · intro b W hW hd hv
          have hg : b.eval (.tmp 26) = .bool true := hd (7, 26) (by simp)
          have e29 : b.eval (.tmp 29) = .string ⟨(words l).toArray⟩ := hd (10, 29) (by simp)
          have e32 : b.eval (.tmp 32) = .string ⟨(words m).toArray⟩ := hd (13, 32) (by simp)
          have ha := hadd W
          refine .inl ⟨(fun _ h => by cases h; exact hg), does_run (.string ⟨(words l ++ words m).toArray⟩) ?_ rfl⟩
          clear hd hv hW hg
          simp only [execOp, Sem.run_bind, Sem.run_pure, e29, e32]
          clear e29 e32
          go_simp
        · intro b W hW hd hv
          have hg : b.eval (.tmp 26) = .bool true := hd (7, 26) (by simp)
          have e5 : b.eval (.tmp 5) = v2 := hv (5, v2) (by simp)
          exact .inl ⟨(fun _ h => by cases h; exact hg), does_move (.tmp 5) rfl e5⟩
        · intro b W hW hd hv
          have hg : b.eval (.tmp 26) = .bool true := hd (7, 26) (by simp)
          have e34 : b.eval (.tmp 34) = v2 := hd (15, 34) (by simp)
          refine .inl ⟨(fun _ h => by cases h; exact hg), does_call 17 (fun _ _ => by kernel_rfl) #[.tmp 34] #[27] rfl #[v2] (by simp [e34]) ?_⟩
          refine (words_at _ (l ++ m) _ (hB.reads.below hW) hlm).mono ?_
          rintro e w1 ⟨v3, rfl, ho3, hw3⟩
          exact ⟨_, rfl, hw3, ho3.reads⟩
        · intro b W hW hd hv
          have hg : b.eval (.tmp 26) = .bool true := hd (7, 26) (by simp)
          have e35 : SliceAt W (b.eval (.tmp 35)) (bvs (words (l ++ m))) := hd (16, 35) (by simp)
          have hs := str_of e35
          refine .inl ⟨(fun _ h => by cases h; exact hg), does_run (.string ⟨(words (l ++ m)).toArray⟩) ?_ rfl⟩
          clear hd hv hW hg
          simp only [execOp, Sem.run_bind, Sem.run_pure, Result.andThen_ok, hs]
        · intro b W hW hd hv
          have hg : b.eval (.tmp 26) = .bool true := hd (7, 26) (by simp)
          have e33 : b.eval (.tmp 33) = .string ⟨(words l ++ words m).toArray⟩ := hd (14, 33) (by simp)
          have e36 : b.eval (.tmp 36) = .string ⟨(words (l ++ m)).toArray⟩ := hd (17, 36) (by simp)
          rw [← HW.out] at e33
          refine .inl ⟨(fun _ h => by cases h; exact hg), does_run (.bool true) ?_ rfl⟩
          clear hd hv hW hg
          simp only [execOp, Sem.run_bind, Sem.run_pure, e33, e36]
          clear e33 e36
          go_simp
        · intro b W hW hd hv
          have e26 : b.eval (.tmp 26) = .bool true := hd (7, 26) (by simp)
          have e37 : b.eval (.tmp 37) = .bool true := hd (18, 37) (by simp)
          refine .inl ⟨(fun _ h => by cases h), does_run (.bool true) ?_ rfl⟩
          clear hd hv hW
          simp only [execOp, Sem.run_bind, Sem.run_pure, e26, e37]
          clear e26 e37
          go_simp
        · intro b W hW hd hv
          have e38 : b.eval (.tmp 38) = .bool true := hd (19, 38) (by simp)
          exact .inl ⟨(fun _ h => by cases h), does_move (.tmp 38) rfl e38⟩
        · intro b W hW hd hv
          have hg : b.eval (.tmp 39) = .bool true := hd (20, 39) (by simp)
          refine .inl ⟨(fun _ h => by cases h; exact hg), does_call 14 (fun _ _ => by kernel_rfl) #[] #[] rfl #[] (by simp) ?_⟩
          refine (awake2_any _).mono ?_
          rintro e w1 ⟨rfl, hw3⟩
          exact ⟨_, rfl, hw3, rfl⟩
        · intro b W hW hd hv
          have e39 : b.eval (.tmp 39) = .bool true := hd (20, 39) (by simp)
          have e40 : b.eval (.tmp 40) = .bool true := hd (21, 40) (by simp)
          refine .inl ⟨(fun _ h => by cases h), does_run (.bool true) ?_ rfl⟩
          clear hd hv hW
          simp only [execOp, Sem.run_bind, Sem.run_pure, e39, e40]
          clear e39 e40
          go_simp
        · intro b W hW hd hv
          have e41 : b.eval (.tmp 41) = .bool true := hd (22, 41) (by simp)
          exact .inl ⟨(fun _ h => by cases h), does_assign (.tmp 41) rfl e41⟩
      · intro vs W hW hv
        have hk4 : vs 23 = .bool true := hv 23 (by simp)
        clear hv
        simp only [putAll, List.zipIdx_cons, List.zipIdx_nil, List.foldl_cons, List.foldl_nil, Nat.zero_add, Nat.reduceAdd]
        rw [hk4]; clear hk4
        go_simp
        go_wp2
        go_ret
        exact ⟨rfl, hD.thenCall hW⟩
end Go.Proofs.Ytmoeabifkbahbaa
