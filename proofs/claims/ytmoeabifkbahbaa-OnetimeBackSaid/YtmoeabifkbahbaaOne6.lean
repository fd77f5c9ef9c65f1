import Derived.Test.YtmoeabifkbahbaaOne4
import Derived.Test.YtmoeabifkbahbaaRegionT
import Derived.Laws.CopyRow
import Derived.Outline
import Derived.StillTailTactics
namespace Go.Proofs.Ytmoeabifkbahbaa
open Go.RowKit

def secret (seed : UInt64) (leaf c : Int) : UInt64 := mac seed 1 (words [u64 leaf, u64 c])
def combine (leaf : Int) (l : List UInt64) : UInt64 := hash 2 (words (u64 leaf :: l))
def pubEnds (seed : UInt64) (leaf : Int) (n : Nat) : List UInt64 := (List.range n).map fun (i : Nat) => run leaf i 0 15 (secret seed leaf i)
def signL (seed : UInt64) (leaf : Int) (m : UInt64) (n : Nat) : List UInt64 := (List.range n).map fun (i : Nat) => run leaf i 0 ((digs m).getD i 0) (secret seed leaf i)
def recL (leaf : Int) (m : UInt64) (s : List UInt64) (n : Nat) : List UInt64 := (List.range n).map fun (i : Nat) => run leaf i ((digs m).getD i 0) 15 (s.getD i 0)
theorem pubEnds_len (seed : UInt64) (leaf : Int) (n : Nat) : (pubEnds seed leaf n).length = n := by simp [pubEnds]
theorem signL_len (seed : UInt64) (leaf : Int) (m : UInt64) (n : Nat) : (signL seed leaf m n).length = n := by simp [signL]
theorem recL_len (leaf : Int) (m : UInt64) (s : List UInt64) (n : Nat) : (recL leaf m s n).length = n := by simp [recL]
theorem pubEnds_succ (seed : UInt64) (leaf : Int) (n : Nat) : pubEnds seed leaf (n + 1) = pubEnds seed leaf n ++ [run leaf n 0 15 (secret seed leaf n)] := by simp [pubEnds, List.range_succ]
theorem signL_succ (seed : UInt64) (leaf : Int) (m : UInt64) (n : Nat) : signL seed leaf m (n + 1) = signL seed leaf m n ++ [run leaf n 0 ((digs m).getD n 0) (secret seed leaf n)] := by simp [signL, List.range_succ]
theorem recL_succ (leaf : Int) (m : UInt64) (s : List UInt64) (n : Nat) : recL leaf m s (n + 1) = recL leaf m s n ++ [run leaf n ((digs m).getD n 0) 15 (s.getD n 0)] := by simp [recL, List.range_succ]
theorem digs_bd (m : UInt64) (i : Nat) : 0 ≤ (digs m).getD i 0 ∧ (digs m).getD i 0 ≤ 15 := by
  have hs := nibSum_le m 16
  by_cases h : i < 16
  · have := nib_lt m i
    have e : (digs m).getD i 0 = (nib m i : Int) := by simp [digs, List.getElem?_append, h]
    omega
  · by_cases h16 : i = 16
    · subst h16
      have e : (digs m).getD 16 0 = ((nibSum m 16 / 16 : Nat) : Int) := by simp [digs]
      omega
    · by_cases h17 : i = 17
      · subst h17
        have e : (digs m).getD 17 0 = ((nibSum m 16 % 16 : Nat) : Int) := by simp [digs]
        omega
      · have e : (digs m).getD i 0 = 0 := by
          rw [List.getD_eq_getElem?_getD, List.getElem?_eq_none (by rw [digs_len]; omega)]; rfl
        omega
theorem rec_sign (seed : UInt64) (leaf : Int) (m : UInt64) : recL leaf m (signL seed leaf m 18) 18 = pubEnds seed leaf 18 := by
  unfold recL pubEnds
  apply List.map_congr_left
  intro i hi
  have hi' := List.mem_range.1 hi
  have hb := digs_bd m i
  have e : (signL seed leaf m 18).getD i 0 = run leaf i 0 ((digs m).getD i 0) (secret seed leaf i) := by simp [signL, hi']
  rw [e, ← run_split leaf i 0 _ 15 _ (by omega) hb.1 hb.2 (by omega)]

/-- 'copy(d, x)' into a block known whole, from any slice that is no longer than the room. -/
theorem wpList_copyB {P : Program} {w : World} {ops : Array Oper} {rest : List Oper} {o : Oper} {a : Act} {Q : Exit → Act → World → Prop} (hgd : o.guard = none) (d x : Operand) (t : TypeId) (ho : o.op = .call { callee := .builtin .copy, args := #[d, x], argTypes := #[t, t] })
    {e : TypeId} {z : Value} {bytes : Nat} (E : ElemT P t e z bytes) (g off dl dc : Nat) (hd : a.eval d = .slice (some ⟨g, off, none⟩) dl dc) (te : TypeId) (cur : Array Value) (hg : Blk w g te cur)
    (xv : Value) (cs : List Value) (hx : a.eval x = xv) (hr : SliceAt w xv cs) (h0 : 0 < cs.length) (hle : cs.length ≤ dl) (hfit : off + cs.length ≤ cur.size) (h1 : ∀ v ∈ cs, v.oneCell' = true)
    (h : ∀ v' w', Blk w' g te (cur.toList.take off ++ cs ++ cur.toList.drop (off + cs.length)).toArray → w.grownBy w' (some g) → wpList P ops Q rest (a.put o.dst v') w') : wpList P ops Q (o :: rest) a w := by
  refine wpList_plain hgd fun K hK => ?_
  obtain ⟨i, hi, hz, hsize, hby⟩ := E.hi
  obtain ⟨A, c, rfl, hc, hm, hrd⟩ := hr
  obtain ⟨ad, rfl, -, hcell⟩ := hrd.2 h0
  have hrun := run_copy_row (P := P) w t t o.type e g off dl dc ad cs.length c cur te cs E.ht (by rw [hi]; simp [hsize]) hg (by show _ = min _ _; omega) hcell hfit h1
  unfold Oper.wp execOp
  simp only [ho, resolve, invoke, builtin, Sem.run_bind, Sem.run_pure, Result.andThen_ok, List.map_toArray, List.map_cons, List.map_nil, hd, hx, hrun]
  exact hK _ _ (h _ _ (setRow_heap w g cur _ te (0, 0) hg) ⟨rfl, rfl, rfl, by simp, fun k _ hk => setRow_other w g k _ (fun e => hk (by rw [e]))⟩)

set_option maxHeartbeats 800000 in
theorem secret_any (seed : UInt64) (leaf c : Int) (w : World) : Calls Try.prog 31 #[.int .u64 (wv seed), .int .i64 leaf, .int .i64 c] w fun e w' => e = .returned (.int .u64 (wv (secret seed leaf c))) ∧ Below w.heap.size w w' := by
  have hl := wv_ofInt leaf
  have hc := wv_ofInt c
  go_enter Try.func31, Try.ntmps31
  go_wp2_with fail
  refine (words_at _ [u64 leaf, u64 c] _ (SliceAt.two _ _ _ _) (by simp)).mono ?_; rintro e w1 ⟨v1, rfl, ho1, hw1⟩
  go_wp2_with fail
  refine (mac_any _ 1 _ _ _ ho1.reads).mono ?_; rintro e w2 ⟨rfl, hw2⟩
  go_wp2
  go_ret
  exact ⟨rfl, (((Below.refl _ _).thenNew _).thenCall hw1).thenCall hw2⟩
set_option maxHeartbeats 800000 in
theorem refsecret_any (seed : UInt64) (leaf c : Int) (w : World) : Calls Try.prog 32 #[.int .u64 (wv seed), .int .i64 leaf, .int .i64 c] w fun e w' => e = .returned (.int .u64 (wv (secret seed leaf c))) ∧ Below w.heap.size w w' := by
  have hl := wv_ofInt leaf
  have hc := wv_ofInt c
  go_enter Try.func32, Try.ntmps32
  go_wp2_with fail
  refine (refwords_at _ [u64 leaf, u64 c] _ (SliceAt.two _ _ _ _) (by simp)).mono ?_; rintro e w1 ⟨v1, rfl, ho1, hw1⟩
  go_wp2_with fail
  refine (refmac_any _ 1 _ _ _ ho1.reads (by rw [words_len]; simp)).mono ?_; rintro e w2 ⟨rfl, hw2⟩
  go_wp2
  go_ret
  exact ⟨rfl, (((Below.refl _ _).thenNew _).thenCall hw1).thenCall hw2⟩

theorem info64a : (Try.prog.info? 63).map (·.size) = some 18 := by kernel_rfl
theorem copy_list (x : Value) (cs : List Value) (h : cs.length = 18) : ((#[x, .int .u64 0, .int .u64 0, .int .u64 0, .int .u64 0, .int .u64 0, .int .u64 0, .int .u64 0, .int .u64 0, .int .u64 0, .int .u64 0, .int .u64 0, .int .u64 0, .int .u64 0, .int .u64 0, .int .u64 0, .int .u64 0, .int .u64 0, .int .u64 0] : Array Value).toList.take 1 ++ cs ++ (#[x, .int .u64 0, .int .u64 0, .int .u64 0, .int .u64 0, .int .u64 0, .int .u64 0, .int .u64 0, .int .u64 0, .int .u64 0, .int .u64 0, .int .u64 0, .int .u64 0, .int .u64 0, .int .u64 0, .int .u64 0, .int .u64 0, .int .u64 0, .int .u64 0] : Array Value).toList.drop (1 + cs.length)) = x :: cs := by
  rw [h]; simp
set_option maxRecDepth 20000 in
set_option maxHeartbeats 1600000 in
theorem combine_any (leaf : Int) (l : List UInt64) (hl : l.length = 18) (w : World) : Calls Try.prog 46 #[.int .i64 leaf, .agg (wvs l).toArray] w fun e w' => e = .returned (.int .u64 (wv (combine leaf l))) ∧ Below w.heap.size w w' := by
  have hlf := wv_ofInt leaf
  obtain ⟨cs, hcs⟩ : ∃ cs, Hid (cs = (wvs l).toArray) := ⟨_, Lib.hid rfl⟩
  have hsz : Hid (cs.size = 18) := by show _ = _; rw [hcs.out]; simp [wvs, hl]
  rw [← hcs.out]
  go_enter Try.func46, Try.ntmps46
  go_wp2_with fail
  generalize hW0 : (w.alloc (.cells cs 63)).alloc _ = W
  have hb0 : Blk W w.heap.size 63 cs := by rw [← hW0]; exact (Blk.new w _ _).alloc _
  have hb1 : Blk W (w.heap.size + 1) 68 #[.int .u64 (wv (u64 leaf)), .int .u64 0, .int .u64 0, .int .u64 0, .int .u64 0, .int .u64 0, .int .u64 0, .int .u64 0, .int .u64 0, .int .u64 0, .int .u64 0, .int .u64 0, .int .u64 0, .int .u64 0, .int .u64 0, .int .u64 0, .int .u64 0, .int .u64 0, .int .u64 0] := by
    rw [← hW0, show w.heap.size + 1 = (w.alloc (.cells cs 63)).heap.size by simp]; exact Blk.new _ _ _
  have hbw : Below w.heap.size w W := by rw [← hW0]; exact ((Below.refl _ _).thenNew _).thenNew _
  clear hW0
  go_still_tail 2, (by kernel_rfl)
  change wpList _ _ _ _ _ W.drew
  have hs0 : SliceAt W.drew (.slice (some ⟨w.heap.size, 0, none⟩) 18 18) cs.toList := by
    have h := (Own.of_blk (base := 0) hb0.drew (Nat.zero_le _) (by rw [hsz.out]; decide)).reads
    rw [hsz.out] at h; exact h
  have hlen : cs.toList.length = 18 := by simpa using hsz.out
  have hone : ∀ v ∈ cs.toList, v.oneCell' = true := by rw [hcs.out]; exact fun v hv => wvs_one _ v (by simpa using hv)
  refine wpList_copyB rfl (.tmp 9) (.tmp 10) 27 rfl E64 (w.heap.size + 1) 1 18 18 rfl _ _ hb1.drew _ cs.toList rfl hs0 (by rw [hlen]; decide) (by rw [hlen]; decide) (by rw [hlen]; simp) hone ?_
  intro v' w' hb' hg'
  rw [copy_list _ _ hlen] at hb'
  have hlist : Value.int .u64 (wv (u64 leaf)) :: cs.toList = wvs (u64 leaf :: l) := by rw [hcs.out]; rfl
  rw [hlist] at hb'
  have hl19 : (wvs (u64 leaf :: l)).toArray.size = 19 := by simp [wvs, hl]
  have hs1 : SliceAt w' (.slice (some ⟨w.heap.size + 1, 0, none⟩) 19 19) (wvs (u64 leaf :: l)) := by
    have h := (Own.of_blk (base := 0) hb' (Nat.zero_le _) (by rw [hl19]; decide)).reads
    rw [hl19] at h; exact h
  have hw' : Below w.heap.size w w' := hbw.trans (only_below (a := W) (g := w.heap.size + 1) ⟨hg'.os, hg'.tape, hg'.output, hg'.size, hg'.block⟩ (by omega) hbw.size)
  clear hb0 hb1 hs0 hb' hg' hlist
  go_wp2_with fail
  refine (words_at _ (u64 leaf :: l) _ hs1 (by simp [hl])).mono ?_; rintro e w1 ⟨v1, rfl, ho1, hw1⟩
  go_wp2_with fail
  refine (hash_any 2 _ _ _ ho1.reads).mono ?_; rintro e w2 ⟨rfl, hw2⟩
  go_wp2
  go_ret
  exact ⟨rfl, (hw'.thenCall hw1).thenCall hw2⟩

/-- An array of n words of which the first k are those of a list. -/
def fillW (n : Nat) (l : List UInt64) (k : Nat) : Array Value := (wvs (l.take k ++ List.replicate (n - k) 0)).toArray
theorem fillW_at {n k : Nat} {l : List UInt64} (hl : l.length = n) (hk : k < n) : (fillW n l k)[k]? = some (.int .u64 0) := by
  have : (List.take k l ++ List.replicate (n - k) 0)[k]? = some 0 := by
    rw [List.getElem?_append_right (by simp; omega), List.getElem?_replicate, if_pos (by rw [List.length_take]; omega)]
  simp only [fillW, wvs, List.getElem?_toArray, List.getElem?_map, this]; rfl
theorem fillW_set {n k : Nat} {l : List UInt64} (hl : l.length = n) (hk : k < n) : (fillW n l k).setIfInBounds k (.int .u64 (wv (l.getD k 0))) = fillW n l (k + 1) := by
  have e : (l.take k ++ List.replicate (n - k) 0).set k (l.getD k 0) = l.take (k + 1) ++ List.replicate (n - (k + 1)) 0 := by
    rw [List.set_append_right _ _ (by simp; omega), show n - k = (n - (k + 1)) + 1 by omega, List.replicate_succ]
    have : k - (List.take k l).length = 0 := by simp; omega
    rw [this, List.set_cons_zero, List.take_add_one, List.append_assoc]
    simp [List.getElem?_eq_getElem (show k < l.length by omega)]
  unfold fillW
  rw [← e]
  simp [wvs, List.map_set]
theorem fillW_full {n : Nat} {l : List UInt64} (hl : l.length = n) : fillW n l n = (wvs l).toArray := by
  simp [fillW, ← hl]
theorem fillW_size {n k : Nat} {l : List UInt64} (hl : l.length = n) (hk : k ≤ n) : (fillW n l k).size = n := by simp [fillW, wvs]; omega

set_option maxRecDepth 20000 in
set_option maxHeartbeats 1600000 in
theorem public_any (seed : UInt64) (leaf : Int) (w : World) : Calls Try.prog 33 #[.int .u64 (wv seed), .int .i64 leaf] w fun e w' => e = .returned (.int .u64 (wv (combine leaf (pubEnds seed leaf 18)))) ∧ Below w.heap.size w w' := by
  obtain ⟨L, hL⟩ : ∃ L, Hid (L = pubEnds seed leaf 18) := ⟨_, Lib.hid rfl⟩
  have hl : Hid (L.length = 18) := by show _ = _; rw [hL.out, pubEnds_len]
  have hat : ∀ k : Nat, k < 18 → L.getD k 0 = run leaf k 0 15 (secret seed leaf k) := by intro k hk; rw [hL.out]; simp [pubEnds, hk]
  have Hat := Lib.hid hat
  clear hat
  rw [← hL.out]
  go_enter Try.func33, Try.ntmps33
  go_wp2_with fail
  generalize hW0 : w.alloc _ = W
  have hb : Blk W w.heap.size 63 (fillW 18 L 0) := by rw [← hW0]; exact Blk.new w _ _
  have hbw : Below w.heap.size w W := by rw [← hW0]; exact (Below.refl _ _).thenNew _
  clear hW0
  go_loopw [6, 7] (fun _ i wr => ∃ k : Nat, k ≤ 18 ∧ i = .int .i64 k ∧ Blk wr w.heap.size 63 (fillW 18 L k) ∧ Below w.heap.size w wr) (fun _ i _ => 18 - (intOf i).toNat)
  case atStart => exact ⟨0, Nat.zero_le _, rfl, hb, hbw⟩
  case round =>
    clear hb hbw
    obtain ⟨k, hk, rfl, hb, hw⟩ := hrel
    by_cases hlt : k < 18
    · go_wp2_with fail
      refine (secret_any _ _ _ _).mono ?_; rintro e w1 ⟨rfl, hw1⟩
      go_wp2_with fail
      refine (run_any _ _ _ _ _ _).mono ?_; rintro e w2 ⟨rfl, hw2⟩
      have hb2 : Blk w2 w.heap.size 63 (fillW 18 L k) := (hb.below hw1 hb.lt).below hw2 (hb.below hw1 hb.lt).lt
      have hw3 := (hw.thenCall hw1).thenCall hw2
      have c0 : w2.cell? ⟨w.heap.size, k, none⟩ = some (.int .u64 0) := by rw [hb2.cell k, fillW_at hl.out hlt]
      have f0 : w2.frozen? ⟨w.heap.size, k, none⟩ = false := hb2.frozen k
      clear hb hw hw1 hw2
      go_wp2_with fail
      go_roundw
      case rel => exact ⟨k + 1, by omega, by go_num, by rw [← fillW_set hl.out hlt, Hat.out k hlt]; exact hb2.set_ k _, hw3.setCell (Nat.le_refl _) _⟩
      case measure => simp [intOf]; omega
    · obtain rfl : k = 18 := by omega
      rw [fillW_full hl.out] at hb
      have hsz : (wvs L).toArray.size = 18 := by simp [wvs, hl.out]
      go_wp2_with (refine wpList_load_row rfl 63 (.tmp 5) rfl w.heap.size rfl _ (wvs L).toArray _ _ hb Try.underlying63 rfl (by rw [hsz]; exact info64a) ?_)
      refine (combine_any leaf L hl.out _).mono ?_; rintro e w1 ⟨rfl, hw1⟩
      go_wp2
      go_ret
      exact ⟨rfl, hw.thenCall hw1⟩
end Go.Proofs.Ytmoeabifkbahbaa
