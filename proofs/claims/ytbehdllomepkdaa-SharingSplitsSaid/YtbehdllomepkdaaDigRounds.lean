/-
  The contract of (*digest.state).rounds: n rounds (n at most 4) on the state in block g; nothing else is turned. Printed by gen_dig.py.
-/
import Derived.Test.YtbehdllomepkdaaRows
import Derived.Test.YtbehdllomepkdaaPlainDig
import Derived.Test.YtbehdllomepkdaaMem
import Derived.WalkSpells
import Derived.WalkLawsBesides
import Derived.RegionTactic
import Derived.BigRegion
import Derived.ChangeAlike
namespace Go.Proofs.Ytbehdllomepkdaa
open Go.RowKit

def St.cells (s : St) : Array Value := #[.int .u64 (wv s.v0), .int .u64 (wv s.v1), .int .u64 (wv s.v2), .int .u64 (wv s.v3)]
theorem set4_0 {w : World} {g : Nat} {t : TypeId} {a b c d : Value} (h : Blk w g t #[a, b, c, d]) (u : Value) : Blk (w.setCell ⟨g, 0, none⟩ u) g t #[u, b, c, d] := h.set_ 0 u
theorem set4_1 {w : World} {g : Nat} {t : TypeId} {a b c d : Value} (h : Blk w g t #[a, b, c, d]) (u : Value) : Blk (w.setCell ⟨g, 1, none⟩ u) g t #[a, u, c, d] := h.set_ 1 u
theorem set4_2 {w : World} {g : Nat} {t : TypeId} {a b c d : Value} (h : Blk w g t #[a, b, c, d]) (u : Value) : Blk (w.setCell ⟨g, 2, none⟩ u) g t #[a, b, u, d] := h.set_ 2 u
theorem set4_3 {w : World} {g : Nat} {t : TypeId} {a b c d : Value} (h : Blk w g t #[a, b, c, d]) (u : Value) : Blk (w.setCell ⟨g, 3, none⟩ u) g t #[a, b, c, u] := h.set_ 3 u

theorem rot_val (x : UInt64) (k : Nat) (h0 : 0 < k) (h1 : k < 64) : bits .or .u64 (IntKind.u64.wrap (wv x * 2 ^ k)) (wv x / 2 ^ (64 - k)) = wv (rotl x (UInt64.ofNat k)) := by
  rw [wv_shl x k h1, wv_shr x (64 - k) (by omega), wv_or]
  unfold rotl
  rw [UInt64.ofNat_sub (by omega)]
  rfl

theorem rot_any (x : UInt64) (k : Nat) (hk : k = 13 ∨ k = 16 ∨ k = 17 ∨ k = 21 ∨ k = 32) (w : World) :
    Calls Try.prog 64 #[.int .u64 (wv x), .int .i64 k] w fun e w' => e = .returned (.int .u64 (wv (rotl x (UInt64.ofNat k)))) ∧ w = w' := by
  have h1 : bits BinOp.and IntKind.u64 13 63 = 13 := by decide
  have h2 : bits BinOp.and IntKind.u64 16 63 = 16 := by decide
  have h3 : bits BinOp.and IntKind.u64 17 63 = 17 := by decide
  have h4 : bits BinOp.and IntKind.u64 21 63 = 21 := by decide
  have h5 : bits BinOp.and IntKind.u64 32 63 = 32 := by decide
  rw [← rot_val x k (by omega) (by omega)]
  rcases hk with rfl | rfl | rfl | rfl | rfl
  all_goals
    go_enter Try.func64, Try.ntmps64
    go_wp2
    go_ret
    exact ⟨rfl, rfl⟩

set_option maxRecDepth 100000 in
set_option maxHeartbeats 1600000 in
theorem rounds_any (s : St) (g n : Nat) (hn : n ≤ 4) (w : World) (hb : Blk w g 85 s.cells) :
    Calls Try.prog 62 #[.pointer (some ⟨g, 0, none⟩), .int .i64 n] w fun e w' => e = .returned (.tuple #[]) ∧ Blk w' g 85 (rnds n s).cells ∧ w.grownBy w' (some g) := by
  have HB := Lib.hid hb; clear hb
  go_enter Try.func62, Try.ntmps62
  go_wp2
  go_loopw [5] (fun i wr => ∃ k : Nat, k ≤ n ∧ i = .int .i64 k ∧ Blk wr g 85 (rnds k s).cells ∧ w.grownBy wr (some g)) (fun i _ => n - (intOf i).toNat)
  case atStart => exact ⟨0, Nat.zero_le _, rfl, HB.out, World.grownBy.refl w _⟩
  case round =>
    obtain ⟨k, hk, rfl, hb, hg⟩ := hrel
    clear HB
    generalize hs : rnds k s = t at hb
    have HS := Lib.hid hs; clear hs
    by_cases hlt : k < n
    · obtain ⟨v0, v1, v2, v3⟩ := t
      replace hb : Blk wr g 85 #[.int .u64 (wv v0), .int .u64 (wv v1), .int .u64 (wv v2), .int .u64 (wv v3)] := hb
      have c0 : wr.cell? ⟨g, 0, none⟩ = some (.int .u64 (wv v0)) := hb.cell 0
      have f0 : wr.frozen? ⟨g, 0, none⟩ = false := hb.frozen 0
      have c1 : wr.cell? ⟨g, 1, none⟩ = some (.int .u64 (wv v1)) := hb.cell 1
      have f1 : wr.frozen? ⟨g, 1, none⟩ = false := hb.frozen 1
      have c2 : wr.cell? ⟨g, 2, none⟩ = some (.int .u64 (wv v2)) := hb.cell 2
      have f2 : wr.frozen? ⟨g, 2, none⟩ = false := hb.frozen 2
      have c3 : wr.cell? ⟨g, 3, none⟩ = some (.int .u64 (wv v3)) := hb.cell 3
      have f3 : wr.frozen? ⟨g, 3, none⟩ = false := hb.frozen 3
      go_wp2
      go_region
      obtain ⟨x0, H0⟩ : ∃ x, Hid (x = v0 + v1) := ⟨_, Lib.hid rfl⟩
      replace hb : Blk (wr.setCell ⟨g, 0, none⟩ (.int .u64 (IntKind.u64.wrap (wv v0 + wv v1)))).drew g 85 #[.int .u64 (wv x0), .int .u64 (wv v1), .int .u64 (wv v2), .int .u64 (wv v3)] := by rw [H0.out, ← wv_add]; exact (set4_0 hb _).drew
      replace hg : w.grownBy (wr.setCell ⟨g, 0, none⟩ (.int .u64 (IntKind.u64.wrap (wv v0 + wv v1)))).drew (some g) := only_drew (only_setCell hg (.inl rfl) _)
      clear c0 c1 c2 c3 f0 f1 f2 f3
      revert hb hg
      generalize (wr.setCell ⟨g, 0, none⟩ (.int .u64 (IntKind.u64.wrap (wv v0 + wv v1)))).drew = y0
      intro hb hg
      as_aux_lemma =>
       have c0 : y0.cell? ⟨g, 0, none⟩ = some (.int .u64 (wv x0)) := hb.cell 0
       have f0 : y0.frozen? ⟨g, 0, none⟩ = false := hb.frozen 0
       have c1 : y0.cell? ⟨g, 1, none⟩ = some (.int .u64 (wv v1)) := hb.cell 1
       have f1 : y0.frozen? ⟨g, 1, none⟩ = false := hb.frozen 1
       have c2 : y0.cell? ⟨g, 2, none⟩ = some (.int .u64 (wv v2)) := hb.cell 2
       have f2 : y0.frozen? ⟨g, 2, none⟩ = false := hb.frozen 2
       have c3 : y0.cell? ⟨g, 3, none⟩ = some (.int .u64 (wv v3)) := hb.cell 3
       have f3 : y0.frozen? ⟨g, 3, none⟩ = false := hb.frozen 3
       go_wp2_with (go_at_call 64; refine (rot_any _ 13 (by decide) _).mono ?_; rintro e w1 ⟨rfl, rfl⟩)
       obtain ⟨x1, H1⟩ : ∃ x, Hid (x = rotl v1 13) := ⟨_, Lib.hid rfl⟩
       replace hb : Blk (y0.setCell ⟨g, 1, none⟩ (.int .u64 (wv (rotl v1 13)))) g 85 #[.int .u64 (wv x0), .int .u64 (wv x1), .int .u64 (wv v2), .int .u64 (wv v3)] := by rw [H1.out]; exact (set4_1 hb _)
       replace hg : w.grownBy (y0.setCell ⟨g, 1, none⟩ (.int .u64 (wv (rotl v1 13)))) (some g) := (only_setCell hg (.inl rfl) _)
       clear c0 c1 c2 c3 f0 f1 f2 f3
       revert hb hg
       generalize (y0.setCell ⟨g, 1, none⟩ (.int .u64 (wv (rotl v1 13)))) = y1
       intro hb hg
       as_aux_lemma =>
        have c0 : y1.cell? ⟨g, 0, none⟩ = some (.int .u64 (wv x0)) := hb.cell 0
        have f0 : y1.frozen? ⟨g, 0, none⟩ = false := hb.frozen 0
        have c1 : y1.cell? ⟨g, 1, none⟩ = some (.int .u64 (wv x1)) := hb.cell 1
        have f1 : y1.frozen? ⟨g, 1, none⟩ = false := hb.frozen 1
        have c2 : y1.cell? ⟨g, 2, none⟩ = some (.int .u64 (wv v2)) := hb.cell 2
        have f2 : y1.frozen? ⟨g, 2, none⟩ = false := hb.frozen 2
        have c3 : y1.cell? ⟨g, 3, none⟩ = some (.int .u64 (wv v3)) := hb.cell 3
        have f3 : y1.frozen? ⟨g, 3, none⟩ = false := hb.frozen 3
        go_wp2
        go_region
        obtain ⟨x2, H2⟩ : ∃ x, Hid (x = x1 ^^^ x0) := ⟨_, Lib.hid rfl⟩
        replace hb : Blk (y1.setCell ⟨g, 1, none⟩ (.int .u64 (bits BinOp.xor IntKind.u64 (wv x1) (wv x0)))).drew g 85 #[.int .u64 (wv x0), .int .u64 (wv x2), .int .u64 (wv v2), .int .u64 (wv v3)] := by rw [H2.out, ← wv_xor]; exact (set4_1 hb _).drew
        replace hg : w.grownBy (y1.setCell ⟨g, 1, none⟩ (.int .u64 (bits BinOp.xor IntKind.u64 (wv x1) (wv x0)))).drew (some g) := only_drew (only_setCell hg (.inl rfl) _)
        clear c0 c1 c2 c3 f0 f1 f2 f3
        revert hb hg
        generalize (y1.setCell ⟨g, 1, none⟩ (.int .u64 (bits BinOp.xor IntKind.u64 (wv x1) (wv x0)))).drew = y2
        intro hb hg
        as_aux_lemma =>
         have c0 : y2.cell? ⟨g, 0, none⟩ = some (.int .u64 (wv x0)) := hb.cell 0
         have f0 : y2.frozen? ⟨g, 0, none⟩ = false := hb.frozen 0
         have c1 : y2.cell? ⟨g, 1, none⟩ = some (.int .u64 (wv x2)) := hb.cell 1
         have f1 : y2.frozen? ⟨g, 1, none⟩ = false := hb.frozen 1
         have c2 : y2.cell? ⟨g, 2, none⟩ = some (.int .u64 (wv v2)) := hb.cell 2
         have f2 : y2.frozen? ⟨g, 2, none⟩ = false := hb.frozen 2
         have c3 : y2.cell? ⟨g, 3, none⟩ = some (.int .u64 (wv v3)) := hb.cell 3
         have f3 : y2.frozen? ⟨g, 3, none⟩ = false := hb.frozen 3
         go_wp2_with (go_at_call 64; refine (rot_any _ 32 (by decide) _).mono ?_; rintro e w1 ⟨rfl, rfl⟩)
         obtain ⟨x3, H3⟩ : ∃ x, Hid (x = rotl x0 32) := ⟨_, Lib.hid rfl⟩
         replace hb : Blk (y2.setCell ⟨g, 0, none⟩ (.int .u64 (wv (rotl x0 32)))) g 85 #[.int .u64 (wv x3), .int .u64 (wv x2), .int .u64 (wv v2), .int .u64 (wv v3)] := by rw [H3.out]; exact (set4_0 hb _)
         replace hg : w.grownBy (y2.setCell ⟨g, 0, none⟩ (.int .u64 (wv (rotl x0 32)))) (some g) := (only_setCell hg (.inl rfl) _)
         clear c0 c1 c2 c3 f0 f1 f2 f3
         revert hb hg
         generalize (y2.setCell ⟨g, 0, none⟩ (.int .u64 (wv (rotl x0 32)))) = y3
         intro hb hg
         as_aux_lemma =>
          have c0 : y3.cell? ⟨g, 0, none⟩ = some (.int .u64 (wv x3)) := hb.cell 0
          have f0 : y3.frozen? ⟨g, 0, none⟩ = false := hb.frozen 0
          have c1 : y3.cell? ⟨g, 1, none⟩ = some (.int .u64 (wv x2)) := hb.cell 1
          have f1 : y3.frozen? ⟨g, 1, none⟩ = false := hb.frozen 1
          have c2 : y3.cell? ⟨g, 2, none⟩ = some (.int .u64 (wv v2)) := hb.cell 2
          have f2 : y3.frozen? ⟨g, 2, none⟩ = false := hb.frozen 2
          have c3 : y3.cell? ⟨g, 3, none⟩ = some (.int .u64 (wv v3)) := hb.cell 3
          have f3 : y3.frozen? ⟨g, 3, none⟩ = false := hb.frozen 3
          go_wp2
          go_region
          obtain ⟨x4, H4⟩ : ∃ x, Hid (x = v2 + v3) := ⟨_, Lib.hid rfl⟩
          replace hb : Blk (y3.setCell ⟨g, 2, none⟩ (.int .u64 (IntKind.u64.wrap (wv v2 + wv v3)))).drew g 85 #[.int .u64 (wv x3), .int .u64 (wv x2), .int .u64 (wv x4), .int .u64 (wv v3)] := by rw [H4.out, ← wv_add]; exact (set4_2 hb _).drew
          replace hg : w.grownBy (y3.setCell ⟨g, 2, none⟩ (.int .u64 (IntKind.u64.wrap (wv v2 + wv v3)))).drew (some g) := only_drew (only_setCell hg (.inl rfl) _)
          clear c0 c1 c2 c3 f0 f1 f2 f3
          revert hb hg
          generalize (y3.setCell ⟨g, 2, none⟩ (.int .u64 (IntKind.u64.wrap (wv v2 + wv v3)))).drew = y4
          intro hb hg
          as_aux_lemma =>
           have c0 : y4.cell? ⟨g, 0, none⟩ = some (.int .u64 (wv x3)) := hb.cell 0
           have f0 : y4.frozen? ⟨g, 0, none⟩ = false := hb.frozen 0
           have c1 : y4.cell? ⟨g, 1, none⟩ = some (.int .u64 (wv x2)) := hb.cell 1
           have f1 : y4.frozen? ⟨g, 1, none⟩ = false := hb.frozen 1
           have c2 : y4.cell? ⟨g, 2, none⟩ = some (.int .u64 (wv x4)) := hb.cell 2
           have f2 : y4.frozen? ⟨g, 2, none⟩ = false := hb.frozen 2
           have c3 : y4.cell? ⟨g, 3, none⟩ = some (.int .u64 (wv v3)) := hb.cell 3
           have f3 : y4.frozen? ⟨g, 3, none⟩ = false := hb.frozen 3
           go_wp2_with (go_at_call 64; refine (rot_any _ 16 (by decide) _).mono ?_; rintro e w1 ⟨rfl, rfl⟩)
           obtain ⟨x5, H5⟩ : ∃ x, Hid (x = rotl v3 16) := ⟨_, Lib.hid rfl⟩
           replace hb : Blk (y4.setCell ⟨g, 3, none⟩ (.int .u64 (wv (rotl v3 16)))) g 85 #[.int .u64 (wv x3), .int .u64 (wv x2), .int .u64 (wv x4), .int .u64 (wv x5)] := by rw [H5.out]; exact (set4_3 hb _)
           replace hg : w.grownBy (y4.setCell ⟨g, 3, none⟩ (.int .u64 (wv (rotl v3 16)))) (some g) := (only_setCell hg (.inl rfl) _)
           clear c0 c1 c2 c3 f0 f1 f2 f3
           revert hb hg
           generalize (y4.setCell ⟨g, 3, none⟩ (.int .u64 (wv (rotl v3 16)))) = y5
           intro hb hg
           as_aux_lemma =>
            have c0 : y5.cell? ⟨g, 0, none⟩ = some (.int .u64 (wv x3)) := hb.cell 0
            have f0 : y5.frozen? ⟨g, 0, none⟩ = false := hb.frozen 0
            have c1 : y5.cell? ⟨g, 1, none⟩ = some (.int .u64 (wv x2)) := hb.cell 1
            have f1 : y5.frozen? ⟨g, 1, none⟩ = false := hb.frozen 1
            have c2 : y5.cell? ⟨g, 2, none⟩ = some (.int .u64 (wv x4)) := hb.cell 2
            have f2 : y5.frozen? ⟨g, 2, none⟩ = false := hb.frozen 2
            have c3 : y5.cell? ⟨g, 3, none⟩ = some (.int .u64 (wv x5)) := hb.cell 3
            have f3 : y5.frozen? ⟨g, 3, none⟩ = false := hb.frozen 3
            go_wp2
            go_region
            obtain ⟨x6, H6⟩ : ∃ x, Hid (x = x5 ^^^ x4) := ⟨_, Lib.hid rfl⟩
            replace hb : Blk (y5.setCell ⟨g, 3, none⟩ (.int .u64 (bits BinOp.xor IntKind.u64 (wv x5) (wv x4)))).drew g 85 #[.int .u64 (wv x3), .int .u64 (wv x2), .int .u64 (wv x4), .int .u64 (wv x6)] := by rw [H6.out, ← wv_xor]; exact (set4_3 hb _).drew
            replace hg : w.grownBy (y5.setCell ⟨g, 3, none⟩ (.int .u64 (bits BinOp.xor IntKind.u64 (wv x5) (wv x4)))).drew (some g) := only_drew (only_setCell hg (.inl rfl) _)
            clear c0 c1 c2 c3 f0 f1 f2 f3
            revert hb hg
            generalize (y5.setCell ⟨g, 3, none⟩ (.int .u64 (bits BinOp.xor IntKind.u64 (wv x5) (wv x4)))).drew = y6
            intro hb hg
            as_aux_lemma =>
             have c0 : y6.cell? ⟨g, 0, none⟩ = some (.int .u64 (wv x3)) := hb.cell 0
             have f0 : y6.frozen? ⟨g, 0, none⟩ = false := hb.frozen 0
             have c1 : y6.cell? ⟨g, 1, none⟩ = some (.int .u64 (wv x2)) := hb.cell 1
             have f1 : y6.frozen? ⟨g, 1, none⟩ = false := hb.frozen 1
             have c2 : y6.cell? ⟨g, 2, none⟩ = some (.int .u64 (wv x4)) := hb.cell 2
             have f2 : y6.frozen? ⟨g, 2, none⟩ = false := hb.frozen 2
             have c3 : y6.cell? ⟨g, 3, none⟩ = some (.int .u64 (wv x6)) := hb.cell 3
             have f3 : y6.frozen? ⟨g, 3, none⟩ = false := hb.frozen 3
             go_wp2
             go_region
             obtain ⟨x7, H7⟩ : ∃ x, Hid (x = x3 + x6) := ⟨_, Lib.hid rfl⟩
             replace hb : Blk (y6.setCell ⟨g, 0, none⟩ (.int .u64 (IntKind.u64.wrap (wv x3 + wv x6)))).drew g 85 #[.int .u64 (wv x7), .int .u64 (wv x2), .int .u64 (wv x4), .int .u64 (wv x6)] := by rw [H7.out, ← wv_add]; exact (set4_0 hb _).drew
             replace hg : w.grownBy (y6.setCell ⟨g, 0, none⟩ (.int .u64 (IntKind.u64.wrap (wv x3 + wv x6)))).drew (some g) := only_drew (only_setCell hg (.inl rfl) _)
             clear c0 c1 c2 c3 f0 f1 f2 f3
             revert hb hg
             generalize (y6.setCell ⟨g, 0, none⟩ (.int .u64 (IntKind.u64.wrap (wv x3 + wv x6)))).drew = y7
             intro hb hg
             as_aux_lemma =>
              have c0 : y7.cell? ⟨g, 0, none⟩ = some (.int .u64 (wv x7)) := hb.cell 0
              have f0 : y7.frozen? ⟨g, 0, none⟩ = false := hb.frozen 0
              have c1 : y7.cell? ⟨g, 1, none⟩ = some (.int .u64 (wv x2)) := hb.cell 1
              have f1 : y7.frozen? ⟨g, 1, none⟩ = false := hb.frozen 1
              have c2 : y7.cell? ⟨g, 2, none⟩ = some (.int .u64 (wv x4)) := hb.cell 2
              have f2 : y7.frozen? ⟨g, 2, none⟩ = false := hb.frozen 2
              have c3 : y7.cell? ⟨g, 3, none⟩ = some (.int .u64 (wv x6)) := hb.cell 3
              have f3 : y7.frozen? ⟨g, 3, none⟩ = false := hb.frozen 3
              go_wp2_with (go_at_call 64; refine (rot_any _ 21 (by decide) _).mono ?_; rintro e w1 ⟨rfl, rfl⟩)
              obtain ⟨x8, H8⟩ : ∃ x, Hid (x = rotl x6 21) := ⟨_, Lib.hid rfl⟩
              replace hb : Blk (y7.setCell ⟨g, 3, none⟩ (.int .u64 (wv (rotl x6 21)))) g 85 #[.int .u64 (wv x7), .int .u64 (wv x2), .int .u64 (wv x4), .int .u64 (wv x8)] := by rw [H8.out]; exact (set4_3 hb _)
              replace hg : w.grownBy (y7.setCell ⟨g, 3, none⟩ (.int .u64 (wv (rotl x6 21)))) (some g) := (only_setCell hg (.inl rfl) _)
              clear c0 c1 c2 c3 f0 f1 f2 f3
              revert hb hg
              generalize (y7.setCell ⟨g, 3, none⟩ (.int .u64 (wv (rotl x6 21)))) = y8
              intro hb hg
              as_aux_lemma =>
               have c0 : y8.cell? ⟨g, 0, none⟩ = some (.int .u64 (wv x7)) := hb.cell 0
               have f0 : y8.frozen? ⟨g, 0, none⟩ = false := hb.frozen 0
               have c1 : y8.cell? ⟨g, 1, none⟩ = some (.int .u64 (wv x2)) := hb.cell 1
               have f1 : y8.frozen? ⟨g, 1, none⟩ = false := hb.frozen 1
               have c2 : y8.cell? ⟨g, 2, none⟩ = some (.int .u64 (wv x4)) := hb.cell 2
               have f2 : y8.frozen? ⟨g, 2, none⟩ = false := hb.frozen 2
               have c3 : y8.cell? ⟨g, 3, none⟩ = some (.int .u64 (wv x8)) := hb.cell 3
               have f3 : y8.frozen? ⟨g, 3, none⟩ = false := hb.frozen 3
               go_wp2
               go_region
               obtain ⟨x9, H9⟩ : ∃ x, Hid (x = x8 ^^^ x7) := ⟨_, Lib.hid rfl⟩
               replace hb : Blk (y8.setCell ⟨g, 3, none⟩ (.int .u64 (bits BinOp.xor IntKind.u64 (wv x8) (wv x7)))).drew g 85 #[.int .u64 (wv x7), .int .u64 (wv x2), .int .u64 (wv x4), .int .u64 (wv x9)] := by rw [H9.out, ← wv_xor]; exact (set4_3 hb _).drew
               replace hg : w.grownBy (y8.setCell ⟨g, 3, none⟩ (.int .u64 (bits BinOp.xor IntKind.u64 (wv x8) (wv x7)))).drew (some g) := only_drew (only_setCell hg (.inl rfl) _)
               clear c0 c1 c2 c3 f0 f1 f2 f3
               revert hb hg
               generalize (y8.setCell ⟨g, 3, none⟩ (.int .u64 (bits BinOp.xor IntKind.u64 (wv x8) (wv x7)))).drew = y9
               intro hb hg
               as_aux_lemma =>
                have c0 : y9.cell? ⟨g, 0, none⟩ = some (.int .u64 (wv x7)) := hb.cell 0
                have f0 : y9.frozen? ⟨g, 0, none⟩ = false := hb.frozen 0
                have c1 : y9.cell? ⟨g, 1, none⟩ = some (.int .u64 (wv x2)) := hb.cell 1
                have f1 : y9.frozen? ⟨g, 1, none⟩ = false := hb.frozen 1
                have c2 : y9.cell? ⟨g, 2, none⟩ = some (.int .u64 (wv x4)) := hb.cell 2
                have f2 : y9.frozen? ⟨g, 2, none⟩ = false := hb.frozen 2
                have c3 : y9.cell? ⟨g, 3, none⟩ = some (.int .u64 (wv x9)) := hb.cell 3
                have f3 : y9.frozen? ⟨g, 3, none⟩ = false := hb.frozen 3
                go_wp2
                go_region
                obtain ⟨x10, H10⟩ : ∃ x, Hid (x = x4 + x2) := ⟨_, Lib.hid rfl⟩
                replace hb : Blk (y9.setCell ⟨g, 2, none⟩ (.int .u64 (IntKind.u64.wrap (wv x4 + wv x2)))).drew g 85 #[.int .u64 (wv x7), .int .u64 (wv x2), .int .u64 (wv x10), .int .u64 (wv x9)] := by rw [H10.out, ← wv_add]; exact (set4_2 hb _).drew
                replace hg : w.grownBy (y9.setCell ⟨g, 2, none⟩ (.int .u64 (IntKind.u64.wrap (wv x4 + wv x2)))).drew (some g) := only_drew (only_setCell hg (.inl rfl) _)
                clear c0 c1 c2 c3 f0 f1 f2 f3
                revert hb hg
                generalize (y9.setCell ⟨g, 2, none⟩ (.int .u64 (IntKind.u64.wrap (wv x4 + wv x2)))).drew = y10
                intro hb hg
                as_aux_lemma =>
                 have c0 : y10.cell? ⟨g, 0, none⟩ = some (.int .u64 (wv x7)) := hb.cell 0
                 have f0 : y10.frozen? ⟨g, 0, none⟩ = false := hb.frozen 0
                 have c1 : y10.cell? ⟨g, 1, none⟩ = some (.int .u64 (wv x2)) := hb.cell 1
                 have f1 : y10.frozen? ⟨g, 1, none⟩ = false := hb.frozen 1
                 have c2 : y10.cell? ⟨g, 2, none⟩ = some (.int .u64 (wv x10)) := hb.cell 2
                 have f2 : y10.frozen? ⟨g, 2, none⟩ = false := hb.frozen 2
                 have c3 : y10.cell? ⟨g, 3, none⟩ = some (.int .u64 (wv x9)) := hb.cell 3
                 have f3 : y10.frozen? ⟨g, 3, none⟩ = false := hb.frozen 3
                 go_wp2_with (go_at_call 64; refine (rot_any _ 17 (by decide) _).mono ?_; rintro e w1 ⟨rfl, rfl⟩)
                 obtain ⟨x11, H11⟩ : ∃ x, Hid (x = rotl x2 17) := ⟨_, Lib.hid rfl⟩
                 replace hb : Blk (y10.setCell ⟨g, 1, none⟩ (.int .u64 (wv (rotl x2 17)))) g 85 #[.int .u64 (wv x7), .int .u64 (wv x11), .int .u64 (wv x10), .int .u64 (wv x9)] := by rw [H11.out]; exact (set4_1 hb _)
                 replace hg : w.grownBy (y10.setCell ⟨g, 1, none⟩ (.int .u64 (wv (rotl x2 17)))) (some g) := (only_setCell hg (.inl rfl) _)
                 clear c0 c1 c2 c3 f0 f1 f2 f3
                 revert hb hg
                 generalize (y10.setCell ⟨g, 1, none⟩ (.int .u64 (wv (rotl x2 17)))) = y11
                 intro hb hg
                 as_aux_lemma =>
                  have c0 : y11.cell? ⟨g, 0, none⟩ = some (.int .u64 (wv x7)) := hb.cell 0
                  have f0 : y11.frozen? ⟨g, 0, none⟩ = false := hb.frozen 0
                  have c1 : y11.cell? ⟨g, 1, none⟩ = some (.int .u64 (wv x11)) := hb.cell 1
                  have f1 : y11.frozen? ⟨g, 1, none⟩ = false := hb.frozen 1
                  have c2 : y11.cell? ⟨g, 2, none⟩ = some (.int .u64 (wv x10)) := hb.cell 2
                  have f2 : y11.frozen? ⟨g, 2, none⟩ = false := hb.frozen 2
                  have c3 : y11.cell? ⟨g, 3, none⟩ = some (.int .u64 (wv x9)) := hb.cell 3
                  have f3 : y11.frozen? ⟨g, 3, none⟩ = false := hb.frozen 3
                  go_wp2
                  go_region
                  obtain ⟨x12, H12⟩ : ∃ x, Hid (x = x11 ^^^ x10) := ⟨_, Lib.hid rfl⟩
                  replace hb : Blk (y11.setCell ⟨g, 1, none⟩ (.int .u64 (bits BinOp.xor IntKind.u64 (wv x11) (wv x10)))).drew g 85 #[.int .u64 (wv x7), .int .u64 (wv x12), .int .u64 (wv x10), .int .u64 (wv x9)] := by rw [H12.out, ← wv_xor]; exact (set4_1 hb _).drew
                  replace hg : w.grownBy (y11.setCell ⟨g, 1, none⟩ (.int .u64 (bits BinOp.xor IntKind.u64 (wv x11) (wv x10)))).drew (some g) := only_drew (only_setCell hg (.inl rfl) _)
                  clear c0 c1 c2 c3 f0 f1 f2 f3
                  revert hb hg
                  generalize (y11.setCell ⟨g, 1, none⟩ (.int .u64 (bits BinOp.xor IntKind.u64 (wv x11) (wv x10)))).drew = y12
                  intro hb hg
                  as_aux_lemma =>
                   have c0 : y12.cell? ⟨g, 0, none⟩ = some (.int .u64 (wv x7)) := hb.cell 0
                   have f0 : y12.frozen? ⟨g, 0, none⟩ = false := hb.frozen 0
                   have c1 : y12.cell? ⟨g, 1, none⟩ = some (.int .u64 (wv x12)) := hb.cell 1
                   have f1 : y12.frozen? ⟨g, 1, none⟩ = false := hb.frozen 1
                   have c2 : y12.cell? ⟨g, 2, none⟩ = some (.int .u64 (wv x10)) := hb.cell 2
                   have f2 : y12.frozen? ⟨g, 2, none⟩ = false := hb.frozen 2
                   have c3 : y12.cell? ⟨g, 3, none⟩ = some (.int .u64 (wv x9)) := hb.cell 3
                   have f3 : y12.frozen? ⟨g, 3, none⟩ = false := hb.frozen 3
                   go_wp2_with (go_at_call 64; refine (rot_any _ 32 (by decide) _).mono ?_; rintro e w1 ⟨rfl, rfl⟩)
                   obtain ⟨x13, H13⟩ : ∃ x, Hid (x = rotl x10 32) := ⟨_, Lib.hid rfl⟩
                   replace hb : Blk (y12.setCell ⟨g, 2, none⟩ (.int .u64 (wv (rotl x10 32)))) g 85 #[.int .u64 (wv x7), .int .u64 (wv x12), .int .u64 (wv x13), .int .u64 (wv x9)] := by rw [H13.out]; exact (set4_2 hb _)
                   replace hg : w.grownBy (y12.setCell ⟨g, 2, none⟩ (.int .u64 (wv (rotl x10 32)))) (some g) := (only_setCell hg (.inl rfl) _)
                   clear c0 c1 c2 c3 f0 f1 f2 f3
                   revert hb hg
                   generalize (y12.setCell ⟨g, 2, none⟩ (.int .u64 (wv (rotl x10 32)))) = y13
                   intro hb hg
                   as_aux_lemma =>
                    have c0 : y13.cell? ⟨g, 0, none⟩ = some (.int .u64 (wv x7)) := hb.cell 0
                    have f0 : y13.frozen? ⟨g, 0, none⟩ = false := hb.frozen 0
                    have c1 : y13.cell? ⟨g, 1, none⟩ = some (.int .u64 (wv x12)) := hb.cell 1
                    have f1 : y13.frozen? ⟨g, 1, none⟩ = false := hb.frozen 1
                    have c2 : y13.cell? ⟨g, 2, none⟩ = some (.int .u64 (wv x13)) := hb.cell 2
                    have f2 : y13.frozen? ⟨g, 2, none⟩ = false := hb.frozen 2
                    have c3 : y13.cell? ⟨g, 3, none⟩ = some (.int .u64 (wv x9)) := hb.cell 3
                    have f3 : y13.frozen? ⟨g, 3, none⟩ = false := hb.frozen 3
                    go_wp2
                    go_roundw
                    case rel =>
                      refine ⟨k + 1, by omega, by go_num, ?_, hg⟩
                      show Blk _ _ _ (rnd (rnds k s)).cells
                      rw [HS.out]
                      simp only [rnd, St.cells]
                      simp only [H0.out, H1.out, H2.out, H3.out, H4.out, H5.out, H6.out, H7.out, H8.out, H9.out, H10.out, H11.out, H12.out, H13.out] at hb
                      exact hb
                    case measure => simp [intOf]; omega
    · go_wp2
      go_end0
      obtain rfl : k = n := by omega
      exact ⟨rfl, by rw [HS.out]; exact hb, hg⟩
end Go.Proofs.Ytbehdllomepkdaa
