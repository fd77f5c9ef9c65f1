import Derived.Test.YtejpabdmiagnnaaDoorZaV8
import Derived.Test.YtejpabdmiagnnaaDoorZaSh3
set_option linter.all false
namespace Go.Proofs.YtejpabdmiagnnaaDoor
open Go.RowKit
set_option maxRecDepth 100000
set_option maxHeartbeats 4000000
set_option linter.unusedVariables false
abbrev Sh := Int × List UInt8
def chk (first : Nat) : List Bool -> List Sh -> Int
 | _, [] => 0
 | seen, p :: l => if p.1 < 1 ∨ 255 < p.1 then 9 else if seen.getD p.1.toNat false then 10 else if p.2.length ≠ first then 4 else if 64 < p.2.length then 8 else chk first (seen.set p.1.toNat true) l
def chkE (l : List Sh) : Int := chk (l.getD 0 default).2.length (List.replicate 256 false) l
theorem drop_getD {l : List Sh} {i : Nat} (h : i < l.length) : l.drop i = l.getD i default :: l.drop (i + 1) := by
 rw [List.drop_eq_getElem_cons h]; simp [h]
set_option maxRecDepth 100000 in
theorem check_ret (l : List Sh) : Ret Tryd.prog 71 [.sl 2 (encA shareC l)] (ai (chkE l)) := by
 refine Ret.len 0 rfl fun hlen => ?_
 rw [encA_len (e := 2) (fun _ => rfl)] at hlen
 refine Ret.of_fn Tryd.func71 (by kernel_rfl) 41 (by kernel_rfl) (by kernel_rfl) ?_
 refine AWP.regsKX 2 [{}, { hs := [(0, { av := some (AV.arr (boolsA (List.replicate (256 : Nat) false))) })] }] (by kernel_rfl) (C := [[ao false, ao false, ao false, ao false, ao false, ao false, ao false, ao false, ao false, ao false, ao false, ao false, ao false, ao false, ao false, ao false, ao false, ao false, ao false, ao false, ao false, ao false, ao false, ao false, ao false, ao false, ao false, ao false, ao false, ao false, ao false, ao false, ao false, ao false, ao false, ao false, ao false, ao false, ao false, ao false, ao false, ao false, ao false, ao false, ao false, ao false, ao false, ao false, ao false, ao false, ao false, ao false, ao false, ao false, ao false, ao false, ao false, ao false, ao false, ao false, ao false, ao false, ao false, ao false, ao false, ao false, ao false, ao false, ao false, ao false, ao false, ao false, ao false, ao false, ao false, ao false, ao false, ao false, ao false, ao false, ao false, ao false, ao false, ao false, ao false, ao false, ao false, ao false, ao false, ao false, ao false, ao false, ao false, ao false, ao false, ao false, ao false, ao false, ao false, ao false, ao false, ao false, ao false, ao false, ao false, ao false, ao false, ao false, ao false, ao false, ao false, ao false, ao false, ao false, ao false, ao false, ao false, ao false, ao false, ao false, ao false, ao false, ao false, ao false, ao false, ao false, ao false, ao false, ao false, ao false, ao false, ao false, ao false, ao false, ao false, ao false, ao false, ao false, ao false, ao false, ao false, ao false, ao false, ao false, ao false, ao false, ao false, ao false, ao false, ao false, ao false, ao false, ao false, ao false, ao false, ao false, ao false, ao false, ao false, ao false, ao false, ao false, ao false, ao false, ao false, ao false, ao false, ao false, ao false, ao false, ao false, ao false, ao false, ao false, ao false, ao false, ao false, ao false, ao false, ao false, ao false, ao false, ao false, ao false, ao false, ao false, ao false, ao false, ao false, ao false, ao false, ao false, ao false, ao false, ao false, ao false, ao false, ao false, ao false, ao false, ao false, ao false, ao false, ao false, ao false, ao false, ao false, ao false, ao false, ao false, ao false, ao false, ao false, ao false, ao false, ao false, ao false, ao false, ao false, ao false, ao false, ao false, ao false, ao false, ao false, ao false, ao false, ao false, ao false, ao false, ao false, ao false, ao false, ao false, ao false, ao false, ao false, ao false, ao false, ao false, ao false, ao false, ao false, ao false, ao false, ao false, ao false, ao false, ao false, ao false, ao false, ao false, ao false, ao false, ao false, ao false] = boolsA (List.replicate (256 : Nat) false)]) (by kernel_rfl) ⟨rfl, trivial⟩ ?_
 refine AWP.seq (by kernel_rfl) ?_
 refine AWP.regsKX 1 [{ hs := [(1, { k := l.length })] }] (by kernel_rfl) (C := [(encA shareC l).length = l.length * (2 : Nat)]) (by kernel_rfl) ⟨(by simp only [encA_len (f := shareC) (e := 2) (fun _ => rfl)]), trivial⟩ ?_
 refine AWP.block (id := 0) (by kernel_rfl) ?_
 refine AWP.loop (fun (k : Nat × List Bool) => (⟨[(0, AV.sl 2 (encA shareC l)), (3, AV.addr 3 0), (6, AV.sl 2 (encA shareC l)), (7, ai (↑l.length : Int)), (8, ai k.1)], [(3, ⟨1, true, false, boolsA k.2⟩)]⟩ : AS)) (fun k => (k.1 ≤ l.length ∧ k.2.length = 256 ∧ chk (l.getD 0 default).2.length k.2 (l.drop k.1) = chkE l)) (fun k => (l.length - k.1)) (by kernel_rfl) ((0, List.replicate 256 false)) ?_ (Weaks.ofX [.loose 3, .keep [0, 3, 6, 7, 8] [3]] (by kernel_rfl)) ?_
 ·exact ⟨by omega, by simp, rfl⟩
 rintro ⟨i, seen⟩ ⟨hi, hs, hc⟩
 simp only at hi hs hc
 refine AWP.regsKX 1 [{}] (by kernel_rfl) (C := []) (by kernel_rfl) trivial ?_
 refine AWP.seq (by kernel_rfl) ?_
 refine AWP.condD (x := .tmp 9) (p := (↑i : Int) < (↑l.length : Int)) (by kernel_rfl) (by kernel_rfl) (fun h1 => ?_) (fun h1 => ?_)
 ·have hi' : i < l.length := by omega
  rw [drop_getD hi', chk] at hc
  by_cases hr : (l.getD i default).1 < 1
  ·skip
   refine AWP.skip (by kernel_rfl) ?_
   refine then_n ?_
   refine AWP.seq (by kernel_rfl) ?_
   refine AWP.block (id := 1) (by kernel_rfl) ?_
   refine AWP.regsPX 1 [{ hs := [(0, { k := i }), (1, { av := some (AV.agg [ai ((l.getD i default).fst), AV.sl 1 (bytesA (l.getD i default).snd)]) })] }] [.keep [5, 9, 0, 3, 6, 7, 8] [5, 3]] (by kernel_rfl) (C := [(↑i : Int) = (↑i : Int), i * (2 : Nat) < (encA shareC l).length, List.take 2 (List.drop (i * (2 : Nat)) (encA shareC l)) = [ai ((l.getD i default).fst), AV.sl 1 (bytesA (l.getD i default).snd)], [ai ((l.getD i default).fst), AV.sl 1 (bytesA (l.getD i default).snd)].length = (2 : Nat), (2 : Nat) ≤ (2 : Nat)]) (by kernel_rfl) ⟨rfl, (by simp only [encA_len (f := shareC) (e := 2) (fun _ => rfl)]; omega), (encA_sub (f := shareC) (e := 2) (k := i) (j := 0) (fun _ => rfl) (by omega) (by decide) rfl), rfl, (by omega), trivial⟩ ?_
   refine AWP.seq (by kernel_rfl) ?_
   refine AWP.regsPX 1 [{}] [.keep [19, 5, 9, 0, 3, 6, 7, 8] [5, 3]] (by kernel_rfl) (C := [decide ((l.getD i default).fst < 1) = true, decide ((l.getD i default).fst < 1) = true, decide ((l.getD i default).fst < 1) = true, decide ((l.getD i default).fst < 1) = true]) (by kernel_rfl) ⟨(decide_eq_true (by omega)), (decide_eq_true (by omega)), (decide_eq_true (by omega)), (decide_eq_true (by omega)), trivial⟩ ?_
   refine AWP.condT (x := .tmp 19) (b := true) (by kernel_rfl) (by kernel_rfl) rfl ?_
   refine AWP.regsKX 1 [{}] (by kernel_rfl) (C := []) (by kernel_rfl) trivial ?_
   refine AWP.ret (by kernel_rfl) ?_
   refine then_r ?_
   refine inb_r ?_
   refine then_r ?_
   refine round_r ?_
   refine inb_r ?_
   refine then_r ?_
   refine Done.ret_ (C := [Value.int .i64 9 = Value.int .i64 (chkE l)]) (by kernel_rfl) ⟨(by rw [← hc, if_pos (Or.inl hr)]), trivial⟩
  by_cases hr2 : 255 < (l.getD i default).1
  ·skip
   refine AWP.skip (by kernel_rfl) ?_
   refine then_n ?_
   refine AWP.seq (by kernel_rfl) ?_
   refine AWP.block (id := 1) (by kernel_rfl) ?_
   refine AWP.regsPX 1 [{ hs := [(0, { k := i }), (1, { av := some (AV.agg [ai ((l.getD i default).fst), AV.sl 1 (bytesA (l.getD i default).snd)]) })] }] [.keep [5, 9, 0, 3, 6, 7, 8] [5, 3]] (by kernel_rfl) (C := [(↑i : Int) = (↑i : Int), i * (2 : Nat) < (encA shareC l).length, List.take 2 (List.drop (i * (2 : Nat)) (encA shareC l)) = [ai ((l.getD i default).fst), AV.sl 1 (bytesA (l.getD i default).snd)], [ai ((l.getD i default).fst), AV.sl 1 (bytesA (l.getD i default).snd)].length = (2 : Nat), (2 : Nat) ≤ (2 : Nat)]) (by kernel_rfl) ⟨rfl, (by simp only [encA_len (f := shareC) (e := 2) (fun _ => rfl)]; omega), (encA_sub (f := shareC) (e := 2) (k := i) (j := 0) (fun _ => rfl) (by omega) (by decide) rfl), rfl, (by omega), trivial⟩ ?_
   refine AWP.seq (by kernel_rfl) ?_
   refine AWP.regsPX 1 [{ hs := [(4, { g := false }), (5, { g := false }), (6, { g := false }), (7, { b := false })] }] [.keep [19, 5, 9, 0, 3, 6, 7, 8] [5, 3]] (by kernel_rfl) (C := [decide ((l.getD i default).fst < 1) = false, decide ((l.getD i default).fst < 1) = false, decide ((l.getD i default).fst < 1) = false, decide ((l.getD i default).fst < 1) = false]) (by kernel_rfl) ⟨(decide_eq_false (by omega)), (decide_eq_false (by omega)), (decide_eq_false (by omega)), (decide_eq_false (by omega)), trivial⟩ ?_
   refine AWP.condT (x := .tmp 19) (b := decide ((l.getD i default).fst > 255)) (by kernel_rfl) (by kernel_rfl) (decide_eq_true (by omega)) ?_
   refine AWP.regsKX 1 [{}] (by kernel_rfl) (C := []) (by kernel_rfl) trivial ?_
   refine AWP.ret (by kernel_rfl) ?_
   refine then_r ?_
   refine inb_r ?_
   refine then_r ?_
   refine round_r ?_
   refine inb_r ?_
   refine then_r ?_
   refine Done.ret_ (C := [Value.int .i64 9 = Value.int .i64 (chkE l)]) (by kernel_rfl) ⟨(by rw [← hc, if_pos (Or.inr hr2)]), trivial⟩
  rw [if_neg (by omega)] at hc
  refine AWP.skip (by kernel_rfl) ?_
  refine then_n ?_
  refine AWP.seq (by kernel_rfl) ?_
  refine AWP.block (id := 1) (by kernel_rfl) ?_
  refine AWP.regsPX 1 [{ hs := [(0, { k := i }), (1, { av := some (AV.agg [ai ((l.getD i default).fst), AV.sl 1 (bytesA (l.getD i default).snd)]) })] }] [.keep [5, 9, 0, 3, 6, 7, 8] [5, 3]] (by kernel_rfl) (C := [(↑i : Int) = (↑i : Int), i * (2 : Nat) < (encA shareC l).length, List.take 2 (List.drop (i * (2 : Nat)) (encA shareC l)) = [ai ((l.getD i default).fst), AV.sl 1 (bytesA (l.getD i default).snd)], [ai ((l.getD i default).fst), AV.sl 1 (bytesA (l.getD i default).snd)].length = (2 : Nat), (2 : Nat) ≤ (2 : Nat)]) (by kernel_rfl) ⟨rfl, (by simp only [encA_len (f := shareC) (e := 2) (fun _ => rfl)]; omega), (encA_sub (f := shareC) (e := 2) (k := i) (j := 0) (fun _ => rfl) (by omega) (by decide) rfl), rfl, (by omega), trivial⟩ ?_
  refine AWP.seq (by kernel_rfl) ?_
  refine AWP.regsPX 1 [{ hs := [(4, { g := false }), (5, { g := false }), (6, { g := false }), (7, { b := false })] }] [.keep [19, 5, 9, 0, 3, 6, 7, 8] [5, 3]] (by kernel_rfl) (C := [decide ((l.getD i default).fst < 1) = false, decide ((l.getD i default).fst < 1) = false, decide ((l.getD i default).fst < 1) = false, decide ((l.getD i default).fst < 1) = false]) (by kernel_rfl) ⟨(decide_eq_false (by omega)), (decide_eq_false (by omega)), (decide_eq_false (by omega)), (decide_eq_false (by omega)), trivial⟩ ?_
  refine AWP.condF (x := .tmp 19) (b := decide ((l.getD i default).fst > 255)) (by kernel_rfl) (by kernel_rfl) (decide_eq_false (by omega)) ?_
  refine AWP.skip (by kernel_rfl) ?_
  refine then_n ?_
  refine AWP.seq (by kernel_rfl) ?_
  refine AWP.regsPX 1 [{ hs := [(2, { k := (l.getD i default).fst.toNat }), (3, { av := some (ao (seen.getD (l.getD i default).fst.toNat false)) })] }] [.keep [23, 19, 5, 9, 0, 3, 6, 7, 8] [5, 3]] (by kernel_rfl) (C := [(l.getD i default).fst = (↑(l.getD i default).fst.toNat : Int), (l.getD i default).fst.toNat < (256 : Nat), (boolsA seen)[(l.getD i default).fst.toNat]? = some (ao (seen.getD (l.getD i default).fst.toNat false))]) (by kernel_rfl) ⟨(by omega), (by omega), (boolsA_at (by omega)), trivial⟩ ?_
  refine AWP.cond (x := .tmp 23) (b := seen.getD (l.getD i default).fst.toNat false) (by kernel_rfl) (by kernel_rfl) (fun h4 => ?_) (fun h4 => ?_)
  ·skip
   refine AWP.regsKX 1 [{}] (by kernel_rfl) (C := []) (by kernel_rfl) trivial ?_
   refine AWP.ret (by kernel_rfl) ?_
   refine then_r ?_
   refine inb_r ?_
   refine then_r ?_
   refine round_r ?_
   refine inb_r ?_
   refine then_r ?_
   refine Done.ret_ (C := [Value.int .i64 10 = Value.int .i64 (chkE l)]) (by kernel_rfl) ⟨(by rw [← hc, if_pos h4]), trivial⟩
  rw [h4, if_neg (by decide)] at hc
  refine AWP.skip (by kernel_rfl) ?_
  refine then_n ?_
  refine AWP.regsPX 1 [{ hs := [(2, { k := (l.getD i default).fst.toNat }), (3, { av := some (AV.arr (boolsA (seen.set (l.getD i default).fst.toNat true))) })] }] [.keep [23, 19, 5, 9, 0, 3, 6, 7, 8] [3, 5]] (by kernel_rfl) (C := [(l.getD i default).fst = (↑(l.getD i default).fst.toNat : Int), (l.getD i default).fst.toNat < (256 : Nat), (boolsA seen).set (l.getD i default).fst.toNat (ao true) = boolsA (seen.set (l.getD i default).fst.toNat true), (l.getD i default).fst.toNat + (1 : Nat) ≤ (boolsA seen).length]) (by kernel_rfl) ⟨(by omega), (by omega), (boolsA_set _ _ _), (by simp only [boolsA_len]; omega), trivial⟩ ?_
  refine AWP.seq (by kernel_rfl) ?_
  refine AWP.regsPX 1 [{ hs := [(2, { k := (l.getD i default).snd.length }), (4, { k := 0 }), (6, { av := some (AV.sl 1 (bytesA (l.getD (0 : Nat) default).snd)) }), (7, { k := (l.getD (0 : Nat) default).snd.length })], T := 8 }] [.keep [35, 23, 19, 5, 9, 0, 3, 6, 7, 8] [3, 5]] (by kernel_rfl) (C := [(bytesA (l.getD i default).snd).length = (l.getD i default).snd.length, (0 : Int) = (↑(0 : Nat) : Int), (0 : Nat) < (encA shareC l).length, (encA shareC l)[(1 : Nat)]? = some (AV.sl 1 (bytesA (l.getD (0 : Nat) default).snd)), (bytesA (l.getD (0 : Nat) default).snd).length = (l.getD (0 : Nat) default).snd.length]) (by kernel_rfl) ⟨(bytesA_len _), rfl, (by simp only [encA_len (f := shareC) (e := 2) (fun _ => rfl)]; omega), (encA_at (f := shareC) (e := 2) (k := 0) (j := 1) (fun _ => rfl) (by omega) rfl), (bytesA_len _), trivial⟩ ?_
  refine AWP.condN (x := .tmp 35) (u := (↑(l.getD i default).snd.length : Int)) (v := (↑(l.getD (0 : Nat) default).snd.length : Int)) (by kernel_rfl) (by kernel_rfl) (fun h5 => ?_) (fun h5 => ?_)
  ·rw [if_pos (by omega)] at hc
   refine AWP.regsKX 1 [{}] (by kernel_rfl) (C := []) (by kernel_rfl) trivial ?_
   refine AWP.ret (by kernel_rfl) ?_
   refine then_r ?_
   refine inb_r ?_
   refine then_r ?_
   refine round_r ?_
   refine inb_r ?_
   refine then_r ?_
   refine Done.ret_ (C := [Value.int .i64 4 = Value.int .i64 (chkE l)]) (by kernel_rfl) ⟨(by rw [← hc]), trivial⟩
  rw [if_neg (by omega)] at hc
  refine AWP.skip (by kernel_rfl) ?_
  refine then_n ?_
  refine AWP.regsPX 1 [{ hs := [(2, { k := (l.getD i default).snd.length })] }] [.keep [39, 35, 23, 19, 5, 9, 0, 3, 6, 7, 8] [3, 5]] (by kernel_rfl) (C := [(bytesA (l.getD i default).snd).length = (l.getD i default).snd.length]) (by kernel_rfl) ⟨(bytesA_len _), trivial⟩ ?_
  refine AWP.condD (x := .tmp 39) (p := (↑(l.getD i default).snd.length : Int) > 64) (by kernel_rfl) (by kernel_rfl) (fun h6 => ?_) (fun h6 => ?_)
  ·rw [if_pos (by omega)] at hc
   refine AWP.regsKX 1 [{}] (by kernel_rfl) (C := []) (by kernel_rfl) trivial ?_
   refine AWP.ret (by kernel_rfl) ?_
   refine inb_r ?_
   refine then_r ?_
   refine round_r ?_
   refine inb_r ?_
   refine then_r ?_
   refine Done.ret_ (C := [Value.int .i64 8 = Value.int .i64 (chkE l)]) (by kernel_rfl) ⟨(by rw [← hc]), trivial⟩
  rw [if_neg (by omega)] at hc
  refine AWP.skip (by kernel_rfl) ?_
  refine inb_n ?_
  refine then_n ?_
  refine AWP.regX { hs := [(0, { av := some (ai ((↑i : Int) + 1)) })] } (C := [ai (IntKind.i64.wrap ((↑i : Int) + 1)) = ai ((↑i : Int) + 1)]) (by kernel_rfl) ⟨(av_i64 (by omega) (by omega)), trivial⟩ ?_
  refine round_n (i + 1, seen.set (l.getD i default).1.toNat true) ⟨by omega, by simpa using hs, hc⟩ (by omega) (Weaks.ofX [.keep [0, 3, 6, 7, 8] [3]] (by kernel_rfl))
 ·have e : i = l.length := by omega
  subst e
  refine AWP.exit (id := 0) (by kernel_rfl) ?_
  refine then_e ?_
  refine round_e ?_
  refine inb_e ?_
  refine then_n ?_
  refine AWP.regsKX 1 [{}] (by kernel_rfl) (C := []) (by kernel_rfl) trivial ?_
  refine AWP.ret (by kernel_rfl) ?_
  refine Done.ret_ (C := [Value.int .i64 0 = Value.int .i64 (chkE l)]) (by kernel_rfl) ⟨(by rw [← hc, List.drop_length]; rfl), trivial⟩
end Go.Proofs.YtejpabdmiagnnaaDoor
