import Derived.Test.YtejpabdmiagnnaaDoorZaV8
import Derived.Test.YtejpabdmiagnnaaDoorZaSh6
set_option linter.all false
namespace Go.Proofs.YtejpabdmiagnnaaDoor
open Go.RowKit
set_option maxRecDepth 100000
set_option maxHeartbeats 4000000
set_option linter.unusedVariables false
theorem refsplit_raw (secret rnd : List UInt8) (need n : Int) : Ret Tryd.prog 42 [.sl 1 (bytesA secret), .sl 1 (bytesA rnd), ai need, ai n] (.tup [.own 2 (encA shareC (rsplitL secret rnd need n)), ai (splitE secret rnd need n)]) := by
 refine Ret.of_fn Tryd.func42 (by kernel_rfl) 91 (by kernel_rfl) (by kernel_rfl) ?_
 by_cases hl : 64 < secret.length
 ·have e1 : splitE secret rnd need n = 8 := by simp [splitE, hl]
  refine AWP.regsKX 1 [{}] (by kernel_rfl) (C := []) (by kernel_rfl) trivial ?_
  refine AWP.seq (by kernel_rfl) ?_
  refine AWP.block (id := 0) (by kernel_rfl) ?_
  refine AWP.regsPX 1 [{ hs := [(1, { k := secret.length })] }] [.keep [17, 9, 8, 0, 1, 2, 3] []] (by kernel_rfl) (C := [(bytesA secret).length = secret.length]) (by kernel_rfl) ⟨(bytesA_len _), trivial⟩ ?_
  refine AWP.condT (x := .tmp 17) (b := decide ((↑secret.length : Int) > 64)) (by kernel_rfl) (by kernel_rfl) (decide_eq_true (by omega)) ?_
  refine AWP.regsKX 1 [{}] (by kernel_rfl) (C := []) (by kernel_rfl) trivial ?_
  refine AWP.ret (by kernel_rfl) ?_
  refine inb_r ?_
  refine then_r ?_
  refine Done.ret_ (C := [encA shareC (rsplitL secret rnd need n) = [], Value.int .i64 8 = Value.int .i64 (splitE secret rnd need n)]) (by kernel_rfl) ⟨(by rw [rsplitL, e1]; rfl), (by rw [e1]), trivial⟩
 by_cases h1 : need < 1
 ·have e1 : splitE secret rnd need n = 9 := by simp [splitE, hl, h1]
  refine AWP.regsKX 1 [{}] (by kernel_rfl) (C := []) (by kernel_rfl) trivial ?_
  refine AWP.seq (by kernel_rfl) ?_
  refine AWP.block (id := 0) (by kernel_rfl) ?_
  refine AWP.regsPX 1 [{ hs := [(1, { k := secret.length })] }] [.keep [17, 9, 8, 0, 1, 2, 3] []] (by kernel_rfl) (C := [(bytesA secret).length = secret.length]) (by kernel_rfl) ⟨(bytesA_len _), trivial⟩ ?_
  refine AWP.condF (x := .tmp 17) (b := decide ((↑secret.length : Int) > 64)) (by kernel_rfl) (by kernel_rfl) (decide_eq_false (by omega)) ?_
  refine AWP.regsPX 1 [{}] [.keep [21, 17, 9, 8, 0, 1, 2, 3] []] (by kernel_rfl) (C := [decide (need < 1) = true, decide (need < 1) = true, decide (need < 1) = true, decide (need < 1) = true, true = true, true = true, true = true]) (by kernel_rfl) ⟨(decide_eq_true (by omega)), (decide_eq_true (by omega)), (decide_eq_true (by omega)), (decide_eq_true (by omega)), rfl, rfl, rfl, trivial⟩ ?_
  refine AWP.condT (x := .tmp 21) (b := true) (by kernel_rfl) (by kernel_rfl) rfl ?_
  refine AWP.regsKX 1 [{}] (by kernel_rfl) (C := []) (by kernel_rfl) trivial ?_
  refine AWP.ret (by kernel_rfl) ?_
  refine inb_r ?_
  refine then_r ?_
  refine Done.ret_ (C := [encA shareC (rsplitL secret rnd need n) = [], Value.int .i64 9 = Value.int .i64 (splitE secret rnd need n)]) (by kernel_rfl) ⟨(by rw [rsplitL, e1]; rfl), (by rw [e1]), trivial⟩
 by_cases h2 : n < need
 ·have e1 : splitE secret rnd need n = 9 := by simp [splitE, hl, h2]
  refine AWP.regsKX 1 [{}] (by kernel_rfl) (C := []) (by kernel_rfl) trivial ?_
  refine AWP.seq (by kernel_rfl) ?_
  refine AWP.block (id := 0) (by kernel_rfl) ?_
  refine AWP.regsPX 1 [{ hs := [(1, { k := secret.length })] }] [.keep [17, 9, 8, 0, 1, 2, 3] []] (by kernel_rfl) (C := [(bytesA secret).length = secret.length]) (by kernel_rfl) ⟨(bytesA_len _), trivial⟩ ?_
  refine AWP.condF (x := .tmp 17) (b := decide ((↑secret.length : Int) > 64)) (by kernel_rfl) (by kernel_rfl) (decide_eq_false (by omega)) ?_
  refine AWP.regsPX 1 [{ hs := [(3, { g := false }), (4, { g := false }), (5, { g := false }), (6, { b := false })] }] [.keep [21, 17, 9, 8, 0, 1, 2, 3] []] (by kernel_rfl) (C := [decide (need < 1) = false, decide (need < 1) = false, decide (need < 1) = false, decide (need < 1) = false, decide (n < need) = true, decide (n < need) = true, decide (n < need) = true]) (by kernel_rfl) ⟨(decide_eq_false (by omega)), (decide_eq_false (by omega)), (decide_eq_false (by omega)), (decide_eq_false (by omega)), (decide_eq_true (by omega)), (decide_eq_true (by omega)), (decide_eq_true (by omega)), trivial⟩ ?_
  refine AWP.condT (x := .tmp 21) (b := true) (by kernel_rfl) (by kernel_rfl) rfl ?_
  refine AWP.regsKX 1 [{}] (by kernel_rfl) (C := []) (by kernel_rfl) trivial ?_
  refine AWP.ret (by kernel_rfl) ?_
  refine inb_r ?_
  refine then_r ?_
  refine Done.ret_ (C := [encA shareC (rsplitL secret rnd need n) = [], Value.int .i64 9 = Value.int .i64 (splitE secret rnd need n)]) (by kernel_rfl) ⟨(by rw [rsplitL, e1]; rfl), (by rw [e1]), trivial⟩
 by_cases h3 : 255 < n
 ·have e1 : splitE secret rnd need n = 9 := by simp [splitE, hl, h3]
  refine AWP.regsKX 1 [{}] (by kernel_rfl) (C := []) (by kernel_rfl) trivial ?_
  refine AWP.seq (by kernel_rfl) ?_
  refine AWP.block (id := 0) (by kernel_rfl) ?_
  refine AWP.regsPX 1 [{ hs := [(1, { k := secret.length })] }] [.keep [17, 9, 8, 0, 1, 2, 3] []] (by kernel_rfl) (C := [(bytesA secret).length = secret.length]) (by kernel_rfl) ⟨(bytesA_len _), trivial⟩ ?_
  refine AWP.condF (x := .tmp 17) (b := decide ((↑secret.length : Int) > 64)) (by kernel_rfl) (by kernel_rfl) (decide_eq_false (by omega)) ?_
  refine AWP.regsPX 1 [{ hs := [(3, { g := false }), (4, { g := false }), (5, { g := false }), (6, { b := false }), (8, { g := false }), (9, { g := false }), (10, { b := false })] }] [.keep [21, 17, 9, 8, 0, 1, 2, 3] []] (by kernel_rfl) (C := [decide (need < 1) = false, decide (need < 1) = false, decide (need < 1) = false, decide (need < 1) = false, decide (n < need) = false, decide (n < need) = false, decide (n < need) = false]) (by kernel_rfl) ⟨(decide_eq_false (by omega)), (decide_eq_false (by omega)), (decide_eq_false (by omega)), (decide_eq_false (by omega)), (decide_eq_false (by omega)), (decide_eq_false (by omega)), (decide_eq_false (by omega)), trivial⟩ ?_
  refine AWP.condT (x := .tmp 21) (b := decide (n > 255)) (by kernel_rfl) (by kernel_rfl) (decide_eq_true (by omega)) ?_
  refine AWP.regsKX 1 [{}] (by kernel_rfl) (C := []) (by kernel_rfl) trivial ?_
  refine AWP.ret (by kernel_rfl) ?_
  refine inb_r ?_
  refine then_r ?_
  refine Done.ret_ (C := [encA shareC (rsplitL secret rnd need n) = [], Value.int .i64 9 = Value.int .i64 (splitE secret rnd need n)]) (by kernel_rfl) ⟨(by rw [rsplitL, e1]; rfl), (by rw [e1]), trivial⟩
 obtain ⟨N, rfl⟩ := Int.eq_ofNat_of_zero_le (by omega : 0 ≤ need)
 obtain ⟨M, rfl⟩ := Int.eq_ofNat_of_zero_le (by omega : 0 ≤ n)
 have hp : ((N : Int) - 1) * secret.length ≤ 254 * 64 := Int.mul_le_mul (by omega) (by omega) (by omega) (by omega)
 have hp0 : 0 ≤ ((N : Int) - 1) * secret.length := Int.mul_nonneg (by omega) (by omega)
 by_cases h4 : (rnd.length : Int) < ((N : Int) - 1) * secret.length
 ·have e1 : splitE secret rnd N M = 1 := by simp [splitE, hl, h1, h2, h3, h4]
  refine AWP.regsKX 1 [{}] (by kernel_rfl) (C := []) (by kernel_rfl) trivial ?_
  refine AWP.seq (by kernel_rfl) ?_
  refine AWP.block (id := 0) (by kernel_rfl) ?_
  refine AWP.regsPX 1 [{ hs := [(1, { k := secret.length })] }] [.keep [17, 9, 8, 0, 1, 2, 3] []] (by kernel_rfl) (C := [(bytesA secret).length = secret.length]) (by kernel_rfl) ⟨(bytesA_len _), trivial⟩ ?_
  refine AWP.condF (x := .tmp 17) (b := decide ((↑secret.length : Int) > 64)) (by kernel_rfl) (by kernel_rfl) (decide_eq_false (by omega)) ?_
  refine AWP.regsPX 1 [{ hs := [(3, { g := false }), (4, { g := false }), (5, { g := false }), (6, { b := false }), (8, { g := false }), (9, { g := false }), (10, { b := false })] }] [.keep [21, 17, 9, 8, 0, 1, 2, 3] []] (by kernel_rfl) (C := [decide ((↑N : Int) < 1) = false, decide ((↑N : Int) < 1) = false, decide ((↑N : Int) < 1) = false, decide ((↑N : Int) < 1) = false, decide ((↑M : Int) < (↑N : Int)) = false, decide ((↑M : Int) < (↑N : Int)) = false, decide ((↑M : Int) < (↑N : Int)) = false]) (by kernel_rfl) ⟨(decide_eq_false (by omega)), (decide_eq_false (by omega)), (decide_eq_false (by omega)), (decide_eq_false (by omega)), (decide_eq_false (by omega)), (decide_eq_false (by omega)), (decide_eq_false (by omega)), trivial⟩ ?_
  refine AWP.condF (x := .tmp 21) (b := decide ((↑M : Int) > 255)) (by kernel_rfl) (by kernel_rfl) (decide_eq_false (by omega)) ?_
  refine AWP.regsPX 1 [{ hs := [(1, { k := rnd.length }), (3, { av := some (ai ((↑N : Int) - 1)) }), (5, { k := secret.length }), (6, { av := some (ai (((↑N : Int) - 1) * (↑secret.length : Int))) })] }] [.keep [33, 21, 17, 9, 8, 0, 1, 2, 3] []] (by kernel_rfl) (C := [(bytesA rnd).length = rnd.length, ai (IntKind.i64.wrap ((↑N : Int) - 1)) = ai ((↑N : Int) - 1), (bytesA secret).length = secret.length, ai (IntKind.i64.wrap (((↑N : Int) - 1) * (↑secret.length : Int))) = ai (((↑N : Int) - 1) * (↑secret.length : Int))]) (by kernel_rfl) ⟨(bytesA_len _), (av_i64 (by omega) (by omega)), (bytesA_len _), (av_i64 (by omega) (by omega)), trivial⟩ ?_
  refine AWP.condT (x := .tmp 33) (b := decide ((↑rnd.length : Int) < ((↑N : Int) - 1) * (↑secret.length : Int))) (by kernel_rfl) (by kernel_rfl) (decide_eq_true (by omega)) ?_
  refine AWP.regsKX 1 [{}] (by kernel_rfl) (C := []) (by kernel_rfl) trivial ?_
  refine AWP.ret (by kernel_rfl) ?_
  refine inb_r ?_
  refine then_r ?_
  refine Done.ret_ (C := [encA shareC (rsplitL secret rnd (↑N : Int) (↑M : Int)) = [], Value.int .i64 1 = Value.int .i64 (splitE secret rnd (↑N : Int) (↑M : Int))]) (by kernel_rfl) ⟨(by rw [rsplitL, e1]; rfl), (by rw [e1]), trivial⟩
 have e0 : splitE secret rnd N M = 0 := by simp [splitE, hl, h1, h2, h3, h4]
 refine AWP.regsKX 1 [{}] (by kernel_rfl) (C := []) (by kernel_rfl) trivial ?_
 refine AWP.seq (by kernel_rfl) ?_
 refine AWP.block (id := 0) (by kernel_rfl) ?_
 refine AWP.regsPX 1 [{ hs := [(1, { k := secret.length })] }] [.keep [17, 9, 8, 0, 1, 2, 3] []] (by kernel_rfl) (C := [(bytesA secret).length = secret.length]) (by kernel_rfl) ⟨(bytesA_len _), trivial⟩ ?_
 refine AWP.condF (x := .tmp 17) (b := decide ((↑secret.length : Int) > 64)) (by kernel_rfl) (by kernel_rfl) (decide_eq_false (by omega)) ?_
 refine AWP.regsPX 1 [{ hs := [(3, { g := false }), (4, { g := false }), (5, { g := false }), (6, { b := false }), (8, { g := false }), (9, { g := false }), (10, { b := false })] }] [.keep [21, 17, 9, 8, 0, 1, 2, 3] []] (by kernel_rfl) (C := [decide ((↑N : Int) < 1) = false, decide ((↑N : Int) < 1) = false, decide ((↑N : Int) < 1) = false, decide ((↑N : Int) < 1) = false, decide ((↑M : Int) < (↑N : Int)) = false, decide ((↑M : Int) < (↑N : Int)) = false, decide ((↑M : Int) < (↑N : Int)) = false]) (by kernel_rfl) ⟨(decide_eq_false (by omega)), (decide_eq_false (by omega)), (decide_eq_false (by omega)), (decide_eq_false (by omega)), (decide_eq_false (by omega)), (decide_eq_false (by omega)), (decide_eq_false (by omega)), trivial⟩ ?_
 refine AWP.condF (x := .tmp 21) (b := decide ((↑M : Int) > 255)) (by kernel_rfl) (by kernel_rfl) (decide_eq_false (by omega)) ?_
 refine AWP.regsPX 1 [{ hs := [(1, { k := rnd.length }), (3, { av := some (ai ((↑N : Int) - 1)) }), (5, { k := secret.length }), (6, { av := some (ai (((↑N : Int) - 1) * (↑secret.length : Int))) })] }] [.keep [33, 21, 17, 9, 8, 0, 1, 2, 3] []] (by kernel_rfl) (C := [(bytesA rnd).length = rnd.length, ai (IntKind.i64.wrap ((↑N : Int) - 1)) = ai ((↑N : Int) - 1), (bytesA secret).length = secret.length, ai (IntKind.i64.wrap (((↑N : Int) - 1) * (↑secret.length : Int))) = ai (((↑N : Int) - 1) * (↑secret.length : Int))]) (by kernel_rfl) ⟨(bytesA_len _), (av_i64 (by omega) (by omega)), (bytesA_len _), (av_i64 (by omega) (by omega)), trivial⟩ ?_
 refine AWP.condF (x := .tmp 33) (b := decide ((↑rnd.length : Int) < ((↑N : Int) - 1) * (↑secret.length : Int))) (by kernel_rfl) (by kernel_rfl) (decide_eq_false (by omega)) ?_
 refine AWP.skip (by kernel_rfl) ?_
 refine inb_n ?_
 refine then_n ?_
 refine AWP.regsKX 1 [{}] (by kernel_rfl) (C := []) (by kernel_rfl) trivial ?_
 refine AWP.seq (by kernel_rfl) ?_
 refine AWP.regsKX 1 [{}] (by kernel_rfl) (C := []) (by kernel_rfl) trivial ?_
 refine AWP.block (id := 1) (by kernel_rfl) ?_
 refine AWP.loop (fun (i : Nat) => (⟨[(0, AV.sl 1 (bytesA secret)), (1, AV.sl 1 (bytesA rnd)), (2, ai (↑N : Int)), (3, ai (↑M : Int)), (10, AV.ref 89), (11, ai ((i : Int) + 1))], [(89, ⟨2, true, false, encA shareC ((List.range i).map (rsplitS secret rnd N))⟩)]⟩ : AS)) (fun i => (i ≤ M)) (fun i => (M - i)) (by kernel_rfl) (0) ?_ (Weaks.of [.nil 10 89 2, .keep [0, 1, 2, 3, 10, 11] [89]] (s1 := AS.mk [(0, AV.sl 1 (bytesA secret)), (1, AV.sl 1 (bytesA rnd)), (2, ai (↑N : Int)), (3, ai (↑M : Int)), (10, AV.ref 89), (11, ai 1)] [(89, Row.mk 2 true false [])]) (by kernel_rfl) (as_eq (f_cons rfl (f_cons rfl (f_cons rfl (f_cons rfl (f_cons rfl (f_cons (by simp) rfl)))))) (h_cons rfl rfl))) ?_
 ·omega
 intro i hi
 refine AWP.seq (by kernel_rfl) ?_
 refine AWP.regsPX 1 [{}] [.keep [44, 0, 1, 2, 3, 10, 11] [89]] (by kernel_rfl) (C := []) (by kernel_rfl) trivial ?_
 refine AWP.condD (x := .tmp 44) (p := (↑i : Int) + 1 ≤ (↑M : Int)) (by kernel_rfl) (by kernel_rfl) (fun hc => ?_) (fun hc => ?_)
 ·skip
  refine AWP.skip (by kernel_rfl) ?_
  refine then_n ?_
  refine AWP.seq (by kernel_rfl) ?_
  refine AWP.block (id := 2) (by kernel_rfl) ?_
  refine AWP.regsKX 1 [{}] (by kernel_rfl) (C := []) (by kernel_rfl) trivial ?_
  refine AWP.seq (by kernel_rfl) ?_
  refine AWP.regsKX 1 [{}] (by kernel_rfl) (C := []) (by kernel_rfl) trivial ?_
  refine AWP.block (id := 3) (by kernel_rfl) ?_
  refine AWP.loop (fun (j : Nat) => (⟨[(0, AV.sl 1 (bytesA secret)), (1, AV.sl 1 (bytesA rnd)), (2, ai (↑N : Int)), (3, ai (↑M : Int)), (10, AV.ref 89), (11, ai ((↑i : Int) + 1)), (12, AV.ref 83), (13, ai j)], [(89, ⟨2, true, false, encA shareC (List.map (rsplitS secret rnd N) (List.range i))⟩), (83, ⟨1, true, false, bytesA ((List.range j).map (rsplitB secret rnd N (u8 (i + 1))))⟩)]⟩ : AS)) (fun j => (j ≤ secret.length)) (fun j => (secret.length - j)) (by kernel_rfl) (0) ?_ (Weaks.of [.nil 12 83 1, .keep [0, 1, 2, 3, 10, 11, 12, 13] [89, 83]] (s1 := AS.mk [(0, AV.sl 1 (bytesA secret)), (1, AV.sl 1 (bytesA rnd)), (2, ai (↑N : Int)), (3, ai (↑M : Int)), (10, AV.ref 89), (11, ai ((↑i : Int) + 1)), (12, AV.ref 83), (13, ai 0)] [(89, Row.mk 2 true false (encA shareC (List.map (rsplitS secret rnd N) (List.range i)))), (83, Row.mk 1 true false [])]) (by kernel_rfl) (as_eq (f_cons rfl (f_cons rfl (f_cons rfl (f_cons rfl (f_cons rfl (f_cons rfl (f_cons rfl (f_cons (by simp) rfl)))))))) (h_cons rfl (h_cons rfl rfl)))) ?_
  ·omega
  intro j hj
  refine AWP.seq (by kernel_rfl) ?_
  refine AWP.regsPX 1 [{ hs := [(2, { k := secret.length })] }] [.keep [50, 0, 1, 2, 3, 10, 11, 12, 13] [89, 83]] (by kernel_rfl) (C := [(bytesA secret).length = secret.length]) (by kernel_rfl) ⟨(bytesA_len _), trivial⟩ ?_
  refine AWP.condD (x := .tmp 50) (p := (↑j : Int) < (↑secret.length : Int)) (by kernel_rfl) (by kernel_rfl) (fun h5 => ?_) (fun h5 => ?_)
  ·skip
   refine AWP.skip (by kernel_rfl) ?_
   refine then_n ?_
   refine AWP.seq (by kernel_rfl) ?_
   refine AWP.block (id := 4) (by kernel_rfl) ?_
   refine AWP.regsPX 1 [{ hs := [(2, { k := j }), (3, { av := some (ab (secret.getD j 0)) })] }] [.keep [15, 14, 50, 0, 1, 2, 3, 10, 11, 12, 13] [89, 83]] (by kernel_rfl) (C := [(↑j : Int) = (↑j : Int), j < (bytesA secret).length, (bytesA secret)[j]? = some (ab (secret.getD j 0))]) (by kernel_rfl) ⟨rfl, (by simp only [bytesA_len]; omega), (bytesA_at (by omega)), trivial⟩ ?_
   refine AWP.seq (by kernel_rfl) ?_
   refine AWP.regsKX 1 [{}] (by kernel_rfl) (C := []) (by kernel_rfl) trivial ?_
   refine AWP.block (id := 5) (by kernel_rfl) ?_
   refine AWP.loop (fun (d : Nat) => (⟨[(0, AV.sl 1 (bytesA secret)), (1, AV.sl 1 (bytesA rnd)), (2, ai (↑N : Int)), (3, ai (↑M : Int)), (10, AV.ref 89), (11, ai ((↑i : Int) + 1)), (12, AV.ref 83), (13, ai (↑j : Int)), (14, ab (pst rnd secret.length j (u8 (i + 1)) (secret.getD j 0) d).1), (15, ab (pst rnd secret.length j (u8 (i + 1)) (secret.getD j 0) d).2), (16, ai ((d : Int) + 1))], [(89, ⟨2, true, false, encA shareC (List.map (rsplitS secret rnd N) (List.range i))⟩), (83, ⟨1, true, false, bytesA (List.map (rsplitB secret rnd N (u8 ((↑i : Int) + 1))) (List.range j))⟩)]⟩ : AS)) (fun d => (d ≤ N - 1)) (fun d => (N - 1 - d)) (by kernel_rfl) (0) ?_ (Weaks.ofX [.keep [0, 1, 2, 3, 10, 11, 12, 13, 14, 15, 16] [89, 83]] (by kernel_rfl)) ?_
   ·omega
   intro d hd
   refine AWP.seq (by kernel_rfl) ?_
   refine AWP.regsPX 1 [{}] [.keep [59, 0, 1, 2, 3, 10, 11, 12, 13, 14, 15, 16] [89, 83]] (by kernel_rfl) (C := []) (by kernel_rfl) trivial ?_
   refine AWP.condD (x := .tmp 59) (p := (↑d : Int) + 1 < (↑N : Int)) (by kernel_rfl) (by kernel_rfl) (fun h6 => ?_) (fun h6 => ?_)
   ·have hN : d + 1 ≤ N - 1 := by omega
    have hk : ((d : Int) + 1 - 1) * secret.length = ((d * secret.length : Nat) : Int) := by
     rw [Int.natCast_mul, show (d : Int) + 1 - 1 = d by omega]
    have hb := Nat.mul_le_mul_right secret.length hN
    rw [Nat.add_mul, Nat.one_mul] at hb
    have hc1 : (((N - 1) * secret.length : Nat) : Int) = ((N : Int) - 1) * secret.length := by rw [Int.natCast_mul, show ((N - 1 : Nat) : Int) = (N : Int) - 1 by omega]
    have hd1 : d + 1 - 1 = d := by omega
    have hk2 : ((d : Int) + 1 - 1) * secret.length + j = (((d + 1 - 1) * secret.length + j : Nat) : Int) := by rw [hk, hd1]; omega
    have hlt : (d + 1 - 1) * secret.length + j < rnd.length := by rw [hd1]; omega
    refine AWP.skip (by kernel_rfl) ?_
    refine then_n ?_
    refine AWP.seq (by kernel_rfl) ?_
    refine AWP.block (id := 6) (by kernel_rfl) ?_
    refine AWP.regsPX 1 [{ hs := [(2, { av := some (ab (u8 ((↑i : Int) + 1))) }), (3, { av := some (ab (rgmul (pst rnd secret.length j (u8 ((↑i : Int) + 1)) (secret.getD j 0) d).snd (u8 ((↑i : Int) + 1)))) })] }] [.keep [15, 59, 0, 1, 2, 3, 10, 11, 12, 13, 14, 16] [89, 83]] (by kernel_rfl) (C := [AV.val (Value.int .u8 (IntKind.u8.wrap ((↑i : Int) + 1))) = ab (u8 ((↑i : Int) + 1)), Ret Tryd.prog (66 : Nat) [ab ((pst rnd secret.length j (u8 ((↑i : Int) + 1)) (secret.getD j 0) d).snd), ab (u8 ((↑i : Int) + 1))] (ab (rgmul (pst rnd secret.length j (u8 ((↑i : Int) + 1)) (secret.getD j 0) d).snd (u8 ((↑i : Int) + 1))))]) (by kernel_rfl) ⟨(avb_conv ((↑i : Int) + 1)), (refmul_ret ((pst rnd secret.length j (u8 ((↑i : Int) + 1)) (secret.getD j 0) d).snd) (u8 ((↑i : Int) + 1))), trivial⟩ ?_
    refine AWP.regX { hs := [(3, { av := some (ai ((↑d : Int) + 1 - 1)) }), (5, { k := secret.length }), (6, { av := some (ai (((↑d : Int) + 1 - 1) * (↑secret.length : Int))) }), (8, { av := some (ai (((↑d : Int) + 1 - 1) * (↑secret.length : Int) + (↑j : Int))) }), (9, { k := (d + (1 : Nat) - (1 : Nat)) * secret.length + j }), (10, { av := some (ab (rnd.getD ((d + (1 : Nat) - (1 : Nat)) * secret.length + j) 0)) }), (12, { av := some (ab (rgmul (rnd.getD ((d + (1 : Nat) - (1 : Nat)) * secret.length + j) 0) (rgmul (pst rnd secret.length j (u8 ((↑i : Int) + 1)) (secret.getD j 0) d).snd (u8 ((↑i : Int) + 1))))) }), (13, { av := some (ab ((pst rnd secret.length j (u8 ((↑i : Int) + 1)) (secret.getD j 0) d).fst ^^^ rgmul (rnd.getD ((d + (1 : Nat) - (1 : Nat)) * secret.length + j) 0) (rgmul (pst rnd secret.length j (u8 ((↑i : Int) + 1)) (secret.getD j 0) d).snd (u8 ((↑i : Int) + 1))))) })] } (C := [ai (IntKind.i64.wrap ((↑d : Int) + 1 - 1)) = ai ((↑d : Int) + 1 - 1), (bytesA secret).length = secret.length, ai (IntKind.i64.wrap (((↑d : Int) + 1 - 1) * (↑secret.length : Int))) = ai (((↑d : Int) + 1 - 1) * (↑secret.length : Int)), ai (IntKind.i64.wrap (((↑d : Int) + 1 - 1) * (↑secret.length : Int) + (↑j : Int))) = ai (((↑d : Int) + 1 - 1) * (↑secret.length : Int) + (↑j : Int)), ((↑d : Int) + 1 - 1) * (↑secret.length : Int) + (↑j : Int) = (↑((d + (1 : Nat) - (1 : Nat)) * secret.length + j) : Int), (d + (1 : Nat) - (1 : Nat)) * secret.length + j < (bytesA rnd).length, (bytesA rnd)[(d + (1 : Nat) - (1 : Nat)) * secret.length + j]? = some (ab (rnd.getD ((d + (1 : Nat) - (1 : Nat)) * secret.length + j) 0)), Ret Tryd.prog (66 : Nat) [ab (rnd.getD ((d + (1 : Nat) - (1 : Nat)) * secret.length + j) 0), ab (rgmul (pst rnd secret.length j (u8 ((↑i : Int) + 1)) (secret.getD j 0) d).snd (u8 ((↑i : Int) + 1)))] (ab (rgmul (rnd.getD ((d + (1 : Nat) - (1 : Nat)) * secret.length + j) 0) (rgmul (pst rnd secret.length j (u8 ((↑i : Int) + 1)) (secret.getD j 0) d).snd (u8 ((↑i : Int) + 1))))), AV.val (Value.int .u8 (IntKind.u8.wrap (↑(BitVec.ofInt IntKind.u8.bits (bv (pst rnd secret.length j (u8 ((↑i : Int) + 1)) (secret.getD j 0) d).fst) ^^^ BitVec.ofInt IntKind.u8.bits (bv (rgmul (rnd.getD ((d + (1 : Nat) - (1 : Nat)) * secret.length + j) 0) (rgmul (pst rnd secret.length j (u8 ((↑i : Int) + 1)) (secret.getD j 0) d).snd (u8 ((↑i : Int) + 1)))))).toNat : Int))) = ab ((pst rnd secret.length j (u8 ((↑i : Int) + 1)) (secret.getD j 0) d).fst ^^^ rgmul (rnd.getD ((d + (1 : Nat) - (1 : Nat)) * secret.length + j) 0) (rgmul (pst rnd secret.length j (u8 ((↑i : Int) + 1)) (secret.getD j 0) d).snd (u8 ((↑i : Int) + 1))))]) (by kernel_rfl) ⟨(av_i64 (by omega) (by omega)), (bytesA_len _), (av_i64 (by omega) (by omega)), (av_i64 (by omega) (by omega)), (by assumption), (by simp only [bytesA_len]; omega), (bytesA_at (by omega)), (refmul_ret (rnd.getD ((d + (1 : Nat) - (1 : Nat)) * secret.length + j) 0) (rgmul (pst rnd secret.length j (u8 ((↑i : Int) + 1)) (secret.getD j 0) d).snd (u8 ((↑i : Int) + 1)))), (avb_xor ((pst rnd secret.length j (u8 ((↑i : Int) + 1)) (secret.getD j 0) d).fst) (rgmul (rnd.getD ((d + (1 : Nat) - (1 : Nat)) * secret.length + j) 0) (rgmul (pst rnd secret.length j (u8 ((↑i : Int) + 1)) (secret.getD j 0) d).snd (u8 ((↑i : Int) + 1))))), trivial⟩ ?_
    refine inb_n ?_
    refine then_n ?_
    refine AWP.regX { hs := [(1, { av := some (ai ((↑d : Int) + 1 + 1)) })] } (C := [ai (IntKind.i64.wrap ((↑d : Int) + 1 + 1)) = ai ((↑d : Int) + 1 + 1)]) (by kernel_rfl) ⟨(av_i64 (by omega) (by omega)), trivial⟩ ?_
    refine round_n (d + 1) (by assumption) (by omega) (Weaks.ofX [.keep [0, 1, 2, 3, 10, 11, 12, 13, 14, 15, 16] [89, 83]] (by kernel_rfl))
   ·have e6 : d = N - 1 := by omega
    subst e6
    refine AWP.exit (id := 5) (by kernel_rfl) ?_
    refine then_e ?_
    refine round_e ?_
    refine inb_e ?_
    refine then_n ?_
    refine AWP.regX { hs := [(2, { av := some (AV.arr (bytesA [(pst rnd secret.length j (u8 ((↑i : Int) + 1)) (secret.getD j 0) (N - (1 : Nat))).fst])) }), (3, { av := some (AV.arr (bytesA (List.map (rsplitB secret rnd N (u8 ((↑i : Int) + 1))) (List.range j) ++ [(pst rnd secret.length j (u8 ((↑i : Int) + 1)) (secret.getD j 0) (N - (1 : Nat))).fst]))) })] } (C := [[ab ((pst rnd secret.length j (u8 ((↑i : Int) + 1)) (secret.getD j 0) (N - (1 : Nat))).fst)] = bytesA [(pst rnd secret.length j (u8 ((↑i : Int) + 1)) (secret.getD j 0) (N - (1 : Nat))).fst], bytesA (List.map (rsplitB secret rnd N (u8 ((↑i : Int) + 1))) (List.range j)) ++ bytesA [(pst rnd secret.length j (u8 ((↑i : Int) + 1)) (secret.getD j 0) (N - (1 : Nat))).fst] = bytesA (List.map (rsplitB secret rnd N (u8 ((↑i : Int) + 1))) (List.range j) ++ [(pst rnd secret.length j (u8 ((↑i : Int) + 1)) (secret.getD j 0) (N - (1 : Nat))).fst]), ((bytesA (List.map (rsplitB secret rnd N (u8 ((↑i : Int) + 1))) (List.range j))).length + (bytesA [(pst rnd secret.length j (u8 ((↑i : Int) + 1)) (secret.getD j 0) (N - (1 : Nat))).fst]).length) * (1 : Nat) ≤ (140737488355328 : Nat)]) (by kernel_rfl) ⟨rfl, (bytesA_app _ _), (by simp only [bytesA_len, List.length_cons, List.length_nil, List.length_map, List.length_range]; omega), trivial⟩ ?_
    refine inb_n ?_
    refine then_n ?_
    refine AWP.regX { hs := [(1, { av := some (ai ((↑j : Int) + 1)) })] } (C := [ai (IntKind.i64.wrap ((↑j : Int) + 1)) = ai ((↑j : Int) + 1)]) (by kernel_rfl) ⟨(av_i64 (by omega) (by omega)), trivial⟩ ?_
    refine round_n (j + 1) (by omega) (by omega) (Weaks.of [.keep [0, 1, 2, 3, 10, 11, 12, 13] [89, 83]] (s1 := AS.mk [(0, AV.sl 1 (bytesA secret)), (1, AV.sl 1 (bytesA rnd)), (2, ai (↑N : Int)), (3, ai (↑M : Int)), (10, AV.ref 89), (11, ai ((↑i : Int) + 1)), (12, AV.ref 83), (13, ai ((↑j : Int) + 1))] [(89, Row.mk 2 true false (encA shareC (List.map (rsplitS secret rnd N) (List.range i)))), (83, Row.mk 1 true false (bytesA (List.map (rsplitB secret rnd N (u8 ((↑i : Int) + 1))) (List.range j) ++ [(pst rnd secret.length j (u8 ((↑i : Int) + 1)) (secret.getD j 0) (N - (1 : Nat))).fst])))]) (by kernel_rfl) (as_eq (f_cons rfl (f_cons rfl (f_cons rfl (f_cons rfl (f_cons rfl (f_cons rfl (f_cons rfl (f_cons rfl rfl)))))))) (h_cons rfl (h_cons (congrArg bytesA (range_snoc (rsplitB secret rnd N (u8 (i + 1))) j)) rfl))))
  ·have e6 : j = secret.length := by omega
   subst e6
   refine AWP.exit (id := 3) (by kernel_rfl) ?_
   refine then_e ?_
   refine round_e ?_
   refine inb_e ?_
   refine then_n ?_
   refine AWP.regX {} (C := [((encA shareC (List.map (rsplitS secret rnd N) (List.range i))).length + (2 : Nat)) * (32 : Nat) ≤ (281474976710656 : Nat)]) (by kernel_rfl) ⟨(by simp only [List.length_map, List.length_range, encA_len (f := shareC) (e := 2) (fun _ => rfl)]; omega), trivial⟩ ?_
   refine inb_n ?_
   refine then_n ?_
   refine AWP.regX { hs := [(1, { av := some (ai ((↑i : Int) + 1 + 1)) })] } (C := [ai (IntKind.i64.wrap ((↑i : Int) + 1 + 1)) = ai ((↑i : Int) + 1 + 1)]) (by kernel_rfl) ⟨(av_i64 (by omega) (by omega)), trivial⟩ ?_
   refine round_n (i + 1) (by omega) (by omega) (Weaks.of [.keep [0, 1, 2, 3, 10, 11] [89]] (s1 := AS.mk [(0, AV.sl 1 (bytesA secret)), (1, AV.sl 1 (bytesA rnd)), (2, ai (↑N : Int)), (3, ai (↑M : Int)), (10, AV.ref 89), (11, ai ((↑i : Int) + 1 + 1))] [(89, Row.mk 2 true false (encA shareC (List.map (rsplitS secret rnd N) (List.range i)) ++ [ai ((↑i : Int) + 1), AV.sl 1 (bytesA (List.map (rsplitB secret rnd N (u8 ((↑i : Int) + 1))) (List.range secret.length)))]))]) (by kernel_rfl) (as_eq (f_cons rfl (f_cons rfl (f_cons rfl (f_cons rfl (f_cons rfl (f_cons rfl rfl)))))) (h_cons (enc_range (f := shareC) (rsplitS secret rnd N) i) rfl)))
 ·have e8 : i = M := by omega
  subst e8
  refine AWP.exit (id := 1) (by kernel_rfl) ?_
  refine then_e ?_
  refine round_e ?_
  refine inb_e ?_
  refine then_n ?_
  refine AWP.regsKX 1 [{}] (by kernel_rfl) (C := []) (by kernel_rfl) trivial ?_
  refine AWP.ret (by kernel_rfl) ?_
  refine Done.ret_ (C := [encA shareC (List.map (rsplitS secret rnd N) (List.range i)) = encA shareC (rsplitL secret rnd (↑N : Int) (↑i : Int)), Value.int .i64 0 = Value.int .i64 (splitE secret rnd (↑N : Int) (↑i : Int))]) (by kernel_rfl) ⟨(by simp [rsplitL, e0]), (by rw [e0]), trivial⟩
end Go.Proofs.YtejpabdmiagnnaaDoor
