import Derived.Test.YtejpabdmiagnnaaDoorZaV8
import Derived.Test.YtejpabdmiagnnaaDoorZaRec4
import Derived.Test.YtejpabdmiagnnaaDoorZaOtP
set_option linter.all false
namespace Go.Proofs.YtejpabdmiagnnaaDoor
open Go.RowKit
set_option maxRecDepth 100000
set_option maxHeartbeats 4000000
set_option linter.unusedVariables false
theorem within_ret (n lo hi : Int) : Ret Tryd.prog 38 [ai n, ai lo, ai hi] (ao (decide (lo ≤ n ∧ n ≤ hi))) := by
 by_cases h1 : lo ≤ n
 ·by_cases h2 : n ≤ hi
  ·refine Ret.of_fn Tryd.func38 (by kernel_rfl) 15 (by kernel_rfl) (by kernel_rfl) ?_
   refine AWP.regsPX 2 [{}, {}] [.keep [6, 0, 1, 2] []] (by kernel_rfl) (C := [decide (n ≥ lo) = true, decide (n ≥ lo) = true, decide (n ≥ lo) = true, decide (n ≥ lo) = true]) (by kernel_rfl) ⟨(decide_eq_true (by omega)), (decide_eq_true (by omega)), (decide_eq_true (by omega)), (decide_eq_true (by omega)), trivial⟩ ?_
   refine AWP.ret (by kernel_rfl) ?_
   refine Done.ret_ (C := [Value.bool (decide (n ≤ hi)) = Value.bool (decide (lo ≤ n ∧ n ≤ hi))]) (by kernel_rfl) ⟨(by simp [h1, h2]), trivial⟩
  ·refine Ret.of_fn Tryd.func38 (by kernel_rfl) 15 (by kernel_rfl) (by kernel_rfl) ?_
   refine AWP.regsPX 2 [{}, {}] [.keep [6, 0, 1, 2] []] (by kernel_rfl) (C := [decide (n ≥ lo) = true, decide (n ≥ lo) = true, decide (n ≥ lo) = true, decide (n ≥ lo) = true]) (by kernel_rfl) ⟨(decide_eq_true (by omega)), (decide_eq_true (by omega)), (decide_eq_true (by omega)), (decide_eq_true (by omega)), trivial⟩ ?_
   refine AWP.ret (by kernel_rfl) ?_
   refine Done.ret_ (C := [Value.bool (decide (n ≤ hi)) = Value.bool (decide (lo ≤ n ∧ n ≤ hi))]) (by kernel_rfl) ⟨(by simp [h1, h2]), trivial⟩
 ·refine Ret.of_fn Tryd.func38 (by kernel_rfl) 15 (by kernel_rfl) (by kernel_rfl) ?_
  refine AWP.regsPX 2 [{}, { hs := [(4, { g := false }), (5, { g := false }), (6, { g := false }), (7, { b := false })] }] [.keep [6, 0, 1, 2] []] (by kernel_rfl) (C := [decide (n ≥ lo) = false, decide (n ≥ lo) = false, decide (n ≥ lo) = false, decide (n ≥ lo) = false]) (by kernel_rfl) ⟨(decide_eq_false (by omega)), (decide_eq_false (by omega)), (decide_eq_false (by omega)), (decide_eq_false (by omega)), trivial⟩ ?_
  refine AWP.ret (by kernel_rfl) ?_
  refine Done.ret_ (C := [Value.bool false = Value.bool (decide (lo ≤ n ∧ n ≤ hi))]) (by kernel_rfl) ⟨(by simp [h1]), trivial⟩
theorem named_ret (x : List UInt8) (hx : x.length ≤ 1000) : Ret Tryd.prog 64 [as_ x] (ai (nmE x)) := by
 by_cases c1 : x.length < 1 ∨ 32 < x.length
 ·have e := nm_short c1
  refine Ret.of_fn Tryd.func64 (by kernel_rfl) 10 (by kernel_rfl) (by kernel_rfl) ?_
  refine AWP.regsKX 1 [{}] (by kernel_rfl) (C := []) (by kernel_rfl) trivial ?_
  refine AWP.seq (by kernel_rfl) ?_
  refine AWP.regsPX 1 [{ hs := [(1, { av := some (ai (↑x.length : Int)) }), (2, { av := some (ao (decide ((1 : Int) ≤ (↑x.length : Int) ∧ (↑x.length : Int) ≤ 32))) }), (3, { av := some (ao true) })] }] [.keep [6, 2, 0] []] (by kernel_rfl) (C := [ai (↑(ByteArray.mk x.toArray).size : Int) = ai (↑x.length : Int), Ret Tryd.prog (38 : Nat) [ai (↑x.length : Int), ai 1, ai 32] (ao (decide ((1 : Int) ≤ (↑x.length : Int) ∧ (↑x.length : Int) ≤ 32))), ao (!decide ((1 : Int) ≤ (↑x.length : Int) ∧ (↑x.length : Int) ≤ 32)) = ao true]) (by kernel_rfl) ⟨rfl, (within_ret ((↑x.length : Int)) ((1 : Int)) ((32 : Int))), (by simp; omega), trivial⟩ ?_
  refine AWP.condT (x := .tmp 6) (b := true) (by kernel_rfl) (by kernel_rfl) rfl ?_
  refine AWP.regsKX 1 [{}] (by kernel_rfl) (C := []) (by kernel_rfl) trivial ?_
  refine AWP.ret (by kernel_rfl) ?_
  refine then_r ?_
  refine Done.ret_ (C := [Value.int .i64 9 = Value.int .i64 (nmE x)]) (by kernel_rfl) ⟨(by rw [e]), trivial⟩
 by_cases c2 : Lib.validD x = false
 ·have e := nm_text c1 c2
  refine Ret.of_fn Tryd.func64 (by kernel_rfl) 10 (by kernel_rfl) (by kernel_rfl) ?_
  refine AWP.regsKX 1 [{}] (by kernel_rfl) (C := []) (by kernel_rfl) trivial ?_
  refine AWP.seq (by kernel_rfl) ?_
  refine AWP.regsPX 1 [{ hs := [(1, { av := some (ai (↑x.length : Int)) }), (2, { av := some (ao (decide ((1 : Int) ≤ (↑x.length : Int) ∧ (↑x.length : Int) ≤ 32))) }), (3, { av := some (ao false) })] }] [.keep [6, 2, 0] []] (by kernel_rfl) (C := [ai (↑(ByteArray.mk x.toArray).size : Int) = ai (↑x.length : Int), Ret Tryd.prog (38 : Nat) [ai (↑x.length : Int), ai 1, ai 32] (ao (decide ((1 : Int) ≤ (↑x.length : Int) ∧ (↑x.length : Int) ≤ 32))), ao (!decide ((1 : Int) ≤ (↑x.length : Int) ∧ (↑x.length : Int) ≤ 32)) = ao false]) (by kernel_rfl) ⟨rfl, (within_ret ((↑x.length : Int)) ((1 : Int)) ((32 : Int))), (by simp; omega), trivial⟩ ?_
  refine AWP.condF (x := .tmp 6) (b := false) (by kernel_rfl) (by kernel_rfl) rfl ?_
  refine AWP.skip (by kernel_rfl) ?_
  refine then_n ?_
  refine AWP.seq (by kernel_rfl) ?_
  refine AWP.regsPX 1 [{ hs := [(1, { av := some (ao (Lib.validD x)) }), (2, { av := some (ao true) })] }] [.keep [9, 6, 2, 0] []] (by kernel_rfl) (C := [Ret Tryd.prog (31 : Nat) [AV.val (Value.string (ByteArray.mk x.toArray))] (ao (Lib.validD x)), ao (!Lib.validD x) = ao true]) (by kernel_rfl) ⟨(valid_ret (x) (by omega)), (by simp; omega), trivial⟩ ?_
  refine AWP.condT (x := .tmp 9) (b := true) (by kernel_rfl) (by kernel_rfl) rfl ?_
  refine AWP.regsKX 1 [{}] (by kernel_rfl) (C := []) (by kernel_rfl) trivial ?_
  refine AWP.ret (by kernel_rfl) ?_
  refine then_r ?_
  refine Done.ret_ (C := [Value.int .i64 6 = Value.int .i64 (nmE x)]) (by kernel_rfl) ⟨(by rw [e]), trivial⟩
 have c3 : Lib.validD x = true := by simpa using c2
 have e := nm_ok c1 c3
 refine Ret.of_fn Tryd.func64 (by kernel_rfl) 10 (by kernel_rfl) (by kernel_rfl) ?_
 refine AWP.regsKX 1 [{}] (by kernel_rfl) (C := []) (by kernel_rfl) trivial ?_
 refine AWP.seq (by kernel_rfl) ?_
 refine AWP.regsPX 1 [{ hs := [(1, { av := some (ai (↑x.length : Int)) }), (2, { av := some (ao (decide ((1 : Int) ≤ (↑x.length : Int) ∧ (↑x.length : Int) ≤ 32))) }), (3, { av := some (ao false) })] }] [.keep [6, 2, 0] []] (by kernel_rfl) (C := [ai (↑(ByteArray.mk x.toArray).size : Int) = ai (↑x.length : Int), Ret Tryd.prog (38 : Nat) [ai (↑x.length : Int), ai 1, ai 32] (ao (decide ((1 : Int) ≤ (↑x.length : Int) ∧ (↑x.length : Int) ≤ 32))), ao (!decide ((1 : Int) ≤ (↑x.length : Int) ∧ (↑x.length : Int) ≤ 32)) = ao false]) (by kernel_rfl) ⟨rfl, (within_ret ((↑x.length : Int)) ((1 : Int)) ((32 : Int))), (by simp; omega), trivial⟩ ?_
 refine AWP.condF (x := .tmp 6) (b := false) (by kernel_rfl) (by kernel_rfl) rfl ?_
 refine AWP.skip (by kernel_rfl) ?_
 refine then_n ?_
 refine AWP.seq (by kernel_rfl) ?_
 refine AWP.regsPX 1 [{ hs := [(1, { av := some (ao (Lib.validD x)) }), (2, { av := some (ao false) })] }] [.keep [9, 6, 2, 0] []] (by kernel_rfl) (C := [Ret Tryd.prog (31 : Nat) [AV.val (Value.string (ByteArray.mk x.toArray))] (ao (Lib.validD x)), ao (!Lib.validD x) = ao false]) (by kernel_rfl) ⟨(valid_ret (x) (by omega)), (by simp; omega), trivial⟩ ?_
 refine AWP.condF (x := .tmp 9) (b := false) (by kernel_rfl) (by kernel_rfl) rfl ?_
 refine AWP.skip (by kernel_rfl) ?_
 refine then_n ?_
 refine AWP.regsKX 1 [{}] (by kernel_rfl) (C := []) (by kernel_rfl) trivial ?_
 refine AWP.ret (by kernel_rfl) ?_
 refine Done.ret_ (C := [Value.int .i64 0 = Value.int .i64 (nmE x)]) (by kernel_rfl) ⟨(by rw [e]), trivial⟩
theorem rholders_ret (l : List (List UInt8)) (hl : l.length ≤ 1000000) (hh : ∀ i, i < l.length -> (l.getD i default).length ≤ 1000) : Ret Tryd.prog 39 [.sl 1 (encA strC l)] (ai (ff (hlE l) l.length)) := by
 have hll : (encA strC l).length = l.length := by rw [encA_len (e := 1) (fun _ => rfl)]; omega
 refine Ret.of_fn Tryd.func39 (by kernel_rfl) 33 (by kernel_rfl) (by kernel_rfl) ?_
 refine AWP.regsKX 1 [{}] (by kernel_rfl) (C := []) (by kernel_rfl) trivial ?_
 refine AWP.seq (by kernel_rfl) ?_
 refine AWP.regsKX 1 [{}] (by kernel_rfl) (C := []) (by kernel_rfl) trivial ?_
 refine AWP.block (id := 0) (by kernel_rfl) ?_
 refine AWP.loop (fun (i : Nat) => (⟨[(0, AV.sl 1 (encA strC l)), (3, ai i)], []⟩ : AS)) (fun i => (i ≤ l.length ∧ ff (hlE l) i = 0)) (fun i => (l.length - i)) (by kernel_rfl) (0) ?_ (Weaks.ofX [.keep [0, 3] []] (by kernel_rfl)) ?_
 ·exact ⟨by omega, rfl⟩
 rintro i ⟨hi, h0⟩
 refine AWP.seq (by kernel_rfl) ?_
 refine AWP.regsPX 1 [{ hs := [(2, { k := (encA strC l).length })] }] [.keep [8, 0, 3] []] (by kernel_rfl) (C := [(encA strC l).length = (encA strC l).length]) (by kernel_rfl) ⟨rfl, trivial⟩ ?_
 refine AWP.condD (x := .tmp 8) (p := (↑i : Int) < (↑(encA strC l).length : Int)) (by kernel_rfl) (by kernel_rfl) (fun g => ?_) (fun g => ?_)
 ·have hi2 : i < l.length := by omega
  have hat := strs_at hi2
  have hA := hh i hi2
  have stop : ∀ e : Int, e ≠ 0 -> hlE l i = e -> ff (hlE l) l.length = e := fun e he h1 => by
   have k2 : ff (hlE l) (i + 1) = hlE l i := by show (if _ then _ else _) = _; rw [if_neg (by omega)]
   rw [ff_stay (by omega) k2 l.length (by omega), h1]
  by_cases c5 : nmE (l.getD i default) = 0
  case neg =>
   have k1 := stop _ c5 (hl_nm rfl c5)
   refine AWP.skip (by kernel_rfl) ?_
   refine then_n ?_
   refine AWP.seq (by kernel_rfl) ?_
   refine AWP.block (id := 1) (by kernel_rfl) ?_
   refine AWP.seq (by kernel_rfl) ?_
   refine AWP.regsPX 2 [{ hs := [(2, { k := i }), (3, { av := some (AV.val (Value.string (ByteArray.mk (l.getD i default).toArray))) }), (4, { av := some (ai (nmE (l.getD i default))) })] }, {}] [.keep [17, 4, 8, 0, 3] []] (by kernel_rfl) (C := [(↑i : Int) = (↑i : Int), i < (encA strC l).length, (encA strC l)[i]? = some (AV.val (Value.string (ByteArray.mk (l.getD i default).toArray))), Ret Tryd.prog (64 : Nat) [AV.val (Value.string (ByteArray.mk (l.getD i default).toArray))] (ai (nmE (l.getD i default)))]) (by kernel_rfl) ⟨(by simp [c5]), (by omega), (by assumption), (named_ret (l.getD i default) (by assumption)), trivial⟩ ?_
   refine AWP.condT (x := .tmp 17) (b := nmE (l.getD i default) != (0 : Int)) (by kernel_rfl) (by kernel_rfl) (by simp_all) ?_
   refine AWP.regsKX 1 [{}] (by kernel_rfl) (C := []) (by kernel_rfl) trivial ?_
   refine AWP.ret (by kernel_rfl) ?_
   refine then_r ?_
   refine inb_r ?_
   refine then_r ?_
   refine round_r ?_
   refine inb_r ?_
   refine then_r ?_
   refine Done.ret_ (C := [Value.int .i64 (nmE (l.getD i default)) = Value.int .i64 (ff (hlE l) l.length)]) (by kernel_rfl) ⟨(by rw [k1]), trivial⟩
  by_cases c6 : 0 < i
  ·obtain ⟨k, hk⟩ : ∃ k, k + 1 = i := ⟨i - 1, by omega⟩
   have hat2 := strs_at (l := l) (i := k) (by omega)
   have c8 := hl_ord c5 hk
   by_cases c7 : leS (l.getD i default) (l.getD k default) = true
   ·have k1 := stop 7 (by omega) (by rw [c8, if_pos c7])
    refine AWP.skip (by kernel_rfl) ?_
    refine then_n ?_
    refine AWP.seq (by kernel_rfl) ?_
    refine AWP.block (id := 1) (by kernel_rfl) ?_
    refine AWP.seq (by kernel_rfl) ?_
    refine AWP.regsPX 2 [{ hs := [(2, { k := i }), (3, { av := some (AV.val (Value.string (ByteArray.mk (l.getD i default).toArray))) }), (4, { av := some (ai (nmE (l.getD i default))) })] }, {}] [.keep [17, 4, 8, 0, 3] []] (by kernel_rfl) (C := [(↑i : Int) = (↑i : Int), i < (encA strC l).length, (encA strC l)[i]? = some (AV.val (Value.string (ByteArray.mk (l.getD i default).toArray))), Ret Tryd.prog (64 : Nat) [AV.val (Value.string (ByteArray.mk (l.getD i default).toArray))] (ai (nmE (l.getD i default)))]) (by kernel_rfl) ⟨(by simp [c5]), (by omega), (by assumption), (named_ret (l.getD i default) (by assumption)), trivial⟩ ?_
    refine AWP.condF (x := .tmp 17) (b := nmE (l.getD i default) != (0 : Int)) (by kernel_rfl) (by kernel_rfl) (by simp_all) ?_
    refine AWP.skip (by kernel_rfl) ?_
    refine then_n ?_
    refine AWP.regsPX 1 [{ hs := [(5, { k := i }), (6, { av := some (AV.val (Value.string (ByteArray.mk (l.getD i default).toArray))) }), (9, { av := some (ai (↑k : Int)) }), (10, { k := k }), (11, { av := some (AV.val (Value.string (ByteArray.mk (l.getD k default).toArray))) })], T := 12 }] [.keep [32, 17, 4, 8, 0, 3] []] (by kernel_rfl) (C := [decide ((↑i : Int) > 0) = true, decide ((↑i : Int) > 0) = true, decide ((↑i : Int) > 0) = true, (↑i : Int) = (↑i : Int), i < (encA strC l).length, decide ((↑i : Int) > 0) = true, (encA strC l)[i]? = some (AV.val (Value.string (ByteArray.mk (l.getD i default).toArray))), decide ((↑i : Int) > 0) = true, decide ((↑i : Int) > 0) = true, decide ((↑i : Int) > 0) = true, ai (IntKind.i64.wrap ((↑i : Int) - 1)) = ai (↑k : Int), decide ((↑i : Int) > 0) = true, (↑k : Int) = (↑k : Int), k < (encA strC l).length, decide ((↑i : Int) > 0) = true, (encA strC l)[k]? = some (AV.val (Value.string (ByteArray.mk (l.getD k default).toArray))), decide ((↑i : Int) > 0) = true, decide ((↑i : Int) > 0) = true]) (by kernel_rfl) ⟨(decide_eq_true (by omega)), (decide_eq_true (by omega)), (decide_eq_true (by omega)), (by simp [c5]), (by omega), (decide_eq_true (by omega)), (by assumption), (decide_eq_true (by omega)), (decide_eq_true (by omega)), (decide_eq_true (by omega)), (congrArg (fun n => AV.val (.int .i64 n)) (by rw [IntKind.wrap_i64]; omega)), (decide_eq_true (by omega)), (by simp [c5]), (by omega), (decide_eq_true (by omega)), (by assumption), (decide_eq_true (by omega)), (decide_eq_true (by omega)), trivial⟩ ?_
    refine AWP.condT (x := .tmp 32) (b := Op.bytesLess (ByteArray.mk (l.getD i default).toArray).toList (ByteArray.mk (l.getD k default).toArray).toList || (ByteArray.mk (l.getD i default).toArray).toList == (ByteArray.mk (l.getD k default).toArray).toList) (by kernel_rfl) (by kernel_rfl) (by assumption) ?_
    refine AWP.regsKX 1 [{}] (by kernel_rfl) (C := []) (by kernel_rfl) trivial ?_
    refine AWP.ret (by kernel_rfl) ?_
    refine inb_r ?_
    refine then_r ?_
    refine round_r ?_
    refine inb_r ?_
    refine then_r ?_
    refine Done.ret_ (C := [Value.int .i64 7 = Value.int .i64 (ff (hlE l) l.length)]) (by kernel_rfl) ⟨(by rw [k1]), trivial⟩
   ·have c9 : leS (l.getD i default) (l.getD k default) = false := by simpa using c7
    rw [if_neg c7] at c8
    refine AWP.skip (by kernel_rfl) ?_
    refine then_n ?_
    refine AWP.seq (by kernel_rfl) ?_
    refine AWP.block (id := 1) (by kernel_rfl) ?_
    refine AWP.seq (by kernel_rfl) ?_
    refine AWP.regsPX 2 [{ hs := [(2, { k := i }), (3, { av := some (AV.val (Value.string (ByteArray.mk (l.getD i default).toArray))) }), (4, { av := some (ai (nmE (l.getD i default))) })] }, {}] [.keep [17, 4, 8, 0, 3] []] (by kernel_rfl) (C := [(↑i : Int) = (↑i : Int), i < (encA strC l).length, (encA strC l)[i]? = some (AV.val (Value.string (ByteArray.mk (l.getD i default).toArray))), Ret Tryd.prog (64 : Nat) [AV.val (Value.string (ByteArray.mk (l.getD i default).toArray))] (ai (nmE (l.getD i default)))]) (by kernel_rfl) ⟨(by simp [c5]), (by omega), (by assumption), (named_ret (l.getD i default) (by assumption)), trivial⟩ ?_
    refine AWP.condF (x := .tmp 17) (b := nmE (l.getD i default) != (0 : Int)) (by kernel_rfl) (by kernel_rfl) (by simp_all) ?_
    refine AWP.skip (by kernel_rfl) ?_
    refine then_n ?_
    refine AWP.regsPX 1 [{ hs := [(5, { k := i }), (6, { av := some (AV.val (Value.string (ByteArray.mk (l.getD i default).toArray))) }), (9, { av := some (ai (↑k : Int)) }), (10, { k := k }), (11, { av := some (AV.val (Value.string (ByteArray.mk (l.getD k default).toArray))) })], T := 12 }] [.keep [32, 17, 4, 8, 0, 3] []] (by kernel_rfl) (C := [decide ((↑i : Int) > 0) = true, decide ((↑i : Int) > 0) = true, decide ((↑i : Int) > 0) = true, (↑i : Int) = (↑i : Int), i < (encA strC l).length, decide ((↑i : Int) > 0) = true, (encA strC l)[i]? = some (AV.val (Value.string (ByteArray.mk (l.getD i default).toArray))), decide ((↑i : Int) > 0) = true, decide ((↑i : Int) > 0) = true, decide ((↑i : Int) > 0) = true, ai (IntKind.i64.wrap ((↑i : Int) - 1)) = ai (↑k : Int), decide ((↑i : Int) > 0) = true, (↑k : Int) = (↑k : Int), k < (encA strC l).length, decide ((↑i : Int) > 0) = true, (encA strC l)[k]? = some (AV.val (Value.string (ByteArray.mk (l.getD k default).toArray))), decide ((↑i : Int) > 0) = true, decide ((↑i : Int) > 0) = true]) (by kernel_rfl) ⟨(decide_eq_true (by omega)), (decide_eq_true (by omega)), (decide_eq_true (by omega)), (by simp [c5]), (by omega), (decide_eq_true (by omega)), (by assumption), (decide_eq_true (by omega)), (decide_eq_true (by omega)), (decide_eq_true (by omega)), (congrArg (fun n => AV.val (.int .i64 n)) (by rw [IntKind.wrap_i64]; omega)), (decide_eq_true (by omega)), (by simp [c5]), (by omega), (decide_eq_true (by omega)), (by assumption), (decide_eq_true (by omega)), (decide_eq_true (by omega)), trivial⟩ ?_
    refine AWP.condF (x := .tmp 32) (b := Op.bytesLess (ByteArray.mk (l.getD i default).toArray).toList (ByteArray.mk (l.getD k default).toArray).toList || (ByteArray.mk (l.getD i default).toArray).toList == (ByteArray.mk (l.getD k default).toArray).toList) (by kernel_rfl) (by kernel_rfl) (by assumption) ?_
    refine AWP.skip (by kernel_rfl) ?_
    refine inb_n ?_
    refine then_n ?_
    refine AWP.regX { hs := [(1, { av := some (ai ((↑i : Int) + 1)) })] } (C := [ai (IntKind.i64.wrap ((↑i : Int) + 1)) = ai ((↑i : Int) + 1)]) (by kernel_rfl) ⟨(av_i64 (by omega) (by omega)), trivial⟩ ?_
    refine round_n (i + 1) ⟨by omega, by show (if _ then _ else _) = _; rw [if_neg (by omega), c8]⟩ (by omega) (Weaks.ofX [.keep [0, 3] []] (by kernel_rfl))
  ·have e : i = 0 := by omega
   have h1 : hlE l i = 0 := by subst e; exact hl_zero c5
   refine AWP.skip (by kernel_rfl) ?_
   refine then_n ?_
   refine AWP.seq (by kernel_rfl) ?_
   refine AWP.block (id := 1) (by kernel_rfl) ?_
   refine AWP.seq (by kernel_rfl) ?_
   refine AWP.regsPX 2 [{ hs := [(2, { k := i }), (3, { av := some (AV.val (Value.string (ByteArray.mk (l.getD i default).toArray))) }), (4, { av := some (ai (nmE (l.getD i default))) })] }, {}] [.keep [17, 4, 8, 0, 3] []] (by kernel_rfl) (C := [(↑i : Int) = (↑i : Int), i < (encA strC l).length, (encA strC l)[i]? = some (AV.val (Value.string (ByteArray.mk (l.getD i default).toArray))), Ret Tryd.prog (64 : Nat) [AV.val (Value.string (ByteArray.mk (l.getD i default).toArray))] (ai (nmE (l.getD i default)))]) (by kernel_rfl) ⟨(by simp [c5]), (by omega), (by assumption), (named_ret (l.getD i default) (by assumption)), trivial⟩ ?_
   refine AWP.condF (x := .tmp 17) (b := nmE (l.getD i default) != (0 : Int)) (by kernel_rfl) (by kernel_rfl) (by simp_all) ?_
   refine AWP.skip (by kernel_rfl) ?_
   refine then_n ?_
   refine AWP.regsPX 1 [{ hs := [(3, { g := false }), (4, { g := false }), (5, { g := false }), (6, { g := false }), (7, { g := false }), (8, { g := false }), (9, { g := false }), (10, { g := false }), (11, { g := false }), (12, { g := false }), (13, { b := false })], T := 12 }] [.keep [32, 17, 4, 8, 0, 3] []] (by kernel_rfl) (C := [decide ((↑i : Int) > 0) = false, decide ((↑i : Int) > 0) = false, decide ((↑i : Int) > 0) = false, decide ((↑i : Int) > 0) = false, decide ((↑i : Int) > 0) = false, decide ((↑i : Int) > 0) = false, decide ((↑i : Int) > 0) = false, decide ((↑i : Int) > 0) = false, decide ((↑i : Int) > 0) = false, decide ((↑i : Int) > 0) = false, decide ((↑i : Int) > 0) = false]) (by kernel_rfl) ⟨(decide_eq_false (by omega)), (decide_eq_false (by omega)), (decide_eq_false (by omega)), (decide_eq_false (by omega)), (decide_eq_false (by omega)), (decide_eq_false (by omega)), (decide_eq_false (by omega)), (decide_eq_false (by omega)), (decide_eq_false (by omega)), (decide_eq_false (by omega)), (decide_eq_false (by omega)), trivial⟩ ?_
   refine AWP.condF (x := .tmp 32) (b := false) (by kernel_rfl) (by kernel_rfl) rfl ?_
   refine AWP.skip (by kernel_rfl) ?_
   refine inb_n ?_
   refine then_n ?_
   refine AWP.regX { hs := [(1, { av := some (ai ((↑i : Int) + 1)) })] } (C := [ai (IntKind.i64.wrap ((↑i : Int) + 1)) = ai ((↑i : Int) + 1)]) (by kernel_rfl) ⟨(av_i64 (by omega) (by omega)), trivial⟩ ?_
   refine round_n (i + 1) ⟨by omega, by show (if _ then _ else _) = _; rw [if_neg (by omega), h1]⟩ (by omega) (Weaks.ofX [.keep [0, 3] []] (by kernel_rfl))
 ·have e : i = l.length := by omega
  subst e
  refine AWP.exit (id := 0) (by kernel_rfl) ?_
  refine then_e ?_
  refine round_e ?_
  refine inb_e ?_
  refine then_n ?_
  refine AWP.regsKX 1 [{}] (by kernel_rfl) (C := []) (by kernel_rfl) trivial ?_
  refine AWP.ret (by kernel_rfl) ?_
  refine Done.ret_ (C := [Value.int .i64 0 = Value.int .i64 (ff (hlE l) l.length)]) (by kernel_rfl) ⟨(by rw [h0]), trivial⟩
theorem samedep_ret (d : Dep) (hl : d.holders.length ≤ 1000000) : Ret Tryd.prog 16 [.agg (depC d), .agg (depC d)] (ao true) := by
 have hll : (encA strC d.holders).length = d.holders.length := by rw [encA_len (e := 1) (fun _ => rfl)]; omega
 refine Ret.of_fn Tryd.func16 (by kernel_rfl) 73 (by kernel_rfl) (by kernel_rfl) ?_
 refine AWP.regsKX 1 [{}] (by kernel_rfl) (C := []) (by kernel_rfl) trivial ?_
 refine AWP.seq (by kernel_rfl) ?_
 refine AWP.regsPX 1 [{ hs := [(2, { k := (encA strC d.holders).length }), (5, { k := (encA strC d.holders).length })] }] [.keep [12, 4, 3, 2, 0, 1] [3, 2]] (by kernel_rfl) (C := [(encA strC d.holders).length = (encA strC d.holders).length, (encA strC d.holders).length = (encA strC d.holders).length]) (by kernel_rfl) ⟨rfl, rfl, trivial⟩ ?_
 refine AWP.condF (x := .tmp 12) (b := (↑(encA strC d.holders).length : Int) != (↑(encA strC d.holders).length : Int)) (by kernel_rfl) (by kernel_rfl) (by simp_all) ?_
 refine AWP.skip (by kernel_rfl) ?_
 refine then_n ?_
 refine AWP.seq (by kernel_rfl) ?_
 refine AWP.regsKX 1 [{}] (by kernel_rfl) (C := []) (by kernel_rfl) trivial ?_
 refine AWP.block (id := 0) (by kernel_rfl) ?_
 refine AWP.loop (fun (i : Nat) => (⟨[(12, ao ((↑(encA strC d.holders).length : Int) != (↑(encA strC d.holders).length : Int))), (3, AV.addr 3 0), (2, AV.addr 2 0), (0, AV.agg [aw d.pub, aw d.peer, AV.sl 1 (bytesA d.box), AV.sl 1 (encA strC d.holders), AV.sl 1 (wordsA d.digests), ai d.need, aw d.target]), (1, AV.agg [aw d.pub, aw d.peer, AV.sl 1 (bytesA d.box), AV.sl 1 (encA strC d.holders), AV.sl 1 (wordsA d.digests), ai d.need, aw d.target]), (5, ai i)], [(3, ⟨1, false, true, [aw d.pub, aw d.peer, AV.sl 1 (bytesA d.box), AV.sl 1 (encA strC d.holders), AV.sl 1 (wordsA d.digests), ai d.need, aw d.target]⟩), (2, ⟨1, false, true, List.map (kill0 (3 : Nat)) (List.map (kill0 (2 : Nat)) (depC d))⟩)]⟩ : AS)) (fun i => (i ≤ d.holders.length)) (fun i => (d.holders.length - i)) (by kernel_rfl) (0) ?_ (Weaks.ofX [.keep [12, 3, 2, 0, 1, 5] [3, 2]] (by kernel_rfl)) ?_
 ·omega
 intro i hi
 refine AWP.seq (by kernel_rfl) ?_
 refine AWP.regsPX 1 [{ hs := [(3, { k := (encA strC d.holders).length })] }] [.keep [17, 12, 3, 2, 0, 1, 5] [3, 2]] (by kernel_rfl) (C := [(encA strC d.holders).length = (encA strC d.holders).length]) (by kernel_rfl) ⟨rfl, trivial⟩ ?_
 refine AWP.condD (x := .tmp 17) (p := (↑i : Int) < (↑(encA strC d.holders).length : Int)) (by kernel_rfl) (by kernel_rfl) (fun g => ?_) (fun g => ?_)
 ·have hi2 : i < d.holders.length := by omega
  have hat := strs_at hi2
  refine AWP.skip (by kernel_rfl) ?_
  refine then_n ?_
  refine AWP.seq (by kernel_rfl) ?_
  refine AWP.block (id := 1) (by kernel_rfl) ?_
  refine AWP.regsPX 1 [{ hs := [(3, { k := i }), (4, { av := some (AV.val (Value.string (ByteArray.mk (d.holders.getD i default).toArray))) }), (8, { k := i }), (9, { av := some (AV.val (Value.string (ByteArray.mk (d.holders.getD i default).toArray))) }), (10, { av := some (ao false) })], T := 10 }] [.keep [30, 17, 12, 3, 2, 0, 1, 5] [3, 2]] (by kernel_rfl) (C := [(↑i : Int) = (↑i : Int), i < (encA strC d.holders).length, (encA strC d.holders)[i]? = some (AV.val (Value.string (ByteArray.mk (d.holders.getD i default).toArray))), (↑i : Int) = (↑i : Int), i < (encA strC d.holders).length, (encA strC d.holders)[i]? = some (AV.val (Value.string (ByteArray.mk (d.holders.getD i default).toArray))), ao (!(ByteArray.mk (d.holders.getD i default).toArray).toList == (ByteArray.mk (d.holders.getD i default).toArray).toList) = ao false]) (by kernel_rfl) ⟨(by simp), (by omega), (by assumption), (by simp), (by omega), (by assumption), (by simp), trivial⟩ ?_
  refine AWP.condF (x := .tmp 30) (b := false) (by kernel_rfl) (by kernel_rfl) rfl ?_
  refine AWP.skip (by kernel_rfl) ?_
  refine inb_n ?_
  refine then_n ?_
  refine AWP.regX { hs := [(1, { av := some (ai ((↑i : Int) + 1)) })] } (C := [ai (IntKind.i64.wrap ((↑i : Int) + 1)) = ai ((↑i : Int) + 1)]) (by kernel_rfl) ⟨(av_i64 (by omega) (by omega)), trivial⟩ ?_
  refine round_n (i + 1) (by assumption) (by omega) (Weaks.ofX [.keep [12, 3, 2, 0, 1, 5] [3, 2]] (by kernel_rfl))
 ·skip
  refine AWP.exit (id := 0) (by kernel_rfl) ?_
  refine then_e ?_
  refine round_e ?_
  refine inb_e ?_
  refine then_n ?_
  refine AWP.regsPX 1 [{ hs := [(4, { av := some (ao true) }), (10, { av := some (ao true) }), (15, { av := some (AV.val (Value.string (ByteArray.mk d.box.toArray))) }), (18, { av := some (AV.val (Value.string (ByteArray.mk d.box.toArray))) }), (19, { av := some (ao true) }), (26, { av := some (ao (d.digests == d.digests)) }), (33, { av := some (ao true) }), (40, { av := some (ao true) })] }] [.keep [4, 17, 12, 3, 2, 0, 1, 5] [3, 2]] (by kernel_rfl) (C := [ao (wv d.pub == wv d.pub) = ao true, true = true, true = true, true = true, true = true, true = true, ao (wv d.peer == wv d.peer) = ao true, true = true, true = true, true = true, true = true, bytesA d.box = bytesA d.box.toArray.toList, true = true, true = true, true = true, bytesA d.box = bytesA d.box.toArray.toList, true = true, ao ((ByteArray.mk d.box.toArray).toList == (ByteArray.mk d.box.toArray).toList) = ao true, true = true, true = true, true = true, true = true, true = true, true = true, Ret Tryd.prog (45 : Nat) [AV.sl 1 (wordsA d.digests), AV.sl 1 (wordsA d.digests)] (ao (d.digests == d.digests)), true = true, (d.digests == d.digests) = true, (d.digests == d.digests) = true, (d.digests == d.digests) = true, (d.digests == d.digests) = true, (d.digests == d.digests) = true, ao (d.need == d.need) = ao true, (d.digests == d.digests) = true, true = true, true = true, true = true, true = true, true = true, ao (wv d.target == wv d.target) = ao true, true = true]) (by kernel_rfl) ⟨(by simp), rfl, rfl, rfl, rfl, rfl, (by simp), rfl, rfl, rfl, rfl, rfl, rfl, rfl, rfl, rfl, rfl, (by simp), rfl, rfl, rfl, rfl, rfl, rfl, (samewords_ret (d.digests) (d.digests)), rfl, (by simp_all), (by simp_all), (by simp_all), (by simp_all), (by simp_all), (by simp_all), (by simp_all), rfl, rfl, rfl, rfl, rfl, (by simp), rfl, trivial⟩ ?_
  refine AWP.ret (by kernel_rfl) ?_
  refine Done.ret_ (C := [Value.bool true = Value.bool true]) (by kernel_rfl) ⟨(by simp), trivial⟩
theorem strs_plain (l : List (List UInt8)) : plainR (encA strC l) := by
 intro x hx
 unfold encA at hx
 obtain ⟨s, _, hs⟩ := List.mem_flatMap.1 hx
 simp [strC] at hs
 subst hs; rfl
theorem snocR {T : Type} (f : Nat -> T) (i : Nat) : (List.range i).map f ++ [f i] = (List.range (i + 1)).map f := by simp [List.range_succ]
theorem refprepare_ret (seed : UInt64) (draws : Int) (l : List (List UInt8)) (need : Int) (hl : l.length ≤ 1000000) (hh : ∀ i, i < l.length -> (l.getD i default).length ≤ 1000) : Ret Tryd.prog 15 [aw seed, ai draws, .sl 1 (encA strC l), ai need] (.tup [.agg (depO (prpD seed draws l need)), .own 1 (encA bysC (prpS seed draws l need)), ai (prpE l need)]) := by
 have hll : (encA strC l).length = l.length := by rw [encA_len (e := 1) (fun _ => rfl)]; omega
 by_cases hb : badN l.length need
 ·have e1 : prpE l need = 9 := by unfold prpE; rw [if_pos hb]
  have e2 : prpD seed draws l need = default := by unfold prpD; rw [if_neg (by omega)]
  have e3 : prpS seed draws l need = [] := by unfold prpS; rw [if_neg (by omega)]
  by_cases c1 : 1 ≤ l.length ∧ l.length ≤ 8
  ·have c4 : ¬ (1 ≤ need ∧ need ≤ l.length) := by unfold badN at hb; omega
   refine Ret.of_fn Tryd.func15 (by kernel_rfl) 99 (by kernel_rfl) (by kernel_rfl) ?_
   refine AWP.regsKX 1 [{}] (by kernel_rfl) (C := []) (by kernel_rfl) trivial ?_
   refine AWP.seq (by kernel_rfl) ?_
   refine AWP.regsPX 1 [{ hs := [(1, { k := (encA strC l).length }), (2, { av := some (ao (decide ((1 : Int) ≤ (↑(encA strC l).length : Int) ∧ (↑(encA strC l).length : Int) ≤ 8))) }), (3, { av := some (ao false) }), (5, { g := false }), (6, { g := false }), (7, { k := (encA strC l).length, g := false }), (8, { av := some (ao (decide ((1 : Int) ≤ need ∧ need ≤ (↑(encA strC l).length : Int)))), g := false }), (9, { av := some (ao true), g := false }), (10, { b := false })] }] [.keep [29, 10, 9, 8, 0, 1, 2, 3] [8]] (by kernel_rfl) (C := [(encA strC l).length = (encA strC l).length, Ret Tryd.prog (38 : Nat) [ai (↑(encA strC l).length : Int), ai 1, ai 8] (ao (decide ((1 : Int) ≤ (↑(encA strC l).length : Int) ∧ (↑(encA strC l).length : Int) ≤ 8))), ao (!decide ((1 : Int) ≤ (↑(encA strC l).length : Int) ∧ (↑(encA strC l).length : Int) ≤ 8)) = ao false, false = false, false = false, false = false, (encA strC l).length = (encA strC l).length, false = false, Ret Tryd.prog (38 : Nat) [ai need, ai 1, ai (↑(encA strC l).length : Int)] (ao (decide ((1 : Int) ≤ need ∧ need ≤ (↑(encA strC l).length : Int)))), false = false, ao (!decide ((1 : Int) ≤ need ∧ need ≤ (↑(encA strC l).length : Int))) = ao true, false = false]) (by kernel_rfl) ⟨rfl, (within_ret ((↑(encA strC l).length : Int)) ((1 : Int)) ((8 : Int))), (by simp; omega), rfl, rfl, rfl, rfl, rfl, (within_ret (need) ((1 : Int)) ((↑(encA strC l).length : Int))), rfl, (by simp; omega), rfl, trivial⟩ ?_
   refine AWP.condT (x := .tmp 29) (b := true) (by kernel_rfl) (by kernel_rfl) rfl ?_
   refine AWP.regsPX 1 [{}] [.keep [10, 9, 29, 8, 0, 1, 2, 3] [8]] (by kernel_rfl) (C := [(7 : Nat) ≤ (7 : Nat)]) (by kernel_rfl) ⟨(by omega), trivial⟩ ?_
   refine AWP.ret (by kernel_rfl) ?_
   refine then_r ?_
   refine Done.ret_ (C := [Value.int .u64 0 = Value.int .u64 (wv (prpD seed draws l need).pub), Value.int .u64 0 = Value.int .u64 (wv (prpD seed draws l need).peer), bytesA (prpD seed draws l need).box = [], encA strC (prpD seed draws l need).holders = [], wordsA (prpD seed draws l need).digests = [], Value.int .i64 0 = Value.int .i64 (prpD seed draws l need).need, Value.int .u64 0 = Value.int .u64 (wv (prpD seed draws l need).target), encA bysC (prpS seed draws l need) = [], Value.int .i64 9 = Value.int .i64 (prpE l need)]) (by kernel_rfl) ⟨(by rw [e2]; rfl), (by rw [e2]; rfl), (by rw [e2]; rfl), (by rw [e2]; rfl), (by rw [e2]; rfl), (by rw [e2]; rfl), (by rw [e2]; rfl), (by rw [e3]; rfl), (by rw [e1]), trivial⟩
  ·refine Ret.of_fn Tryd.func15 (by kernel_rfl) 99 (by kernel_rfl) (by kernel_rfl) ?_
   refine AWP.regsKX 1 [{}] (by kernel_rfl) (C := []) (by kernel_rfl) trivial ?_
   refine AWP.seq (by kernel_rfl) ?_
   refine AWP.regsPX 1 [{ hs := [(1, { k := (encA strC l).length }), (2, { av := some (ao (decide ((1 : Int) ≤ (↑(encA strC l).length : Int) ∧ (↑(encA strC l).length : Int) ≤ 8))) }), (3, { av := some (ao true) })] }] [.keep [29, 10, 9, 8, 0, 1, 2, 3] [8]] (by kernel_rfl) (C := [(encA strC l).length = (encA strC l).length, Ret Tryd.prog (38 : Nat) [ai (↑(encA strC l).length : Int), ai 1, ai 8] (ao (decide ((1 : Int) ≤ (↑(encA strC l).length : Int) ∧ (↑(encA strC l).length : Int) ≤ 8))), ao (!decide ((1 : Int) ≤ (↑(encA strC l).length : Int) ∧ (↑(encA strC l).length : Int) ≤ 8)) = ao true, true = true, true = true, true = true, true = true, true = true, true = true]) (by kernel_rfl) ⟨rfl, (within_ret ((↑(encA strC l).length : Int)) ((1 : Int)) ((8 : Int))), (by simp; omega), rfl, rfl, rfl, rfl, rfl, rfl, trivial⟩ ?_
   refine AWP.condT (x := .tmp 29) (b := true) (by kernel_rfl) (by kernel_rfl) rfl ?_
   refine AWP.regsPX 1 [{}] [.keep [10, 9, 29, 8, 0, 1, 2, 3] [8]] (by kernel_rfl) (C := [(7 : Nat) ≤ (7 : Nat)]) (by kernel_rfl) ⟨(by omega), trivial⟩ ?_
   refine AWP.ret (by kernel_rfl) ?_
   refine then_r ?_
   refine Done.ret_ (C := [Value.int .u64 0 = Value.int .u64 (wv (prpD seed draws l need).pub), Value.int .u64 0 = Value.int .u64 (wv (prpD seed draws l need).peer), bytesA (prpD seed draws l need).box = [], encA strC (prpD seed draws l need).holders = [], wordsA (prpD seed draws l need).digests = [], Value.int .i64 0 = Value.int .i64 (prpD seed draws l need).need, Value.int .u64 0 = Value.int .u64 (wv (prpD seed draws l need).target), encA bysC (prpS seed draws l need) = [], Value.int .i64 9 = Value.int .i64 (prpE l need)]) (by kernel_rfl) ⟨(by rw [e2]; rfl), (by rw [e2]; rfl), (by rw [e2]; rfl), (by rw [e2]; rfl), (by rw [e2]; rfl), (by rw [e2]; rfl), (by rw [e2]; rfl), (by rw [e3]; rfl), (by rw [e1]), trivial⟩
 have e0 : prpE l need = ff (hlE l) l.length := by unfold prpE; rw [if_neg hb]
 have hb1 : 1 ≤ l.length ∧ l.length ≤ 8 ∧ 1 ≤ need ∧ need ≤ l.length := by unfold badN at hb; omega
 by_cases h0 : ff (hlE l) l.length = 0
 case neg =>
  have e2 : prpD seed draws l need = default := by unfold prpD; rw [if_neg (by omega)]
  have e3 : prpS seed draws l need = [] := by unfold prpS; rw [if_neg (by omega)]
  refine Ret.of_fn Tryd.func15 (by kernel_rfl) 99 (by kernel_rfl) (by kernel_rfl) ?_
  refine AWP.regsKX 1 [{}] (by kernel_rfl) (C := []) (by kernel_rfl) trivial ?_
  refine AWP.seq (by kernel_rfl) ?_
  refine AWP.regsPX 1 [{ hs := [(1, { k := (encA strC l).length }), (2, { av := some (ao (decide ((1 : Int) ≤ (↑(encA strC l).length : Int) ∧ (↑(encA strC l).length : Int) ≤ 8))) }), (3, { av := some (ao false) }), (5, { g := false }), (6, { g := false }), (7, { k := (encA strC l).length, g := false }), (8, { av := some (ao (decide ((1 : Int) ≤ need ∧ need ≤ (↑(encA strC l).length : Int)))), g := false }), (9, { av := some (ao false), g := false }), (10, { b := false })] }] [.keep [29, 10, 9, 8, 0, 1, 2, 3] [8]] (by kernel_rfl) (C := [(encA strC l).length = (encA strC l).length, Ret Tryd.prog (38 : Nat) [ai (↑(encA strC l).length : Int), ai 1, ai 8] (ao (decide ((1 : Int) ≤ (↑(encA strC l).length : Int) ∧ (↑(encA strC l).length : Int) ≤ 8))), ao (!decide ((1 : Int) ≤ (↑(encA strC l).length : Int) ∧ (↑(encA strC l).length : Int) ≤ 8)) = ao false, false = false, false = false, false = false, (encA strC l).length = (encA strC l).length, false = false, Ret Tryd.prog (38 : Nat) [ai need, ai 1, ai (↑(encA strC l).length : Int)] (ao (decide ((1 : Int) ≤ need ∧ need ≤ (↑(encA strC l).length : Int)))), false = false, ao (!decide ((1 : Int) ≤ need ∧ need ≤ (↑(encA strC l).length : Int))) = ao false, false = false]) (by kernel_rfl) ⟨(by simp [h0]), (within_ret ((↑(encA strC l).length : Int)) ((1 : Int)) ((8 : Int))), (by simp; omega), rfl, rfl, rfl, rfl, rfl, (within_ret (need) ((1 : Int)) ((↑(encA strC l).length : Int))), rfl, (by simp; omega), rfl, trivial⟩ ?_
  refine AWP.condF (x := .tmp 29) (b := false) (by kernel_rfl) (by kernel_rfl) rfl ?_
  refine AWP.skip (by kernel_rfl) ?_
  refine then_n ?_
  refine AWP.seq (by kernel_rfl) ?_
  refine AWP.regsPX 2 [{ hs := [(1, { av := some (ai (ff (hlE l) l.length)) })] }, { hs := [(1, { av := some (ao true) })] }] [.keep [34, 11, 29, 10, 9, 8, 0, 1, 2, 3] [8]] (by kernel_rfl) (C := [Ret Tryd.prog (39 : Nat) [AV.sl 1 (encA strC l)] (ai (ff (hlE l) l.length)), ao (ff (hlE l) l.length != (0 : Int)) = ao true]) (by kernel_rfl) ⟨(rholders_ret (l) (by assumption) (by assumption)), (by simp; omega), trivial⟩ ?_
  refine AWP.condT (x := .tmp 34) (b := true) (by kernel_rfl) (by kernel_rfl) rfl ?_
  refine AWP.regsPX 1 [{}] [.keep [10, 9, 34, 11, 29, 8, 0, 1, 2, 3] [8]] (by kernel_rfl) (C := [(7 : Nat) ≤ (7 : Nat)]) (by kernel_rfl) ⟨(by simp [h0]), trivial⟩ ?_
  refine AWP.ret (by kernel_rfl) ?_
  refine then_r ?_
  refine Done.ret_ (C := [Value.int .u64 0 = Value.int .u64 (wv (prpD seed draws l need).pub), Value.int .u64 0 = Value.int .u64 (wv (prpD seed draws l need).peer), bytesA (prpD seed draws l need).box = [], encA strC (prpD seed draws l need).holders = [], wordsA (prpD seed draws l need).digests = [], Value.int .i64 0 = Value.int .i64 (prpD seed draws l need).need, Value.int .u64 0 = Value.int .u64 (wv (prpD seed draws l need).target), encA bysC (prpS seed draws l need) = [], Value.int .i64 (ff (hlE l) l.length) = Value.int .i64 (prpE l need)]) (by kernel_rfl) ⟨(by rw [e2]; rfl), (by rw [e2]; rfl), (by rw [e2]; rfl), (by rw [e2]; rfl), (by rw [e2]; rfl), (by rw [e2]; rfl), (by rw [e2]; rfl), (by rw [e3]; rfl), (by rw [e0]), trivial⟩
 have e1 : prpE l need = 0 := by rw [e0, h0]
 have hsl : (stream (derive seed [115, 104, 97, 114, 101, 115] draws) 0 (8 * (need - 1))).length = (8 * (need - 1)).toNat := by
  rw [stream_len]; unfold streamN; omega
 have hw8 : (words [secW seed draws]).length = 8 := by rw [words_len]; rfl
 have hse : splitE (words [secW seed draws]) (stream (derive seed [115, 104, 97, 114, 101, 115] draws) 0 (8 * (need - 1))) need l.length = 0 := by
  unfold splitE
  rw [if_neg (by omega), if_neg (by omega), if_neg (by rw [hsl, hw8]; omega)]
 have hsn : (shrL seed draws l.length need).length = l.length := by unfold shrL splitL; rw [if_pos hse]; simp
 have hse2 : splitE (words [derive seed [100, 101, 112, 111, 115, 105, 116] draws]) (stream (derive seed [115, 104, 97, 114, 101, 115] draws) 0 (8 * (need - 1))) need l.length = 0 := hse
 have hsn2 : (splitL (words [derive seed [100, 101, 112, 111, 115, 105, 116] draws]) (stream (derive seed [115, 104, 97, 114, 101, 115] draws) 0 (8 * (need - 1))) need l.length).length = l.length := hsn
 have hdat : ∀ i, i < l.length -> ((splitL (words [derive seed [100, 101, 112, 111, 115, 105, 116] draws]) (stream (derive seed [115, 104, 97, 114, 101, 115] draws) 0 (8 * (need - 1))) need l.length).getD i default).2.length = 8 := fun i hi => by
  rw [splitL, if_pos hse2, Int.toNat_natCast, range_getD _ _ hi]
  show (splitD _ _ _ _).length = 8
  unfold splitD
  rw [List.length_map, List.length_range]
  exact hw8
 have hpl := strs_plain l
 refine Ret.of_fn Tryd.func15 (by kernel_rfl) 99 (by kernel_rfl) (by kernel_rfl) ?_
 have hse3 : splitE (words [derive seed [100, 101, 112, 111, 115, 105, 116] draws]) (stream (derive seed [115, 104, 97, 114, 101, 115] draws) 0 (8 * (need - 1))) need (encA strC l).length = 0 := by rw [hll]; exact hse2
 have hsn3 : (splitL (words [derive seed [100, 101, 112, 111, 115, 105, 116] draws]) (stream (derive seed [115, 104, 97, 114, 101, 115] draws) 0 (8 * (need - 1))) need (encA strC l).length).length = l.length := by rw [hll]; exact hsn2
 have hdat3 : ∀ i, i < l.length -> ((splitL (words [derive seed [100, 101, 112, 111, 115, 105, 116] draws]) (stream (derive seed [115, 104, 97, 114, 101, 115] draws) 0 (8 * (need - 1))) need (encA strC l).length).getD i default).2.length = 8 := by rw [hll]; exact hdat
 refine AWP.regsKX 1 [{}] (by kernel_rfl) (C := []) (by kernel_rfl) trivial ?_
 refine AWP.seq (by kernel_rfl) ?_
 refine AWP.regsPX 1 [{ hs := [(1, { k := (encA strC l).length }), (2, { av := some (ao (decide ((1 : Int) ≤ (↑(encA strC l).length : Int) ∧ (↑(encA strC l).length : Int) ≤ 8))) }), (3, { av := some (ao false) }), (5, { g := false }), (6, { g := false }), (7, { k := (encA strC l).length, g := false }), (8, { av := some (ao (decide ((1 : Int) ≤ need ∧ need ≤ (↑(encA strC l).length : Int)))), g := false }), (9, { av := some (ao false), g := false }), (10, { b := false })] }] [.keep [29, 10, 9, 8, 0, 1, 2, 3] [8]] (by kernel_rfl) (C := [(encA strC l).length = (encA strC l).length, Ret Tryd.prog (38 : Nat) [ai (↑(encA strC l).length : Int), ai 1, ai 8] (ao (decide ((1 : Int) ≤ (↑(encA strC l).length : Int) ∧ (↑(encA strC l).length : Int) ≤ 8))), ao (!decide ((1 : Int) ≤ (↑(encA strC l).length : Int) ∧ (↑(encA strC l).length : Int) ≤ 8)) = ao false, false = false, false = false, false = false, (encA strC l).length = (encA strC l).length, false = false, Ret Tryd.prog (38 : Nat) [ai need, ai 1, ai (↑(encA strC l).length : Int)] (ao (decide ((1 : Int) ≤ need ∧ need ≤ (↑(encA strC l).length : Int)))), false = false, ao (!decide ((1 : Int) ≤ need ∧ need ≤ (↑(encA strC l).length : Int))) = ao false, false = false]) (by kernel_rfl) ⟨(by simp [h0]), (within_ret ((↑(encA strC l).length : Int)) ((1 : Int)) ((8 : Int))), (by simp; omega), rfl, rfl, rfl, rfl, rfl, (within_ret (need) ((1 : Int)) ((↑(encA strC l).length : Int))), rfl, (by simp; omega), rfl, trivial⟩ ?_
 refine AWP.condF (x := .tmp 29) (b := false) (by kernel_rfl) (by kernel_rfl) rfl ?_
 refine AWP.skip (by kernel_rfl) ?_
 refine then_n ?_
 refine AWP.seq (by kernel_rfl) ?_
 refine AWP.regsPX 2 [{ hs := [(1, { av := some (ai (ff (hlE l) l.length)) })] }, { hs := [(1, { av := some (ao false) })] }] [.keep [34, 11, 29, 10, 9, 8, 0, 1, 2, 3] [8]] (by kernel_rfl) (C := [Ret Tryd.prog (39 : Nat) [AV.sl 1 (encA strC l)] (ai (ff (hlE l) l.length)), ao (ff (hlE l) l.length != (0 : Int)) = ao false]) (by kernel_rfl) ⟨(rholders_ret (l) (by assumption) (by assumption)), (by simp; omega), trivial⟩ ?_
 refine AWP.condF (x := .tmp 34) (b := false) (by kernel_rfl) (by kernel_rfl) rfl ?_
 refine AWP.skip (by kernel_rfl) ?_
 refine then_n ?_
 refine AWP.regsPX 3 [{ hs := [(2, { av := some (aw (derive seed [100, 101, 112, 111, 115, 105, 116] draws)) })] }, { hs := [(2, { av := some (aw (derive seed [115, 104, 97, 114, 101, 115] draws)) }), (4, { av := some (ai (need - 1)) }), (5, { av := some (ai ((8 : Int) * (need - 1))) }), (6, { av := some (AV.own 1 (bytesA (stream (derive seed [115, 104, 97, 114, 101, 115] draws) 0 ((8 : Int) * (need - 1))))) })] }, { hs := [(1, { av := some (AV.arr (wordsA [derive seed [100, 101, 112, 111, 115, 105, 116] draws])) }), (2, { av := some (AV.own 1 (bytesA (words [derive seed [100, 101, 112, 111, 115, 105, 116] draws]))) }), (6, { k := (encA strC l).length }), (7, { av := some (AV.tup [AV.own 2 (encA shareC (splitL (words [derive seed [100, 101, 112, 111, 115, 105, 116] draws]) (stream (derive seed [115, 104, 97, 114, 101, 115] draws) 0 ((8 : Int) * (need - 1))) need (↑(encA strC l).length : Int))), ai (splitE (words [derive seed [100, 101, 112, 111, 115, 105, 116] draws]) (stream (derive seed [115, 104, 97, 114, 101, 115] draws) 0 ((8 : Int) * (need - 1))) need (↑(encA strC l).length : Int))]), b := false })] }] [.keep [15, 14, 13, 12, 37, 34, 11, 29, 10, 9, 8, 0, 1, 2, 3] [1055, 8]] (by kernel_rfl) (C := [Ret Tryd.prog (40 : Nat) [aw seed, AV.val (Value.string (ByteArray.mk #[100, 101, 112, 111, 115, 105, 116])), ai draws] (aw (derive seed [100, 101, 112, 111, 115, 105, 116] draws)), Ret Tryd.prog (40 : Nat) [aw seed, AV.val (Value.string (ByteArray.mk #[115, 104, 97, 114, 101, 115])), ai draws] (aw (derive seed [115, 104, 97, 114, 101, 115] draws)), ai (IntKind.i64.wrap (need - 1)) = ai (need - 1), ai (IntKind.i64.wrap ((8 : Int) * (need - 1))) = ai ((8 : Int) * (need - 1)), Ret Tryd.prog (41 : Nat) [aw (derive seed [115, 104, 97, 114, 101, 115] draws), au0, ai ((8 : Int) * (need - 1))] (AV.own 1 (bytesA (stream (derive seed [115, 104, 97, 114, 101, 115] draws) 0 ((8 : Int) * (need - 1))))), valR (bytesA (stream (derive seed [115, 104, 97, 114, 101, 115] draws) 0 ((8 : Int) * (need - 1)))), [aw (derive seed [100, 101, 112, 111, 115, 105, 116] draws)] = wordsA [derive seed [100, 101, 112, 111, 115, 105, 116] draws], Ret Tryd.prog (43 : Nat) [AV.sl 1 (wordsA [derive seed [100, 101, 112, 111, 115, 105, 116] draws])] (AV.own 1 (bytesA (words [derive seed [100, 101, 112, 111, 115, 105, 116] draws]))), valR (bytesA (words [derive seed [100, 101, 112, 111, 115, 105, 116] draws])), (encA strC l).length = (encA strC l).length, Ret Tryd.prog (42 : Nat) [AV.sl 1 (bytesA (words [derive seed [100, 101, 112, 111, 115, 105, 116] draws])), AV.sl 1 (bytesA (stream (derive seed [115, 104, 97, 114, 101, 115] draws) 0 ((8 : Int) * (need - 1)))), ai need, ai (↑(encA strC l).length : Int)] (AV.tup [AV.own 2 (encA shareC (splitL (words [derive seed [100, 101, 112, 111, 115, 105, 116] draws]) (stream (derive seed [115, 104, 97, 114, 101, 115] draws) 0 ((8 : Int) * (need - 1))) need (↑(encA strC l).length : Int))), ai (splitE (words [derive seed [100, 101, 112, 111, 115, 105, 116] draws]) (stream (derive seed [115, 104, 97, 114, 101, 115] draws) 0 ((8 : Int) * (need - 1))) need (↑(encA strC l).length : Int))])]) (by kernel_rfl) ⟨(refderive_ret (seed) ([100, 101, 112, 111, 115, 105, 116]) (draws) (by simp [h0])), (refderive_ret (seed) ([115, 104, 97, 114, 101, 115]) (draws) (by simp [h0])), (av_i64 (by omega) (by omega)), (av_i64 (by omega) (by omega)), (refstream_ret (derive seed [115, 104, 97, 114, 101, 115] draws) (0) ((8 : Int) * (need - 1))), (valR_bytes _), rfl, (refwords_ret ([derive seed [100, 101, 112, 111, 115, 105, 116] draws]) (by simp [h0])), (valR_bytes _), (by simp [h0]), (refsplit_ret (words [derive seed [100, 101, 112, 111, 115, 105, 116] draws]) (stream (derive seed [115, 104, 97, 114, 101, 115] draws) 0 ((8 : Int) * (need - 1))) (need) ((↑(encA strC l).length : Int))), trivial⟩ ?_
 refine AWP.seq (by kernel_rfl) ?_
 refine AWP.regsPX 1 [{ hs := [(1, { av := some (ao false) })] }] [.keep [59, 15, 14, 13, 12, 37, 34, 11, 29, 10, 9, 8, 0, 1, 2, 3] [1055, 8]] (by kernel_rfl) (C := [ao (splitE (words [derive seed [100, 101, 112, 111, 115, 105, 116] draws]) (stream (derive seed [115, 104, 97, 114, 101, 115] draws) 0 ((8 : Int) * (need - 1))) need (↑(encA strC l).length : Int) != (0 : Int)) = ao false]) (by kernel_rfl) ⟨(by simp; omega), trivial⟩ ?_
 refine AWP.condF (x := .tmp 59) (b := false) (by kernel_rfl) (by kernel_rfl) rfl ?_
 refine AWP.skip (by kernel_rfl) ?_
 refine then_n ?_
 refine AWP.regsPX 2 [{ hs := [(1, { av := some (aw (pubW (derive seed [100, 101, 112, 111, 115, 105, 116] draws))) }), (3, { b := false })] }, {}] [.keep [17, 16, 59, 15, 14, 13, 12, 37, 34, 11, 29, 10, 9, 8, 0, 1, 2, 3] [16, 65, 1055, 8]] (by kernel_rfl) (C := [Ret Tryd.prog (17 : Nat) [aw (derive seed [100, 101, 112, 111, 115, 105, 116] draws)] (aw (pubW (derive seed [100, 101, 112, 111, 115, 105, 116] draws))), plainR (encA strC l), ((0 : Nat) + (encA strC l).length) * (16 : Nat) ≤ (140737488355328 : Nat), (7 : Nat) ≤ (7 : Nat)]) (by kernel_rfl) ⟨(refpubx_ret (derive seed [100, 101, 112, 111, 115, 105, 116] draws)), (by assumption), (by simp; omega), (by simp [h0]), trivial⟩ ?_
 refine AWP.seq (by kernel_rfl) ?_
 refine AWP.regsK 1 [{}] (by kernel_rfl) (s' := AS.mk [(18, ai 0), (17, AV.nil), (16, AV.addr 16 0), (59, ao false), (15, ai (splitE (words [derive seed [100, 101, 112, 111, 115, 105, 116] draws]) (stream (derive seed [115, 104, 97, 114, 101, 115] draws) 0 ((8 : Int) * (need - 1))) need (↑(encA strC l).length : Int))), (14, AV.ref 1055), (13, AV.sl 1 (bytesA (stream (derive seed [115, 104, 97, 114, 101, 115] draws) 0 ((8 : Int) * (need - 1))))), (12, aw (derive seed [100, 101, 112, 111, 115, 105, 116] draws)), (37, aw seed), (34, ao false), (11, ai (ff (hlE l) l.length)), (29, ao false), (10, ai 0), (9, AV.nil), (8, AV.addr 8 0), (0, aw seed), (1, ai draws), (2, AV.sl 1 (encA strC l)), (3, ai need)] [(16, Row.mk 1 false true [aw (pubW (derive seed [100, 101, 112, 111, 115, 105, 116] draws)), au0, AV.nil, AV.ref 65, AV.nil, ai need, au0]), (65, Row.mk 1 true false (encA strC l)), (1055, Row.mk 2 true false (encA shareC (splitL (words [derive seed [100, 101, 112, 111, 115, 105, 116] draws]) (stream (derive seed [115, 104, 97, 114, 101, 115] draws) 0 ((8 : Int) * (need - 1))) need (↑(encA strC l).length : Int)))), (8, Row.mk 1 false true [au0, au0, AV.nil, AV.nil, AV.nil, ai 0, au0])]) (C := []) (by kernel_rfl) trivial ?_
 refine AWP.block (id := 0) (by kernel_rfl) ?_
 have hLs : shrL seed draws l.length need = splitL (words [derive seed [100, 101, 112, 111, 115, 105, 116] draws]) (stream (derive seed [115, 104, 97, 114, 101, 115] draws) 0 (8 * (need - 1))) need (encA strC l).length := by rw [hll]; rfl
 generalize hL : splitL (words [derive seed [100, 101, 112, 111, 115, 105, 116] draws]) (stream (derive seed [115, 104, 97, 114, 101, 115] draws) 0 (8 * (need - 1))) need (encA strC l).length = L at *
 refine AWP.weak (Weaks.cnil 16 4 87 1 (r := ⟨1, false, true, [aw (pubW (derive seed [100, 101, 112, 111, 115, 105, 116] draws)), au0, .nil, .ref 65, .nil, ai need, au0]⟩) (by kernel_rfl) rfl rfl (by kernel_rfl)) ?_
 refine AWP.loop (fun (i : Nat) => (⟨[(16, AV.addr 16 0), (59, ao false), (15, ai (splitE (words [derive seed [100, 101, 112, 111, 115, 105, 116] draws]) (stream (derive seed [115, 104, 97, 114, 101, 115] draws) 0 ((8 : Int) * (need - 1))) need (↑(encA strC l).length : Int))), (14, AV.ref 1055), (13, AV.sl 1 (bytesA (stream (derive seed [115, 104, 97, 114, 101, 115] draws) 0 ((8 : Int) * (need - 1))))), (12, aw (derive seed [100, 101, 112, 111, 115, 105, 116] draws)), (37, aw seed), (34, ao false), (11, ai (ff (hlE l) l.length)), (29, ao false), (10, ai 0), (9, AV.nil), (8, AV.addr 8 0), (0, aw seed), (1, ai draws), (2, AV.sl 1 (encA strC l)), (3, ai need), (18, ai i), (17, AV.ref 96)], [(1055, ⟨2, true, false, encA shareC L⟩), (8, ⟨1, false, true, [au0, au0, AV.nil, AV.nil, AV.nil, ai 0, au0]⟩), (16, ⟨1, false, true, [aw (pubW (derive seed [100, 101, 112, 111, 115, 105, 116] draws)), au0, .nil, .ref 65, .ref 87, ai need, au0]⟩), (65, ⟨1, true, false, encA strC l⟩), (87, ⟨1, true, false, wordsA ((List.range i).map fun k => digD (l.getD k default) (L.getD k default).2)⟩), (96, ⟨1, true, false, encA bysC ((List.range i).map fun k => (L.getD k default).2)⟩)]⟩ : AS)) (fun i => (i ≤ l.length)) (fun i => (l.length - i)) (by kernel_rfl) (0) ?_ (Weaks.ofX [.nil 17 96 1, .keep [16, 59, 15, 14, 13, 12, 37, 34, 11, 29, 10, 9, 8, 0, 1, 2, 3, 18, 17] [1055, 8, 16, 65, 87, 96]] (by kernel_rfl)) ?_
 ·omega
 intro i hi
 refine AWP.seq (by kernel_rfl) ?_
 refine AWP.regsPX 1 [{ hs := [(2, { k := (encA strC l).length })] }] [.keep [71, 16, 59, 15, 14, 13, 12, 37, 34, 11, 29, 10, 9, 8, 0, 1, 2, 3, 18, 17] [1055, 8, 16, 65, 87, 96]] (by kernel_rfl) (C := [(encA strC l).length = (encA strC l).length]) (by kernel_rfl) ⟨rfl, trivial⟩ ?_
 refine AWP.condD (x := .tmp 71) (p := (↑i : Int) < (↑(encA strC l).length : Int)) (by kernel_rfl) (by kernel_rfl) (fun g => ?_) (fun g => ?_)
 ·have hi2 : i < l.length := by omega
  have hat := strs_at hi2
  have hA := hh i hi2
  have hd8 := hdat3 i hi2
  have q1 := congrArg wordsA (snocR (fun k => digD (l.getD k default) (L.getD k default).2) i)
  have q2 : encA bysC ((List.range i).map fun k => (L.getD k default).2) ++ [AV.sl 1 (bytesA (L.getD i default).2)] = encA bysC ((List.range (i + 1)).map fun k => (L.getD k default).2) := by
   rw [← snocR, ← encA_app]; rfl
  refine AWP.skip (by kernel_rfl) ?_
  refine then_n ?_
  refine AWP.seq (by kernel_rfl) ?_
  refine AWP.block (id := 1) (by kernel_rfl) ?_
  refine AWP.regsPX 1 [{ hs := [(4, { k := i }), (5, { av := some (AV.val (Value.string (ByteArray.mk (l.getD i default).toArray))) }), (8, { k := i }), (10, { av := some (AV.sl 1 (bytesA (L.getD i default).snd)) }), (11, { av := some (aw (digD (l.getD i default) (L.getD i default).snd)) }), (12, { av := some (AV.arr (wordsA [digD (l.getD i default) (L.getD i default).snd])) }), (13, { av := some (AV.arr (wordsA (List.map (fun k ↦ digD (l.getD k default) (L.getD k default).snd) (List.range i) ++ [digD (l.getD i default) (L.getD i default).snd]))) })], T := 13 }] [.keep [71, 16, 59, 15, 14, 13, 12, 37, 34, 11, 29, 10, 9, 8, 0, 1, 2, 3, 18, 17] [16, 87, 1055, 8, 65, 96]] (by kernel_rfl) (C := [(↑i : Int) = (↑i : Int), i < (encA strC l).length, (encA strC l)[i]? = some (AV.val (Value.string (ByteArray.mk (l.getD i default).toArray))), (↑i : Int) = (↑i : Int), i * (2 : Nat) < (encA shareC L).length, (encA shareC L)[i * (2 : Nat) + (1 : Nat)]? = some (AV.sl 1 (bytesA (L.getD i default).snd)), Ret Tryd.prog (44 : Nat) [AV.val (Value.string (ByteArray.mk (l.getD i default).toArray)), AV.sl 1 (bytesA (L.getD i default).snd)] (aw (digD (l.getD i default) (L.getD i default).snd)), [aw (digD (l.getD i default) (L.getD i default).snd)] = wordsA [digD (l.getD i default) (L.getD i default).snd], wordsA (List.map (fun k ↦ digD (l.getD k default) (L.getD k default).snd) (List.range i)) ++ wordsA [digD (l.getD i default) (L.getD i default).snd] = wordsA (List.map (fun k ↦ digD (l.getD k default) (L.getD k default).snd) (List.range i) ++ [digD (l.getD i default) (L.getD i default).snd]), ((wordsA (List.map (fun k ↦ digD (l.getD k default) (L.getD k default).snd) (List.range i))).length + (wordsA [digD (l.getD i default) (L.getD i default).snd]).length) * (8 : Nat) ≤ (140737488355328 : Nat), (5 : Nat) ≤ (7 : Nat)]) (by kernel_rfl) ⟨rfl, (by omega), (by assumption), rfl, (by simp only [encA_len (f := shareC) (e := 2) (fun _ => rfl)]; omega), (encA_at (f := shareC) (e := 2) (k := i) (j := 1) (fun _ => rfl) (by omega) rfl), (refdigest_ret (l.getD i default) ((L.getD i default).snd) (by assumption) (by omega)), rfl, (wordsA_app _ _), (by simp only [wordsA_len, List.length_cons, List.length_nil, List.length_map, List.length_range]; omega), (by omega), trivial⟩ ?_
  refine AWP.regX { hs := [(3, { k := i }), (5, { av := some (AV.sl 1 (bytesA (L.getD i default).snd)) })] } (C := [(↑i : Int) = (↑i : Int), i * (2 : Nat) < (encA shareC L).length, (encA shareC L)[i * (2 : Nat) + (1 : Nat)]? = some (AV.sl 1 (bytesA (L.getD i default).snd)), ((encA bysC (List.map (fun k ↦ (L.getD k default).snd) (List.range i))).length + (1 : Nat)) * (24 : Nat) ≤ (140737488355328 : Nat)]) (by kernel_rfl) ⟨rfl, (by simp only [encA_len (f := shareC) (e := 2) (fun _ => rfl)]; omega), (encA_at (f := shareC) (e := 2) (k := i) (j := 1) (fun _ => rfl) (by omega) rfl), (by simp only [List.length_map, List.length_range, encA_len (f := bysC) (e := 1) (fun _ => rfl)]; omega), trivial⟩ ?_
  refine inb_n ?_
  refine then_n ?_
  refine AWP.regX { hs := [(1, { av := some (ai ((↑i : Int) + 1)) })] } (C := [ai (IntKind.i64.wrap ((↑i : Int) + 1)) = ai ((↑i : Int) + 1)]) (by kernel_rfl) ⟨(av_i64 (by omega) (by omega)), trivial⟩ ?_
  refine round_n (i + 1) (by assumption) (by omega) (Weaks.of [.keep [16, 59, 15, 14, 13, 12, 37, 34, 11, 29, 10, 9, 8, 0, 1, 2, 3, 18, 17] [1055, 8, 16, 65, 87, 96]] (s1 := AS.mk [(16, AV.addr 16 0), (59, ao false), (15, ai (splitE (words [derive seed [100, 101, 112, 111, 115, 105, 116] draws]) (stream (derive seed [115, 104, 97, 114, 101, 115] draws) 0 ((8 : Int) * (need - 1))) need (↑(encA strC l).length : Int))), (14, AV.ref 1055), (13, AV.sl 1 (bytesA (stream (derive seed [115, 104, 97, 114, 101, 115] draws) 0 ((8 : Int) * (need - 1))))), (12, aw (derive seed [100, 101, 112, 111, 115, 105, 116] draws)), (37, aw seed), (34, ao false), (11, ai (ff (hlE l) l.length)), (29, ao false), (10, ai 0), (9, AV.nil), (8, AV.addr 8 0), (0, aw seed), (1, ai draws), (2, AV.sl 1 (encA strC l)), (3, ai need), (18, ai ((↑i : Int) + 1)), (17, AV.ref 96)] [(1055, Row.mk 2 true false (encA shareC L)), (8, Row.mk 1 false true [au0, au0, AV.nil, AV.nil, AV.nil, ai 0, au0]), (16, Row.mk 1 false true [aw (pubW (derive seed [100, 101, 112, 111, 115, 105, 116] draws)), au0, AV.nil, AV.ref 65, AV.ref 87, ai need, au0]), (65, Row.mk 1 true false (encA strC l)), (87, Row.mk 1 true false (wordsA (List.map (fun k ↦ digD (l.getD k default) (L.getD k default).snd) (List.range i) ++ [digD (l.getD i default) (L.getD i default).snd]))), (96, Row.mk 1 true false (encA bysC (List.map (fun k ↦ (L.getD k default).snd) (List.range i)) ++ [AV.sl 1 (bytesA (L.getD i default).snd)]))]) (by kernel_rfl) (as_eq (f_cons rfl (f_cons rfl (f_cons rfl (f_cons rfl (f_cons rfl (f_cons rfl (f_cons rfl (f_cons rfl (f_cons rfl (f_cons rfl (f_cons rfl (f_cons rfl (f_cons rfl (f_cons rfl (f_cons rfl (f_cons rfl (f_cons rfl (f_cons rfl (f_cons rfl rfl))))))))))))))))))) (h_cons rfl (h_cons rfl (h_cons rfl (h_cons rfl (h_cons q1 (h_cons q2 rfl))))))))
 ·have e : i = l.length := by omega
  subst e
  have e2 : prpD seed draws l need = ⟨pubW (derive seed [100, 101, 112, 111, 115, 105, 116] draws), 0, [], l, (List.range l.length).map (fun k => digD (l.getD k default) (L.getD k default).2), need, 0⟩ := by
   unfold prpD; rw [if_pos e1, hLs]; rfl
  have e3 : prpS seed draws l need = (List.range l.length).map fun k => (L.getD k default).2 := by
   unfold prpS; rw [if_pos e1, hLs]
  refine AWP.exit (id := 0) (by kernel_rfl) ?_
  refine then_e ?_
  refine round_e ?_
  refine inb_e ?_
  refine then_n ?_
  refine AWP.regsPX 1 [{}] [.keep [10, 9, 71, 16, 59, 15, 14, 13, 12, 37, 34, 11, 29, 8, 0, 1, 2, 3, 18, 17] [8, 1055, 16, 65, 87, 96]] (by kernel_rfl) (C := [(7 : Nat) ≤ (7 : Nat)]) (by kernel_rfl) ⟨(by omega), trivial⟩ ?_
  refine AWP.ret (by kernel_rfl) ?_
  refine Done.ret_ (C := [Value.int .u64 (wv (pubW (derive seed [100, 101, 112, 111, 115, 105, 116] draws))) = Value.int .u64 (wv (prpD seed draws l need).pub), Value.int .u64 0 = Value.int .u64 (wv (prpD seed draws l need).peer), bytesA (prpD seed draws l need).box = [], encA strC l = encA strC (prpD seed draws l need).holders, wordsA (List.map (fun k ↦ digD (l.getD k default) (L.getD k default).snd) (List.range l.length)) = wordsA (prpD seed draws l need).digests, Value.int .i64 need = Value.int .i64 (prpD seed draws l need).need, Value.int .u64 0 = Value.int .u64 (wv (prpD seed draws l need).target), encA bysC (List.map (fun k ↦ (L.getD k default).snd) (List.range l.length)) = encA bysC (prpS seed draws l need), Value.int .i64 0 = Value.int .i64 (prpE l need)]) (by kernel_rfl) ⟨(by rw [e2]), (by rw [e2]; rfl), (by rw [e2]; rfl), (by rw [e2]), (by rw [e2]), (by rw [e2]), (by rw [e2]; rfl), (by rw [e3]), (by rw [e1]), trivial⟩
end Go.Proofs.YtejpabdmiagnnaaDoor
