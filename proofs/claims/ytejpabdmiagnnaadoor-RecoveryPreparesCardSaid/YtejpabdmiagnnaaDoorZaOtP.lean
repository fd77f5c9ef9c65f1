import Derived.Test.YtejpabdmiagnnaaDoorZaDR
import Derived.Test.YtejpabdmiagnnaaDoorZaV8
set_option linter.all false
namespace Go.Proofs.YtejpabdmiagnnaaDoor
open Go.RowKit
def stepC (leaf chain : Int) (p : Int) (x : UInt64) : UInt64 := hash 1 (words [u64 leaf, u64 chain, u64 p, x])
def runC (leaf chain : Int) (p : Int) (x : UInt64) : Nat -> UInt64
 | 0 => x
 | n + 1 => stepC leaf chain (p + n) (runC leaf chain p x n)
def run (leaf chain src dst : Int) (x : UInt64) : UInt64 := runC leaf chain (max src 0) x (min dst 15 - max src 0).toNat
def secret (seed : UInt64) (leaf c : Int) : UInt64 := mac seed 1 (words [u64 leaf, u64 c])
def combine (leaf : Int) (l : List UInt64) : UInt64 := hash 2 (words (u64 leaf :: l))
def pubEnds (seed : UInt64) (leaf : Int) (n : Nat) : List UInt64 := (List.range n).map fun (i : Nat) => run leaf i 0 15 (secret seed leaf i)
theorem pubEnds_len (seed : UInt64) (leaf : Int) (n : Nat) : (pubEnds seed leaf n).length = n := by simp [pubEnds]
theorem pubEnds_succ (seed : UInt64) (leaf : Int) (n : Nat) : pubEnds seed leaf (n + 1) = pubEnds seed leaf n ++ [run leaf n 0 15 (secret seed leaf n)] := by simp [pubEnds, List.range_succ]
end Go.Proofs.YtejpabdmiagnnaaDoor
namespace Go.Proofs.YtejpabdmiagnnaaDoor
open Go.RowKit
set_option maxRecDepth 100000
set_option maxHeartbeats 4000000
set_option linter.unusedVariables false
theorem refrun_ret (leaf chain src dst : Int) (x : UInt64) : Ret Tryd.prog 88 [ai leaf, ai chain, ai src, ai dst, aw x] (aw (run leaf chain src dst x)) := by
 unfold run
 have hp : (if 0 > src then 0 else src) = max src 0 := by split <;> omega
 have he : (if 15 < dst then 15 else dst) = min dst 15 := by split <;> omega
 generalize hpp : max src 0 = p at *
 generalize hee : min dst 15 = e at *
 refine Ret.of_fn Tryd.func88 (by kernel_rfl) 31 (by kernel_rfl) (by kernel_rfl) ?_
 refine AWP.regsKX 1 [{}] (by kernel_rfl) (C := []) (by kernel_rfl) trivial ?_
 refine AWP.seq (by kernel_rfl) ?_
 refine AWP.regsPX 1 [{ hs := [(1, { av := some (ai p) })] }] [.keep [11, 10, 0, 1, 2, 3, 4] []] (by kernel_rfl) (C := [ai (if (0 : Int) > src then (0 : Int) else src) = ai p]) (by kernel_rfl) ⟨(congrArg (fun n => AV.val (.int .i64 n)) hp), trivial⟩ ?_
 refine AWP.block (id := 0) (by kernel_rfl) ?_
 refine AWP.loop (fun (k : Nat) => (⟨[(10, AV.val (Value.int .u64 0)), (0, ai leaf), (1, ai chain), (2, ai src), (3, ai dst), (11, ai (p + k)), (4, aw (runC leaf chain p x k))], []⟩ : AS)) (fun k => (k ≤ (e - p).toNat)) (fun k => ((e - p).toNat - k)) (by kernel_rfl) (0) ?_ (Weaks.of [.keep [10, 0, 1, 2, 3, 11, 4] []] (s1 := AS.mk [(10, AV.val (Value.int .u64 0)), (0, ai leaf), (1, ai chain), (2, ai src), (3, ai dst), (11, ai p), (4, aw x)] []) (by kernel_rfl) (as_eq (f_cons rfl (f_cons rfl (f_cons rfl (f_cons rfl (f_cons rfl (f_cons (congrArg (fun n => AV.val (.int .i64 n)) (by omega)) (f_cons rfl rfl))))))) rfl)) ?_
 ·omega
 intro k hk
 refine AWP.seq (by kernel_rfl) ?_
 refine AWP.regsPX 1 [{ hs := [(2, { av := some (ai e) })] }] [.keep [17, 10, 0, 1, 2, 3, 11, 4] []] (by kernel_rfl) (C := [ai (if (15 : Int) < dst then (15 : Int) else dst) = ai e]) (by kernel_rfl) ⟨(congrArg (fun n => AV.val (.int .i64 n)) he), trivial⟩ ?_
 refine AWP.condD (x := .tmp 17) (p := p + (↑k : Int) < e) (by kernel_rfl) (by kernel_rfl) (fun h => ?_) (fun h => ?_)
 ·have hw : (words [u64 leaf, u64 chain, u64 (p + k), runC leaf chain p x k]).length = 32 := by rw [words_len]; rfl
  refine AWP.skip (by kernel_rfl) ?_
  refine then_n ?_
  refine AWP.seq (by kernel_rfl) ?_
  refine AWP.block (id := 1) (by kernel_rfl) ?_
  refine AWP.regX { hs := [(1, { av := some (aw (u64 leaf)) }), (3, { av := some (aw (u64 chain)) }), (5, { av := some (aw (u64 (p + (↑k : Int)))) }), (7, { av := some (AV.arr (wordsA [u64 leaf, u64 chain, u64 (p + (↑k : Int)), runC leaf chain p x k])) }), (8, { av := some (AV.own 1 (bytesA (words [u64 leaf, u64 chain, u64 (p + (↑k : Int)), runC leaf chain p x k]))) }), (9, { av := some (aw (hash (1 : Int) (words [u64 leaf, u64 chain, u64 (p + (↑k : Int)), runC leaf chain p x k]))) })] } (C := [AV.val (Value.int .u64 (IntKind.u64.wrap leaf)) = aw (u64 leaf), AV.val (Value.int .u64 (IntKind.u64.wrap chain)) = aw (u64 chain), AV.val (Value.int .u64 (IntKind.u64.wrap (p + (↑k : Int)))) = aw (u64 (p + (↑k : Int))), [aw (u64 leaf), aw (u64 chain), aw (u64 (p + (↑k : Int))), aw (runC leaf chain p x k)] = wordsA [u64 leaf, u64 chain, u64 (p + (↑k : Int)), runC leaf chain p x k], Ret Tryd.prog (43 : Nat) [AV.sl 1 (wordsA [u64 leaf, u64 chain, u64 (p + (↑k : Int)), runC leaf chain p x k])] (AV.own 1 (bytesA (words [u64 leaf, u64 chain, u64 (p + (↑k : Int)), runC leaf chain p x k]))), valR (bytesA (words [u64 leaf, u64 chain, u64 (p + (↑k : Int)), runC leaf chain p x k])), Ret Tryd.prog (48 : Nat) [ai 1, AV.sl 1 (bytesA (words [u64 leaf, u64 chain, u64 (p + (↑k : Int)), runC leaf chain p x k]))] (aw (hash (1 : Int) (words [u64 leaf, u64 chain, u64 (p + (↑k : Int)), runC leaf chain p x k])))]) (by kernel_rfl) ⟨(avw_conv (leaf)), (avw_conv (chain)), (avw_conv (p + (↑k : Int))), rfl, (refwords_ret ([u64 leaf, u64 chain, u64 (p + (↑k : Int)), runC leaf chain p x k]) (by simp only [List.length_cons, List.length_nil]; omega)), (valR_bytes _), (refhash_ret ((1 : Int)) (words [u64 leaf, u64 chain, u64 (p + (↑k : Int)), runC leaf chain p x k]) (by omega)), trivial⟩ ?_
  refine inb_n ?_
  refine then_n ?_
  refine AWP.regX { hs := [(1, { av := some (ai (p + (↑k : Int) + 1)) })] } (C := [ai (IntKind.i64.wrap (p + (↑k : Int) + 1)) = ai (p + (↑k : Int) + 1)]) (by kernel_rfl) ⟨(av_i64 (by omega) (by omega)), trivial⟩ ?_
  refine round_n (k + 1) (by omega) (by omega) (Weaks.of [.keep [10, 0, 1, 2, 3, 11, 4] []] (s1 := AS.mk [(10, AV.val (Value.int .u64 0)), (0, ai leaf), (1, ai chain), (2, ai src), (3, ai dst), (11, ai (p + (↑k : Int) + 1)), (4, aw (hash (1 : Int) (words [u64 leaf, u64 chain, u64 (p + (↑k : Int)), runC leaf chain p x k])))] []) (by kernel_rfl) (as_eq (f_cons rfl (f_cons rfl (f_cons rfl (f_cons rfl (f_cons rfl (f_cons (congrArg (fun n => AV.val (.int .i64 n)) (by omega)) (f_cons rfl rfl))))))) rfl))
 ·have e1 : k = (e - p).toNat := by omega
  subst e1
  refine AWP.exit (id := 0) (by kernel_rfl) ?_
  refine then_e ?_
  refine round_e ?_
  refine inb_e ?_
  refine then_n ?_
  refine AWP.regsPX 1 [{}] [.keep [10, 17, 0, 1, 2, 3, 11, 4] []] (by kernel_rfl) (C := []) (by kernel_rfl) trivial ?_
  refine AWP.ret (by kernel_rfl) ?_
  refine Done.ret_ (C := [Value.int .u64 (wv (runC leaf chain p x (e - p).toNat)) = Value.int .u64 (wv (runC leaf chain p x (e - p).toNat))]) (by kernel_rfl) ⟨rfl, trivial⟩
theorem refsecret_ret (seed : UInt64) (leaf c : Int) : Ret Tryd.prog 89 [aw seed, ai leaf, ai c] (aw (secret seed leaf c)) := by
 have hw : (words [u64 leaf, u64 c]).length = 16 := by rw [words_len]; rfl
 refine Ret.of_fn Tryd.func89 (by kernel_rfl) 15 (by kernel_rfl) (by kernel_rfl) ?_
 refine AWP.regsPX 2 [{}, { hs := [(2, { av := some (aw (u64 leaf)) }), (4, { av := some (aw (u64 c)) }), (5, { av := some (AV.arr (wordsA [u64 leaf, u64 c])) }), (6, { av := some (AV.own 1 (bytesA (words [u64 leaf, u64 c]))) }), (7, { av := some (aw (mac seed (1 : Int) (words [u64 leaf, u64 c]))) })] }] [.keep [6, 0, 1, 2] []] (by kernel_rfl) (C := [AV.val (Value.int .u64 (IntKind.u64.wrap leaf)) = aw (u64 leaf), AV.val (Value.int .u64 (IntKind.u64.wrap c)) = aw (u64 c), [aw (u64 leaf), aw (u64 c)] = wordsA [u64 leaf, u64 c], Ret Tryd.prog (43 : Nat) [AV.sl 1 (wordsA [u64 leaf, u64 c])] (AV.own 1 (bytesA (words [u64 leaf, u64 c]))), valR (bytesA (words [u64 leaf, u64 c])), Ret Tryd.prog (65 : Nat) [aw seed, ai 1, AV.sl 1 (bytesA (words [u64 leaf, u64 c]))] (aw (mac seed (1 : Int) (words [u64 leaf, u64 c])))]) (by kernel_rfl) ⟨(avw_conv (leaf)), (avw_conv (c)), rfl, (refwords_ret ([u64 leaf, u64 c]) (by simp only [List.length_cons, List.length_nil]; omega)), (valR_bytes _), (refmac_ret (seed) ((1 : Int)) (words [u64 leaf, u64 c]) (by omega)), trivial⟩ ?_
 refine AWP.ret (by kernel_rfl) ?_
 refine Done.ret_ (C := [Value.int .u64 (wv (mac seed (1 : Int) (words [u64 leaf, u64 c]))) = Value.int .u64 (wv (secret seed leaf c))]) (by kernel_rfl) ⟨rfl, trivial⟩
theorem refends_ret (leaf : Int) (l : List UInt64) (hl : l.length ≤ 18) : Ret Tryd.prog 90 [ai leaf, .sl 1 (wordsA l)] (aw (combine leaf l)) := by
 have h1 : (words [u64 leaf]).length = 8 := by rw [words_len]; rfl
 have h2 : (words l).length = 8 * l.length := words_len l
 have e : words [u64 leaf] ++ words l = words (u64 leaf :: l) := by rw [← words_app]; rfl
 refine Ret.of_fn Tryd.func90 (by kernel_rfl) 13 (by kernel_rfl) (by kernel_rfl) ?_
 refine AWP.regsPX 2 [{}, { hs := [(1, { av := some (aw (u64 leaf)) }), (2, { av := some (AV.arr (wordsA [u64 leaf])) }), (3, { av := some (AV.own 1 (bytesA (words [u64 leaf]))) }), (5, { av := some (AV.own 1 (bytesA (words l))) }), (6, { av := some (AV.arr (bytesA (words [u64 leaf] ++ words l))), b := false }), (7, { av := some (aw (hash (2 : Int) (words [u64 leaf] ++ words l))) })] }] [.keep [4, 0, 1] []] (by kernel_rfl) (C := [AV.val (Value.int .u64 (IntKind.u64.wrap leaf)) = aw (u64 leaf), [aw (u64 leaf)] = wordsA [u64 leaf], Ret Tryd.prog (43 : Nat) [AV.sl 1 (wordsA [u64 leaf])] (AV.own 1 (bytesA (words [u64 leaf]))), valR (bytesA (words [u64 leaf])), Ret Tryd.prog (43 : Nat) [AV.sl 1 (wordsA l)] (AV.own 1 (bytesA (words l))), valR (bytesA (words l)), bytesA (words [u64 leaf]) ++ bytesA (words l) = bytesA (words [u64 leaf] ++ words l), plainR (bytesA (words l)), ((bytesA (words [u64 leaf])).length + (bytesA (words l)).length) * (1 : Nat) ≤ (140737488355328 : Nat), Ret Tryd.prog (48 : Nat) [ai 2, AV.sl 1 (bytesA (words [u64 leaf] ++ words l))] (aw (hash (2 : Int) (words [u64 leaf] ++ words l)))]) (by kernel_rfl) ⟨(avw_conv (leaf)), rfl, (refwords_ret ([u64 leaf]) (by simp only [List.length_cons, List.length_nil]; omega)), (valR_bytes _), (refwords_ret (l) (by omega)), (valR_bytes _), (bytesA_app _ _), (plainR_bytes _), (by simp only [bytesA_len]; omega), (refhash_ret ((2 : Int)) (words [u64 leaf] ++ words l) (by simp only [List.length_append]; omega)), trivial⟩ ?_
 refine AWP.ret (by kernel_rfl) ?_
 refine Done.ret_ (C := [Value.int .u64 (wv (hash (2 : Int) (words [u64 leaf] ++ words l))) = Value.int .u64 (wv (combine leaf l))]) (by kernel_rfl) ⟨rfl, trivial⟩
theorem refleaf_ret (seed : UInt64) (leaf : Int) : Ret Tryd.prog 79 [aw seed, ai leaf] (aw (combine leaf (pubEnds seed leaf 18))) := by
 refine Ret.of_fn Tryd.func79 (by kernel_rfl) 24 (by kernel_rfl) (by kernel_rfl) ?_
 refine AWP.regsKX 2 [{}, {}] (by kernel_rfl) (C := []) (by kernel_rfl) trivial ?_
 refine AWP.seq (by kernel_rfl) ?_
 refine AWP.regsKX 1 [{}] (by kernel_rfl) (C := []) (by kernel_rfl) trivial ?_
 refine AWP.block (id := 0) (by kernel_rfl) ?_
 refine AWP.loop (fun (k : Nat) => (⟨[(4, AV.val (Value.int .u64 0)), (0, aw seed), (1, ai leaf), (6, ai k), (5, AV.ref 23)], [(23, ⟨1, true, false, wordsA (pubEnds seed leaf k)⟩)]⟩ : AS)) (fun k => (k ≤ 18)) (fun k => (18 - k)) (by kernel_rfl) (0) ?_ (Weaks.ofX [.nil 5 23 1, .keep [4, 0, 1, 6, 5] [23]] (by kernel_rfl)) ?_
 ·omega
 intro k hk
 have hl := pubEnds_len seed leaf k
 refine AWP.seq (by kernel_rfl) ?_
 refine AWP.regsKX 1 [{}] (by kernel_rfl) (C := []) (by kernel_rfl) trivial ?_
 refine AWP.condD (x := .tmp 8) (p := (↑k : Int) < 18) (by kernel_rfl) (by kernel_rfl) (fun h => ?_) (fun h => ?_)
 ·skip
  refine AWP.skip (by kernel_rfl) ?_
  refine then_n ?_
  refine AWP.seq (by kernel_rfl) ?_
  refine AWP.block (id := 1) (by kernel_rfl) ?_
  refine AWP.regX { hs := [(6, { av := some (aw (secret seed leaf (↑k : Int))) }), (7, { av := some (aw (run leaf (↑k : Int) (0 : Int) (15 : Int) (secret seed leaf (↑k : Int)))) }), (8, { av := some (AV.arr (wordsA [run leaf (↑k : Int) (0 : Int) (15 : Int) (secret seed leaf (↑k : Int))])) }), (9, { av := some (AV.arr (wordsA (pubEnds seed leaf k ++ [run leaf (↑k : Int) (0 : Int) (15 : Int) (secret seed leaf (↑k : Int))]))) })] } (C := [Ret Tryd.prog (89 : Nat) [aw seed, ai leaf, ai (↑k : Int)] (aw (secret seed leaf (↑k : Int))), Ret Tryd.prog (88 : Nat) [ai leaf, ai (↑k : Int), ai 0, ai 15, aw (secret seed leaf (↑k : Int))] (aw (run leaf (↑k : Int) (0 : Int) (15 : Int) (secret seed leaf (↑k : Int)))), [aw (run leaf (↑k : Int) (0 : Int) (15 : Int) (secret seed leaf (↑k : Int)))] = wordsA [run leaf (↑k : Int) (0 : Int) (15 : Int) (secret seed leaf (↑k : Int))], wordsA (pubEnds seed leaf k) ++ wordsA [run leaf (↑k : Int) (0 : Int) (15 : Int) (secret seed leaf (↑k : Int))] = wordsA (pubEnds seed leaf k ++ [run leaf (↑k : Int) (0 : Int) (15 : Int) (secret seed leaf (↑k : Int))]), ((wordsA (pubEnds seed leaf k)).length + (wordsA [run leaf (↑k : Int) (0 : Int) (15 : Int) (secret seed leaf (↑k : Int))]).length) * (8 : Nat) ≤ (140737488355328 : Nat)]) (by kernel_rfl) ⟨(refsecret_ret (seed) (leaf) ((↑k : Int))), (refrun_ret (leaf) ((↑k : Int)) ((0 : Int)) ((15 : Int)) (secret seed leaf (↑k : Int))), rfl, (wordsA_app _ _), (by simp only [wordsA_len, List.length_cons, List.length_nil]; omega), trivial⟩ ?_
  refine inb_n ?_
  refine then_n ?_
  refine AWP.regX { hs := [(1, { av := some (ai ((↑k : Int) + 1)) })] } (C := [ai (IntKind.i64.wrap ((↑k : Int) + 1)) = ai ((↑k : Int) + 1)]) (by kernel_rfl) ⟨(av_i64 (by omega) (by omega)), trivial⟩ ?_
  refine round_n (k + 1) (by omega) (by omega) (Weaks.of [.ren 20 23, .keep [4, 0, 1, 6, 5] [23]] (s1 := AS.mk [(4, AV.val (Value.int .u64 0)), (0, aw seed), (1, ai leaf), (6, ai ((↑k : Int) + 1)), (5, AV.ref 23)] [(23, Row.mk 1 true false (wordsA (pubEnds seed leaf k ++ [run leaf (↑k : Int) (0 : Int) (15 : Int) (secret seed leaf (↑k : Int))])))]) (by kernel_rfl) (as_eq (f_cons rfl (f_cons rfl (f_cons rfl (f_cons (congrArg (fun n => AV.val (.int .i64 n)) (by omega)) (f_cons rfl rfl))))) (h_cons (congrArg wordsA (pubEnds_succ seed leaf k).symm) rfl)))
 ·have e : k = 18 := by omega
  subst e
  refine AWP.exit (id := 0) (by kernel_rfl) ?_
  refine then_e ?_
  refine round_e ?_
  refine inb_e ?_
  refine then_n ?_
  refine AWP.regsPX 1 [{ hs := [(2, { av := some (aw (combine leaf (pubEnds seed leaf (18 : Nat)))) })] }] [.keep [4, 8, 0, 1, 6, 5] [23]] (by kernel_rfl) (C := [Ret Tryd.prog (90 : Nat) [ai leaf, AV.sl 1 (wordsA (pubEnds seed leaf (18 : Nat)))] (aw (combine leaf (pubEnds seed leaf (18 : Nat))))]) (by kernel_rfl) ⟨(refends_ret (leaf) (pubEnds seed leaf (18 : Nat)) (by assumption)), trivial⟩ ?_
  refine AWP.ret (by kernel_rfl) ?_
  refine Done.ret_ (C := [Value.int .u64 (wv (combine leaf (pubEnds seed leaf (18 : Nat)))) = Value.int .u64 (wv (combine leaf (pubEnds seed leaf (18 : Nat))))]) (by kernel_rfl) ⟨rfl, trivial⟩
theorem samewords_go (a b : List UInt64) (k : Nat) (hl : a.length = b.length) (h : a.take k = b.take k) (hk : k < a.length) (hn : a.getD k 0 ≠ b.getD k 0) : (a == b) = false := by
 rw [beq_eq_false_iff_ne]
 intro e; subst e; exact hn rfl
theorem take_snoc_eq {a b : List UInt64} {k : Nat} (hl : a.length = b.length) (h : a.take k = b.take k) (hk : k < a.length) (hn : a.getD k 0 = b.getD k 0) : a.take (k + 1) = b.take (k + 1) := by
 rw [List.take_add_one, List.take_add_one, h]
 rw [List.getD_eq_getElem?_getD, List.getD_eq_getElem?_getD, List.getElem?_eq_getElem hk, List.getElem?_eq_getElem (by omega)] at hn
 rw [List.getElem?_eq_getElem hk, List.getElem?_eq_getElem (by omega)]
 simp only [Option.getD_some] at hn
 rw [hn]
theorem samewords_ret (a b : List UInt64) : Ret Tryd.prog 45 [.sl 1 (wordsA a), .sl 1 (wordsA b)] (ao (a == b)) := by
 refine Ret.len 0 rfl fun hla => ?_
 rw [wordsA_len] at hla
 by_cases hl : a.length = b.length
 case neg =>
  have e : (a == b) = false := by rw [beq_eq_false_iff_ne]; intro e; exact hl (by rw [e])
  refine Ret.of_fn Tryd.func45 (by kernel_rfl) 26 (by kernel_rfl) (by kernel_rfl) ?_
  refine AWP.regsKX 1 [{}] (by kernel_rfl) (C := []) (by kernel_rfl) trivial ?_
  refine AWP.seq (by kernel_rfl) ?_
  refine AWP.regsPX 1 [{ hs := [(1, { k := a.length }), (3, { k := b.length })] }] [.keep [10, 4, 0, 1] []] (by kernel_rfl) (C := [(wordsA a).length = a.length, (wordsA b).length = b.length]) (by kernel_rfl) ⟨(wordsA_len _), (wordsA_len _), trivial⟩ ?_
  refine AWP.condT (x := .tmp 10) (b := (↑a.length : Int) != (↑b.length : Int)) (by kernel_rfl) (by kernel_rfl) (by simp; omega) ?_
  refine AWP.regsKX 1 [{}] (by kernel_rfl) (C := []) (by kernel_rfl) trivial ?_
  refine AWP.ret (by kernel_rfl) ?_
  refine then_r ?_
  refine Done.ret_ (C := [Value.bool false = Value.bool (a == b)]) (by kernel_rfl) ⟨(by rw [e]), trivial⟩
 refine Ret.of_fn Tryd.func45 (by kernel_rfl) 26 (by kernel_rfl) (by kernel_rfl) ?_
 refine AWP.regsKX 1 [{}] (by kernel_rfl) (C := []) (by kernel_rfl) trivial ?_
 refine AWP.seq (by kernel_rfl) ?_
 refine AWP.regsPX 1 [{ hs := [(1, { k := a.length }), (3, { k := b.length })] }] [.keep [10, 4, 0, 1] []] (by kernel_rfl) (C := [(wordsA a).length = a.length, (wordsA b).length = b.length]) (by kernel_rfl) ⟨(wordsA_len _), (wordsA_len _), trivial⟩ ?_
 refine AWP.condF (x := .tmp 10) (b := (↑a.length : Int) != (↑b.length : Int)) (by kernel_rfl) (by kernel_rfl) (by simp_all) ?_
 refine AWP.skip (by kernel_rfl) ?_
 refine then_n ?_
 refine AWP.seq (by kernel_rfl) ?_
 refine AWP.regsKX 1 [{}] (by kernel_rfl) (C := []) (by kernel_rfl) trivial ?_
 refine AWP.block (id := 0) (by kernel_rfl) ?_
 refine AWP.loop (fun (k : Nat) => (⟨[(10, ao ((↑a.length : Int) != (↑b.length : Int))), (0, AV.sl 1 (wordsA a)), (1, AV.sl 1 (wordsA b)), (5, ai k)], []⟩ : AS)) (fun k => (k ≤ a.length ∧ a.take k = b.take k)) (fun k => (a.length - k)) (by kernel_rfl) (0) ?_ (Weaks.ofX [.keep [10, 0, 1, 5] []] (by kernel_rfl)) ?_
 ·exact ⟨by omega, by simp⟩
 rintro k ⟨hk, he⟩
 refine AWP.seq (by kernel_rfl) ?_
 refine AWP.regsPX 1 [{ hs := [(2, { k := a.length })] }] [.keep [14, 10, 0, 1, 5] []] (by kernel_rfl) (C := [(wordsA a).length = a.length]) (by kernel_rfl) ⟨(wordsA_len _), trivial⟩ ?_
 refine AWP.condD (x := .tmp 14) (p := (↑k : Int) < (↑a.length : Int)) (by kernel_rfl) (by kernel_rfl) (fun h => ?_) (fun h => ?_)
 ·skip
  refine AWP.skip (by kernel_rfl) ?_
  refine then_n ?_
  refine AWP.seq (by kernel_rfl) ?_
  refine AWP.block (id := 1) (by kernel_rfl) ?_
  refine AWP.regsPX 1 [{ hs := [(2, { k := k }), (3, { av := some (aw (a.getD k 0)) }), (6, { k := k }), (7, { av := some (aw (b.getD k 0)) }), (8, { av := some (ao (a.getD k 0 != b.getD k 0)) })], T := 8 }] [.keep [25, 14, 10, 0, 1, 5] []] (by kernel_rfl) (C := [(↑k : Int) = (↑k : Int), k < (wordsA a).length, (wordsA a)[k]? = some (aw (a.getD k 0)), (↑k : Int) = (↑k : Int), k < (wordsA b).length, (wordsA b)[k]? = some (aw (b.getD k 0)), ao (wv (a.getD k 0) != wv (b.getD k 0)) = ao (a.getD k 0 != b.getD k 0)]) (by kernel_rfl) ⟨rfl, (by simp only [wordsA_len]; omega), (wordsA_at (by omega)), rfl, (by simp only [wordsA_len]; omega), (wordsA_at (by omega)), (avw_ne (a.getD k 0) (b.getD k 0)), trivial⟩ ?_
  refine AWP.condN (x := .tmp 25) (u := a.getD k 0) (v := b.getD k 0) (by kernel_rfl) (by kernel_rfl) (fun h2 => ?_) (fun h2 => ?_)
  ·have e := samewords_go a b k hl he (by omega) h2
   refine AWP.regsKX 1 [{}] (by kernel_rfl) (C := []) (by kernel_rfl) trivial ?_
   refine AWP.ret (by kernel_rfl) ?_
   refine inb_r ?_
   refine then_r ?_
   refine round_r ?_
   refine inb_r ?_
   refine then_r ?_
   refine Done.ret_ (C := [Value.bool false = Value.bool (a == b)]) (by kernel_rfl) ⟨(by rw [e]), trivial⟩
  ·skip
   refine AWP.skip (by kernel_rfl) ?_
   refine inb_n ?_
   refine then_n ?_
   refine AWP.regX { hs := [(1, { av := some (ai ((↑k : Int) + 1)) })] } (C := [ai (IntKind.i64.wrap ((↑k : Int) + 1)) = ai ((↑k : Int) + 1)]) (by kernel_rfl) ⟨(av_i64 (by omega) (by omega)), trivial⟩ ?_
   refine round_n (k + 1) ⟨by omega, take_snoc_eq hl he (by omega) h2⟩ (by omega) (Weaks.ofX [.keep [10, 0, 1, 5] []] (by kernel_rfl))
 ·have e : k = a.length := by omega
  subst e
  have e : (a == b) = true := by
   rw [beq_iff_eq]; rw [List.take_of_length_le (Nat.le_refl _), List.take_of_length_le (by omega)] at he; exact he
  refine AWP.exit (id := 0) (by kernel_rfl) ?_
  refine then_e ?_
  refine round_e ?_
  refine inb_e ?_
  refine then_n ?_
  refine AWP.regsKX 1 [{}] (by kernel_rfl) (C := []) (by kernel_rfl) trivial ?_
  refine AWP.ret (by kernel_rfl) ?_
  refine Done.ret_ (C := [Value.bool true = Value.bool (a == b)]) (by kernel_rfl) ⟨(by rw [e]), trivial⟩
end Go.Proofs.YtejpabdmiagnnaaDoor
