/-
  The contracts of passkeycast.Mod, passkeyref3.Stream and passkeycast.Bytes. Conditions: Mod by at least 1.
-/
import Derived.Test.YtbehdllomepkdaaDR
namespace Go.Proofs.Ytbehdllomepkdaa
open Go.RowKit
set_option maxRecDepth 100000
set_option maxHeartbeats 4000000
set_option linter.unusedVariables false

/-- 'v' as a natural number below 2^64, modulo n. -/
def modI (v n : Int) : Nat := ((v % 18446744073709551616) % n).toNat
theorem modI_lt (v : Int) {n : Int} (h : 1 ≤ n) : (modI v n : Int) < n := by
  have := Int.emod_lt_of_pos (v % 18446744073709551616) (show 0 < n by omega)
  have := Int.emod_nonneg (v % 18446744073709551616) (show n ≠ 0 by omega)
  unfold modI; omega
theorem u64_wv (v : Int) : wv (u64 v) = v % 18446744073709551616 := by rw [← wv_ofInt, IntKind.wrap_u64]
theorem mod_ret (v n : Int) (h1 : 1 ≤ n) (h2 : n ≤ 9223372036854775807) : Ret Try.prog 20 [ai v, ai n] (ai (modI v n)) := by
  have hn : wv (u64 n) = n := by rw [u64_wv]; omega
  have hm := modI_lt v h1
  have e : (wv (u64 v)).tmod (wv (u64 n)) = modI v n := by
    have h0 : 0 ≤ v % 18446744073709551616 := Int.emod_nonneg _ (by decide)
    have := Int.emod_nonneg (v % 18446744073709551616) (show n ≠ 0 by omega)
    rw [hn, u64_wv, Int.tmod_eq_emod_of_nonneg h0]; unfold modI; omega
  refine Ret.of_fn Try.func20 (by kernel_rfl) 11 (by kernel_rfl) (by kernel_rfl) ?_
  skip
  refine AWP.regsK 2 [{  }, { hs := [(1, { av := some (aw (u64 v)) }), (3, { av := some (aw (u64 n)) }), (5, { av := some (ai ((wv (u64 v)).tmod (wv (u64 n)))) })] }] (by kernel_rfl) (s' := AS.mk [(4, ai ((wv (u64 v)).tmod (wv (u64 n)))), (10, ai ((wv (u64 v)).tmod (wv (u64 n)))), (9, AV.val (Value.int IntKind.u64 ((wv (u64 v)).tmod (wv (u64 n))))), (8, aw (u64 n)), (7, ai n), (6, aw (u64 v)), (5, ai v), (0, ai v), (1, ai n)] []) (C := [AV.val (Value.int IntKind.u64 (IntKind.u64.wrap v)) = aw (u64 v), AV.val (Value.int IntKind.u64 (IntKind.u64.wrap n)) = aw (u64 n), wv (u64 n) ≠ (0 : Int), ai (IntKind.i64.wrap ((wv (u64 v)).tmod (wv (u64 n)))) = ai ((wv (u64 v)).tmod (wv (u64 n)))]) (by kernel_rfl) ⟨(avw_conv (v)), (avw_conv (n)), (by omega), (av_i64 (by omega) (by omega)), trivial⟩ ?_
  refine AWP.wk [.keep [4, 0, 1] []] (s' := AS.mk [(4, ai ((wv (u64 v)).tmod (wv (u64 n)))), (0, ai v), (1, ai n)] []) (by kernel_rfl) ?_
  refine AWP.ret (by kernel_rfl) ?_
  refine Done.ret_ (C := [Value.int IntKind.i64 ((wv (u64 v)).tmod (wv (u64 n))) = Value.int IntKind.i64 (↑(modI v n) : Int)]) (by kernel_rfl) ⟨(by rw [e]), trivial⟩
/-- A block of the stream. -/
def blk (key nonce : UInt64) (i : Nat) : List UInt8 := words [mac key 5 (words [nonce, u64 i])]
def strm (key nonce : UInt64) : Nat → List UInt8
  | 0 => []
  | k + 1 => strm key nonce k ++ blk key nonce k
theorem blk_len (key nonce : UInt64) (i : Nat) : (blk key nonce i).length = 8 := by rw [blk, words_len]; rfl
theorem strm_len (key nonce : UInt64) : ∀ k, (strm key nonce k).length = 8 * k
  | 0 => rfl
  | k + 1 => by rw [strm, List.length_append, strm_len key nonce k, blk_len]; omega
def streamN (n : Int) : Nat := (min (max n 0) 1024).toNat
def stream (key nonce : UInt64) (n : Int) : List UInt8 := (strm key nonce ((streamN n + 7) / 8)).take (streamN n)
theorem stream_len (key nonce : UInt64) (n : Int) : (stream key nonce n).length = streamN n := by
  rw [stream, List.length_take, strm_len]; omega
theorem refstream_ret (key nonce : UInt64) (n : Int) : Ret Try.prog 33 [aw key, aw nonce, ai n] (.own 1 (bytesA (stream key nonce n))) := by
  generalize hm : streamN n = m
  have hv : (if 1024 < if 0 > n then 0 else n then 1024 else if 0 > n then 0 else n) = (m : Int) := by
    rw [← hm]; unfold streamN; split <;> split at * <;> omega
  have hm2 : m ≤ 1024 := by rw [← hm]; unfold streamN; omega
  refine Ret.of_fn Try.func33 (by kernel_rfl) 32 (by kernel_rfl) (by kernel_rfl) ?_
  skip
  refine AWP.regsK 3 [{  }, { hs := [(2, { av := some (ai (↑m : Int)) })] }, {  }] (by kernel_rfl) (s' := AS.mk [(7, AV.nil), (2, ai (↑m : Int)), (11, ai (↑m : Int)), (10, ai (if (0 : Int) > n then (0 : Int) else n)), (9, ai n), (6, AV.nil), (0, aw key), (1, aw nonce)] []) (C := [ai (if (1024 : Int) < if (0 : Int) > n then (0 : Int) else n then (1024 : Int) else if (0 : Int) > n then (0 : Int) else n) = ai (↑m : Int)]) (by kernel_rfl) ⟨(congrArg (fun n => AV.val (.int .i64 n)) hv), trivial⟩ ?_
  refine AWP.wk [.keep [7, 2, 6, 0, 1] []] (s' := AS.mk [(7, AV.nil), (2, ai (↑m : Int)), (6, AV.nil), (0, aw key), (1, aw nonce)] []) (by kernel_rfl) ?_
  refine AWP.seq (by kernel_rfl) ?_
  refine AWP.regsK 1 [{  }] (by kernel_rfl) (s' := AS.mk [(8, ai 0), (7, AV.nil), (2, ai (↑m : Int)), (6, AV.nil), (0, aw key), (1, aw nonce)] []) (C := []) (by kernel_rfl) trivial ?_
  refine AWP.block (id := 0) (by kernel_rfl) ?_
  refine AWP.loop (fun (k : Nat) => (⟨[(2, ai (↑m : Int)), (6, AV.nil), (0, aw key), (1, aw nonce), (8, ai k), (7, AV.ref 28)], [(28, ⟨1, true, false, bytesA (strm key nonce k)⟩)]⟩ : AS)) (fun k => (8 * k < m + 8)) (fun k => (m + 8 - 8 * k)) (by kernel_rfl) (0) ?_ (Weaks.of [.nil 7 28 1, .keep [2, 6, 0, 1, 8, 7] [28]] (s1 := AS.mk [(2, ai (↑m : Int)), (6, AV.nil), (0, aw key), (1, aw nonce), (8, ai 0), (7, AV.ref 28)] [(28, Row.mk 1 true false [])]) (by kernel_rfl) rfl) ?_
  · omega
  intro k hk
  have hl := strm_len key nonce k
  skip
  refine AWP.seq (by kernel_rfl) ?_
  refine AWP.regsK 1 [{ hs := [(1, { k := (strm key nonce k).length })] }] (by kernel_rfl) (s' := AS.mk [(15, ao (decide ((↑(strm key nonce k).length : Int) < (↑m : Int)))), (14, ai (↑m : Int)), (13, ai (↑(strm key nonce k).length : Int)), (12, AV.ref 28), (2, ai (↑m : Int)), (6, AV.nil), (0, aw key), (1, aw nonce), (8, ai (↑k : Int)), (7, AV.ref 28)] [(28, Row.mk 1 true false (bytesA (strm key nonce k)))]) (C := [(bytesA (strm key nonce k)).length = (strm key nonce k).length]) (by kernel_rfl) ⟨(bytesA_len _), trivial⟩ ?_
  refine AWP.wk [.keep [15, 2, 6, 0, 1, 8, 7] [28]] (s' := AS.mk [(15, ao (decide ((↑(strm key nonce k).length : Int) < (↑m : Int)))), (2, ai (↑m : Int)), (6, AV.nil), (0, aw key), (1, aw nonce), (8, ai (↑k : Int)), (7, AV.ref 28)] [(28, Row.mk 1 true false (bytesA (strm key nonce k)))]) (by kernel_rfl) ?_
  refine AWP.condD (x := Operand.tmp (15 : Nat)) (p := (↑(strm key nonce k).length : Int) < (↑m : Int)) (by kernel_rfl) (by kernel_rfl) (fun h1 => ?_) (fun h1 => ?_)
  · skip
    refine AWP.skip (by kernel_rfl) ?_
    skip
    refine then_n ?_
    refine AWP.seq (by kernel_rfl) ?_
    refine AWP.block (id := 1) (by kernel_rfl) ?_
    refine AWP.reg { hs := [(4, { av := some (aw (u64 (↑k : Int))) }), (5, { av := some (AV.arr (wordsA [nonce, u64 (↑k : Int)])) }), (6, { av := some (AV.own 1 (bytesA (words [nonce, u64 (↑k : Int)]))) }), (7, { av := some (aw (mac key (5 : Int) (words [nonce, u64 (↑k : Int)]))) }), (8, { av := some (AV.arr (wordsA [mac key (5 : Int) (words [nonce, u64 (↑k : Int)])])) }), (9, { av := some (AV.own 1 (bytesA (words [mac key (5 : Int) (words [nonce, u64 (↑k : Int)])]))) }), (10, { av := some (AV.arr (bytesA (strm key nonce k ++ words [mac key (5 : Int) (words [nonce, u64 (↑k : Int)])]))) })] } (s' := AS.mk [(7, AV.ref 28), (28, AV.ref 28), (27, AV.ref 27), (26, AV.ref 26), (25, aw (mac key (5 : Int) (words [nonce, u64 (↑k : Int)]))), (24, AV.ref 24), (23, AV.ref 23), (22, aw (u64 (↑k : Int))), (21, ai (↑k : Int)), (20, aw nonce), (19, aw key), (18, AV.dead), (15, ao (decide ((↑(strm key nonce k).length : Int) < (↑m : Int)))), (2, ai (↑m : Int)), (6, AV.nil), (0, aw key), (1, aw nonce), (8, ai (↑k : Int))] [(28, Row.mk 1 true false (bytesA (strm key nonce k ++ words [mac key (5 : Int) (words [nonce, u64 (↑k : Int)])]))), (27, Row.mk 1 true false (bytesA (words [mac key (5 : Int) (words [nonce, u64 (↑k : Int)])]))), (26, Row.mk 1 true true (wordsA [mac key (5 : Int) (words [nonce, u64 (↑k : Int)])])), (24, Row.mk 1 true false (bytesA (words [nonce, u64 (↑k : Int)]))), (23, Row.mk 1 true true (wordsA [nonce, u64 (↑k : Int)]))]) (C := [AV.val (Value.int IntKind.u64 (IntKind.u64.wrap (↑k : Int))) = aw (u64 (↑k : Int)), [aw nonce, aw (u64 (↑k : Int))] = wordsA [nonce, u64 (↑k : Int)], Ret Try.prog (49 : Nat) [AV.sl 1 (wordsA [nonce, u64 (↑k : Int)])] (AV.own 1 (bytesA (words [nonce, u64 (↑k : Int)]))), valR (bytesA (words [nonce, u64 (↑k : Int)])), Ret Try.prog (50 : Nat) [aw key, ai 5, AV.sl 1 (bytesA (words [nonce, u64 (↑k : Int)]))] (aw (mac key (5 : Int) (words [nonce, u64 (↑k : Int)]))), [aw (mac key (5 : Int) (words [nonce, u64 (↑k : Int)]))] = wordsA [mac key (5 : Int) (words [nonce, u64 (↑k : Int)])], Ret Try.prog (49 : Nat) [AV.sl 1 (wordsA [mac key (5 : Int) (words [nonce, u64 (↑k : Int)])])] (AV.own 1 (bytesA (words [mac key (5 : Int) (words [nonce, u64 (↑k : Int)])]))), valR (bytesA (words [mac key (5 : Int) (words [nonce, u64 (↑k : Int)])])), bytesA (strm key nonce k) ++ bytesA (words [mac key (5 : Int) (words [nonce, u64 (↑k : Int)])]) = bytesA (strm key nonce k ++ words [mac key (5 : Int) (words [nonce, u64 (↑k : Int)])]), ((bytesA (strm key nonce k)).length + (bytesA (words [mac key (5 : Int) (words [nonce, u64 (↑k : Int)])])).length) * (1 : Nat) ≤ (140737488355328 : Nat)]) (by kernel_rfl) ⟨(avw_conv ((↑k : Int))), rfl, (refwords_ret ([nonce, u64 (↑k : Int)]) (by simp only [List.length_cons, List.length_nil]; omega)), (valR_bytes _), (refmac_ret (key) ((5 : Int)) (words [nonce, u64 (↑k : Int)]) (by simp only [List.length_cons, List.length_nil, words_len]; omega)), rfl, (refwords_ret ([mac key (5 : Int) (words [nonce, u64 (↑k : Int)])]) (by simp only [List.length_cons, List.length_nil]; omega)), (valR_bytes _), (bytesA_app _ _), (by simp only [bytesA_len, List.length_cons, List.length_nil, words_len]; omega), trivial⟩ ?_
    skip
    refine inb_n ?_
    refine then_n ?_
    refine AWP.reg { hs := [(1, { av := some (ai ((↑k : Int) + (1 : Int))) })] } (s' := AS.mk [(8, ai ((↑k : Int) + (1 : Int))), (17, ai ((↑k : Int) + (1 : Int))), (16, ai (↑k : Int)), (7, AV.ref 28), (28, AV.ref 28), (27, AV.ref 27), (26, AV.ref 26), (25, aw (mac key (5 : Int) (words [nonce, u64 (↑k : Int)]))), (24, AV.ref 24), (23, AV.ref 23), (22, aw (u64 (↑k : Int))), (21, ai (↑k : Int)), (20, aw nonce), (19, aw key), (18, AV.dead), (15, ao (decide ((↑(strm key nonce k).length : Int) < (↑m : Int)))), (2, ai (↑m : Int)), (6, AV.nil), (0, aw key), (1, aw nonce)] [(28, Row.mk 1 true false (bytesA (strm key nonce k ++ words [mac key (5 : Int) (words [nonce, u64 (↑k : Int)])]))), (27, Row.mk 1 true false (bytesA (words [mac key (5 : Int) (words [nonce, u64 (↑k : Int)])]))), (26, Row.mk 1 true true (wordsA [mac key (5 : Int) (words [nonce, u64 (↑k : Int)])])), (24, Row.mk 1 true false (bytesA (words [nonce, u64 (↑k : Int)]))), (23, Row.mk 1 true true (wordsA [nonce, u64 (↑k : Int)]))]) (C := [ai (IntKind.i64.wrap ((↑k : Int) + (1 : Int))) = ai ((↑k : Int) + (1 : Int))]) (by kernel_rfl) ⟨(av_i64 (by omega) (by omega)), trivial⟩ ?_
    refine round_n (k + 1) (by omega) (by omega) (Weaks.of [.keep [2, 6, 0, 1, 8, 7] [28]] (s1 := AS.mk [(2, ai (↑m : Int)), (6, AV.nil), (0, aw key), (1, aw nonce), (8, ai ((↑k : Int) + (1 : Int))), (7, AV.ref 28)] [(28, Row.mk 1 true false (bytesA (strm key nonce k ++ words [mac key (5 : Int) (words [nonce, u64 (↑k : Int)])])))]) (by kernel_rfl) rfl)
  · have e : k = (m + 7) / 8 := by omega
    skip
    refine AWP.exit (id := 0) (by kernel_rfl) ?_
    skip
    refine then_e ?_
    refine round_e ?_
    refine inb_e ?_
    refine then_n ?_
    refine AWP.regsK 1 [{ hs := [(2, { m := m })] }] (by kernel_rfl) (s' := AS.mk [(6, AV.pre 28 m), (31, AV.pre 28 m), (30, ai (↑m : Int)), (29, AV.ref 28), (15, ao (decide ((↑(strm key nonce k).length : Int) < (↑m : Int)))), (2, ai (↑m : Int)), (0, aw key), (1, aw nonce), (8, ai (↑k : Int)), (7, AV.ref 28)] [(28, Row.mk 1 true false (bytesA (strm key nonce k)))]) (C := [(↑m : Int) = (↑m : Int), m ≤ (bytesA (strm key nonce k)).length]) (by kernel_rfl) ⟨rfl, (by simp only [bytesA_len]; omega), trivial⟩ ?_
    refine AWP.wk [.keep [6, 15, 2, 0, 1, 8, 7] [28]] (s' := AS.mk [(6, AV.pre 28 m), (15, ao (decide ((↑(strm key nonce k).length : Int) < (↑m : Int)))), (2, ai (↑m : Int)), (0, aw key), (1, aw nonce), (8, ai (↑k : Int)), (7, AV.ref 28)] [(28, Row.mk 1 true false (bytesA (strm key nonce k)))]) (by kernel_rfl) ?_
    refine AWP.ret (by kernel_rfl) ?_
    refine Done.ret_ (C := [List.take m (bytesA (strm key nonce k)) = bytesA (stream key nonce n)]) (by kernel_rfl) ⟨(by rw [bytesA_take, stream, hm, ← e]), trivial⟩
theorem bytes_ret (seed n : Int) : Ret Try.prog 21 [ai seed, ai n] (.own 1 (bytesA (stream (u64 seed + 1) 7 n))) := by
  have hs : streamN (if 0 > if 1024 < n then 1024 else n then 0 else if 1024 < n then 1024 else n) = streamN n := by
    unfold streamN; split <;> split at * <;> omega
  refine Ret.of_fn Try.func21 (by kernel_rfl) 12 (by kernel_rfl) (by kernel_rfl) ?_
  skip
  refine AWP.regsK 2 [{  }, { hs := [(1, { av := some (aw (u64 seed)) }), (2, { av := some (aw (u64 seed + (1 : UInt64))) }), (6, { av := some (AV.own 1 (bytesA (stream (u64 seed + (1 : UInt64)) (7 : UInt64) (if (0 : Int) > if (1024 : Int) < n then (1024 : Int) else n then (0 : Int) else if (1024 : Int) < n then (1024 : Int) else n)))) })] }] (by kernel_rfl) (s' := AS.mk [(4, AV.ref 11), (11, AV.ref 11), (10, ai (if (0 : Int) > if (1024 : Int) < n then (1024 : Int) else n then (0 : Int) else if (1024 : Int) < n then (1024 : Int) else n)), (9, ai (if (1024 : Int) < n then (1024 : Int) else n)), (8, ai n), (7, aw (u64 seed + (1 : UInt64))), (6, aw (u64 seed)), (5, ai seed), (0, ai seed), (1, ai n)] [(11, Row.mk 1 true false (bytesA (stream (u64 seed + (1 : UInt64)) (7 : UInt64) (if (0 : Int) > if (1024 : Int) < n then (1024 : Int) else n then (0 : Int) else if (1024 : Int) < n then (1024 : Int) else n))))]) (C := [AV.val (Value.int IntKind.u64 (IntKind.u64.wrap seed)) = aw (u64 seed), AV.val (Value.int IntKind.u64 (IntKind.u64.wrap (wv (u64 seed) + (1 : Int)))) = aw (u64 seed + (1 : UInt64)), Ret Try.prog (33 : Nat) [aw (u64 seed + (1 : UInt64)), AV.val (Value.int IntKind.u64 (7 : Int)), ai (if (0 : Int) > if (1024 : Int) < n then (1024 : Int) else n then (0 : Int) else if (1024 : Int) < n then (1024 : Int) else n)] (AV.own 1 (bytesA (stream (u64 seed + (1 : UInt64)) (7 : UInt64) (if (0 : Int) > if (1024 : Int) < n then (1024 : Int) else n then (0 : Int) else if (1024 : Int) < n then (1024 : Int) else n)))), valR (bytesA (stream (u64 seed + (1 : UInt64)) (7 : UInt64) (if (0 : Int) > if (1024 : Int) < n then (1024 : Int) else n then (0 : Int) else if (1024 : Int) < n then (1024 : Int) else n)))]) (by kernel_rfl) ⟨(avw_conv (seed)), (avw_add (u64 seed) ((1 : UInt64))), (refstream_ret (u64 seed + (1 : UInt64)) ((7 : UInt64)) (if (0 : Int) > if (1024 : Int) < n then (1024 : Int) else n then (0 : Int) else if (1024 : Int) < n then (1024 : Int) else n)), (valR_bytes _), trivial⟩ ?_
  refine AWP.wk [.keep [4, 0, 1] [11]] (s' := AS.mk [(4, AV.ref 11), (0, ai seed), (1, ai n)] [(11, Row.mk 1 true false (bytesA (stream (u64 seed + (1 : UInt64)) (7 : UInt64) (if (0 : Int) > if (1024 : Int) < n then (1024 : Int) else n then (0 : Int) else if (1024 : Int) < n then (1024 : Int) else n))))]) (by kernel_rfl) ?_
  refine AWP.ret (by kernel_rfl) ?_
  refine Done.ret_ (C := [bytesA (stream (u64 seed + (1 : UInt64)) (7 : UInt64) (if (0 : Int) > if (1024 : Int) < n then (1024 : Int) else n then (0 : Int) else if (1024 : Int) < n then (1024 : Int) else n)) = bytesA (stream (u64 seed + (1 : UInt64)) (7 : UInt64) n)]) (by kernel_rfl) ⟨(by rw [stream, stream, hs]), trivial⟩
end Go.Proofs.Ytbehdllomepkdaa
