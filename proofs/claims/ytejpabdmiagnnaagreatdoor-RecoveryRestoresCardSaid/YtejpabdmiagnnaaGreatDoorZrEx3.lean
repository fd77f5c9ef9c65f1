import Derived.Test.YtejpabdmiagnnaaGreatDoorZrV8
import Derived.Test.YtejpabdmiagnnaaGreatDoorZrEx2
import Derived.Test.YtejpabdmiagnnaaGreatDoorZrDR
set_option linter.all false
namespace Go.Proofs.YtejpabdmiagnnaaGreatDoor
open Go.RowKit
set_option maxRecDepth 100000
set_option maxHeartbeats 4000000
set_option linter.unusedVariables false
def expo (s:UInt64):UInt64:=2+s%2305843009213693948
theorem expox_ret (s:UInt64):Ret Tryz.prog 115 [aw s] (aw (expo s)):=by
 refine zO Tryz.func115 6 ?_
 refine zP 2 [{},yH [(1,yV (aw (s%2305843009213693948))),(2,yV (aw (2+s%2305843009213693948)))]] [.keep [2,0] []] [yI (avw_mod s 2305843009213693948),yO ((2305843009213693948:Int)≠(0:Int)),yI (avw_add 2 (s%2305843009213693948))] ?_
 refine zR ?_
 refine zV [yR (Value.int .u64 (wv (expo s)))]
theorem refexpox_ret (s:UInt64):Ret Tryz.prog 107 [aw s] (aw (expo s)):=by
 refine zO Tryz.func107 6 ?_
 refine zP 2 [{},yH [(1,yV (aw (s%2305843009213693948))),(2,yV (aw (2+s%2305843009213693948)))]] [.keep [2,0] []] [yI (avw_mod s 2305843009213693948),yO ((2305843009213693948:Int)≠(0:Int)),yI (avw_add 2 (s%2305843009213693948))] ?_
 refine zR ?_
 refine zV [yR (Value.int .u64 (wv (expo s)))]
def pubW (s:UInt64):UInt64:=mq (37^(expo s).toNat)
theorem pubx_ret (s:UInt64):Ret Tryz.prog 57 [aw s] (aw (pubW s)):=by
 refine zO Tryz.func57 6 ?_
 refine zP 2 [{},yH [(1,yV (aw (expo s))),(2,yV (aw (mq (UInt64.toNat 37^(expo s).toNat))))]] [.keep [2,0] []] [yI (expox_ret s),yI (powx_ret 37 (expo s))] ?_
 refine zR ?_
 refine zV [yR (Value.int .u64 (wv (pubW s)))]
theorem refpubx_ret (s:UInt64):Ret Tryz.prog 47 [aw s] (aw (pubW s)):=by
 refine zO Tryz.func47 6 ?_
 refine zP 2 [{},yH [(1,yV (aw (expo s))),(2,yV (aw (mq (UInt64.toNat 37^(expo s).toNat))))]] [.keep [2,0] []] [yI (refexpox_ret s),yI (refpowx_ret 37 (expo s))] ?_
 refine zR ?_
 refine zV [yR (Value.int .u64 (wv (pubW s)))]
def badP (p:UInt64):Prop:=wv p<2∨wv p>2305843009213693949
instance (p:UInt64):Decidable (badP p):=inferInstanceAs (Decidable (_∨_))
def shE (p:UInt64):Int:=if badP p then 9 else 0
def shK (s p:UInt64):UInt64:=if badP p then 0 else hash 12 (words [mq (p.toNat^(expo s).toNat)])
theorem sharedx_ret (s p:UInt64):Ret Tryz.prog 116 [aw s,aw p] (.tup [aw (shK s p),ai (shE p)]):=by
 by_cases h1:wv p<2
 ·have e:badP p:=.inl h1
  refine zO Tryz.func116 19 ?_
  refine zQ 1 [{}] [] ?_
  refine zS ?_
  refine zP 1 [{}] [.keep [11,5,4,0,1] []] [yT (wv p<2),yT (wv p<2),yT (wv p<2)] ?_
  refine zT 11 ?_
  refine zQ 1 [{}] [] ?_
  refine zR ?_
  refine then_r ?_
  refine zV [yK 0 (wv (shK s p)) (by rw [shK,if_pos e];rfl),yJ 9 (shE p) (by rw [shE,if_pos e])]
 by_cases h2:wv p>2305843009213693949
 ·have e:badP p:=.inr h2
  refine zO Tryz.func116 19 ?_
  refine zQ 1 [{}] [] ?_
  refine zS ?_
  refine zP 1 [yH [(3,{g:=false}),(4,{g:=false}),(5,{b:=false})]] [.keep [11,5,4,0,1] []] [yF (wv p<2),yF (wv p<2),yF (wv p<2)] ?_
  refine zTd 11 (wv p>2305843009213693949) ?_
  refine zQ 1 [{}] [] ?_
  refine zR ?_
  refine then_r ?_
  refine zV [yK 0 (wv (shK s p)) (by rw [shK,if_pos e];rfl),yJ 9 (shE p) (by rw [shE,if_pos e])]
 have e:¬badP p:=by rintro (h|h);exact h1 h;exact h2 h
 refine zO Tryz.func116 19 ?_
 refine zQ 1 [{}] [] ?_
 refine zS ?_
 refine zP 1 [yH [(3,{g:=false}),(4,{g:=false}),(5,{b:=false})]] [.keep [11,5,4,0,1] []] [yF (wv p<2),yF (wv p<2),yF (wv p<2)] ?_
 refine zFd 11 (wv p>2305843009213693949) ?_
 refine zK ?_
 refine then_n ?_
 refine zP 1 [yH [(2,yV (aw (expo s))),(3,yV (aw (mq (p.toNat^(expo s).toNat)))),(4,yV (AV.arr (wordsA [mq (p.toNat^(expo s).toNat)]))),(5,yV (AV.own 1 (bytesA (words [mq (p.toNat^(expo s).toNat)])))),(6,yV (aw (hash (12:Int) (words [mq (p.toNat^(expo s).toNat)]))))]] [.keep [5,4,11,0,1] []] [yI (expox_ret s),yI (powx_ret p (expo s)),yR [aw (mq (p.toNat^(expo s).toNat))],yI (words_ret [mq (p.toNat^(expo s).toNat)] (by simp only [List.length_cons,List.length_nil];omega)),yI (valR_bytes (words [mq (p.toNat^(expo s).toNat)])),yI (hash_ret ((12:Int)) (words [mq (p.toNat^(expo s).toNat)]))] ?_
 refine zR ?_
 refine zV [yK (wv (hash (12:Int) (words [mq (p.toNat^(expo s).toNat)]))) (wv (shK s p)) (by rw [shK,if_neg e]),yJ 0 (shE p) (by rw [shE,if_neg e])]
theorem refsharedx_ret (s p:UInt64):Ret Tryz.prog 48 [aw s,aw p] (.tup [aw (shK s p),ai (shE p)]):=by
 have hw:(words [mq (p.toNat^(expo s).toNat)]).length=8:=by rw [words_len];rfl
 by_cases h1:wv p<2
 ·have e:badP p:=.inl h1
  refine zO Tryz.func48 19 ?_
  refine zQ 1 [{}] [] ?_
  refine zS ?_
  refine zP 1 [{}] [.keep [11,5,4,0,1] []] [yT (wv p<2),yT (wv p<2),yT (wv p<2)] ?_
  refine zT 11 ?_
  refine zQ 1 [{}] [] ?_
  refine zR ?_
  refine then_r ?_
  refine zV [yK 0 (wv (shK s p)) (by rw [shK,if_pos e];rfl),yJ 9 (shE p) (by rw [shE,if_pos e])]
 by_cases h2:wv p>2305843009213693949
 ·have e:badP p:=.inr h2
  refine zO Tryz.func48 19 ?_
  refine zQ 1 [{}] [] ?_
  refine zS ?_
  refine zP 1 [yH [(3,{g:=false}),(4,{g:=false}),(5,{b:=false})]] [.keep [11,5,4,0,1] []] [yF (wv p<2),yF (wv p<2),yF (wv p<2)] ?_
  refine zTd 11 (wv p>2305843009213693949) ?_
  refine zQ 1 [{}] [] ?_
  refine zR ?_
  refine then_r ?_
  refine zV [yK 0 (wv (shK s p)) (by rw [shK,if_pos e];rfl),yJ 9 (shE p) (by rw [shE,if_pos e])]
 have e:¬badP p:=by rintro (h|h);exact h1 h;exact h2 h
 refine zO Tryz.func48 19 ?_
 refine zQ 1 [{}] [] ?_
 refine zS ?_
 refine zP 1 [yH [(3,{g:=false}),(4,{g:=false}),(5,{b:=false})]] [.keep [11,5,4,0,1] []] [yF (wv p<2),yF (wv p<2),yF (wv p<2)] ?_
 refine zFd 11 (wv p>2305843009213693949) ?_
 refine zK ?_
 refine then_n ?_
 refine zP 1 [yH [(2,yV (aw (expo s))),(3,yV (aw (mq (p.toNat^(expo s).toNat)))),(4,yV (AV.arr (wordsA [mq (p.toNat^(expo s).toNat)]))),(5,yV (AV.own 1 (bytesA (words [mq (p.toNat^(expo s).toNat)])))),(6,yV (aw (hash (12:Int) (words [mq (p.toNat^(expo s).toNat)]))))]] [.keep [5,4,11,0,1] []] [yI (refexpox_ret s),yI (refpowx_ret p (expo s)),yR [aw (mq (p.toNat^(expo s).toNat))],yI (refwords_ret [mq (p.toNat^(expo s).toNat)] (by simp only [List.length_cons,List.length_nil];omega)),yI (valR_bytes (words [mq (p.toNat^(expo s).toNat)])),yI (refhash_ret ((12:Int)) (words [mq (p.toNat^(expo s).toNat)]) (by omega))] ?_
 refine zR ?_
 refine zV [yK (wv (hash (12:Int) (words [mq (p.toNat^(expo s).toNat)]))) (wv (shK s p)) (by rw [shK,if_neg e]),yJ 0 (shE p) (by rw [shE,if_neg e])]
end Go.Proofs.YtejpabdmiagnnaaGreatDoor
