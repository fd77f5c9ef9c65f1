import Derived.Test.YtjgbhhnghedgdaaGreatDoorZsV8
import Derived.Test.YtjgbhhnghedgdaaGreatDoorZsCb6
import Derived.Test.YtjgbhhnghedgdaaGreatDoorZsKey3
set_option linter.all false
namespace Go.Proofs.YtjgbhhnghedgdaaGreatDoor
open Go.RowKit
set_option maxRecDepth 100000
set_option maxHeartbeats 4000000
set_option linter.unusedVariables false
structure Vot where
 name:List UInt8
 leaf:Int
 chains:List UInt64
 path:List UInt64
def votC (v:Vot):List AV:=[as_ v.name,ai v.leaf,.sl 1 (wordsA v.chains),.sl 1 (wordsA v.path)]
structure Ent where
 epoch:Int
 prev:UInt64
 kind:Int
 name:List UInt8
 kh:Int
 kr:UInt64
 thr:Int
 dep:Dep
 pub:UInt64
 target:UInt64
 votes:List Vot
def entC (e:Ent):List AV:=[ai e.epoch,aw e.prev,ai e.kind,as_ e.name,ai e.kh,aw e.kr,ai e.thr,aw e.dep.pub,aw e.dep.peer,.sl 1 (bytesA e.dep.box),.sl 1 (encA strC e.dep.holders),.sl 1 (wordsA e.dep.digests),ai e.dep.need,aw e.dep.target,aw e.pub,aw e.target,.sl 4 (encA votC e.votes)]
theorem gname_ret (x:List UInt8) (hx:x.length≤1000):Ret Tryz.prog 42 [as_ x] (ai (nmE x)):=by
 by_cases c1:x.length<1
 ·have e:=nm_short (.inl c1)
  refine zO Tryz.func42 14 ?_
  refine zQ 1 [{}] [] ?_
  refine zS ?_
  refine zP 1 [yH [(1,yV (ai (↑x.length:Int)))]] [.keep [10,2,0] []] [yR (ai (↑x.length:Int)),yT ((↑x.length:Int)<1),yT ((↑x.length:Int)<1),yT ((↑x.length:Int)<1),yT ((↑x.length:Int)<1)] ?_
  refine zT 10 ?_
  refine zQ 1 [{}] [] ?_
  refine zR ?_
  refine then_r ?_
  refine zV [yJ 9 (nmE x) (by rw [e])]
 by_cases c3:32<x.length
 ·have e:=nm_short (.inr c3)
  refine zO Tryz.func42 14 ?_
  refine zQ 1 [{}] [] ?_
  refine zS ?_
  refine zP 1 [yH [(1,yV (ai (↑x.length:Int))),(4,{g:=false}),(5,{av:=some (ai (↑x.length:Int)),g:=false}),(6,{g:=false}),(7,{b:=false})]] [.keep [10,2,0] []] [yR (ai (↑x.length:Int)),yF ((↑x.length:Int)<1),yF ((↑x.length:Int)<1),yR (ai (↑x.length:Int)),yF ((↑x.length:Int)<1),yF ((↑x.length:Int)<1)] ?_
  refine zTd 10 ((↑x.length:Int)>32) ?_
  refine zQ 1 [{}] [] ?_
  refine zR ?_
  refine then_r ?_
  refine zV [yJ 9 (nmE x) (by rw [e])]
 by_cases c2:Lib.validD x=false
 ·have e:=nm_text (by omega) c2
  refine zO Tryz.func42 14 ?_
  refine zQ 1 [{}] [] ?_
  refine zS ?_
  refine zP 1 [yH [(1,yV (ai (↑x.length:Int))),(4,{g:=false}),(5,{av:=some (ai (↑x.length:Int)),g:=false}),(6,{g:=false}),(7,{b:=false})]] [.keep [10,2,0] []] [yR (ai (↑x.length:Int)),yF ((↑x.length:Int)<1),yF ((↑x.length:Int)<1),yR (ai (↑x.length:Int)),yF ((↑x.length:Int)<1),yF ((↑x.length:Int)<1)] ?_
  refine zFd 10 ((↑x.length:Int)>32) ?_
  refine zK ?_
  refine then_n ?_
  refine zS ?_
  refine zP 1 [yH [(1,yV (ao (Lib.validD x))),(2,yV (ao true))]] [.keep [13,10,2,0] []] [yI (valid_ret x (by omega)),yB (ao (!Lib.validD x)=ao true) (by rw [c2];rfl)] ?_
  refine zT 13 ?_
  refine zQ 1 [{}] [] ?_
  refine zR ?_
  refine then_r ?_
  refine zV [yJ 6 (nmE x) (by rw [e])]
 have c4:Lib.validD x=true:=by simpa using c2
 have e:=nm_ok (by omega) c4
 refine zO Tryz.func42 14 ?_
 refine zQ 1 [{}] [] ?_
 refine zS ?_
 refine zP 1 [yH [(1,yV (ai (↑x.length:Int))),(4,{g:=false}),(5,{av:=some (ai (↑x.length:Int)),g:=false}),(6,{g:=false}),(7,{b:=false})]] [.keep [10,2,0] []] [yR (ai (↑x.length:Int)),yF ((↑x.length:Int)<1),yF ((↑x.length:Int)<1),yR (ai (↑x.length:Int)),yF ((↑x.length:Int)<1),yF ((↑x.length:Int)<1)] ?_
 refine zFd 10 ((↑x.length:Int)>32) ?_
 refine zK ?_
 refine then_n ?_
 refine zS ?_
 refine zP 1 [yH [(1,yV (ao (Lib.validD x))),(2,yV (ao false))]] [.keep [13,10,2,0] []] [yI (valid_ret x (by omega)),yB (ao (!Lib.validD x)=ao false) (by rw [c4];rfl)] ?_
 refine zF 13 ?_
 refine zK ?_
 refine then_n ?_
 refine zQ 1 [{}] [] ?_
 refine zR ?_
 refine zV [yJ 0 (nmE x) (by rw [e])]
def newE (m:Mem):Int:=if nmE m.name≠0 then nmE m.name else if keyE m.h≠0 then keyE m.h else if m.used≠0 then 18 else 0
def newG (m:Mem):Grp:=if newE m=0 then ⟨0,hash 16 (keyD m.h m.r++m.name),1,[m],[]⟩ else ⟨0,0,0,[],[]⟩
instance:Inhabited Grp:=⟨⟨0,0,0,[],[]⟩⟩
theorem keyD_len (h:Int) (r:UInt64):(keyD h r).length≤9:=by
 unfold keyD
 split
 ·exact Nat.zero_le _
 ·have:(words [r]).length=8:=by rw [words_len];rfl
  rw [List.length_cons];omega
theorem concat2_ret (a b:List UInt8) (h:a.length+b.length≤1000000):Ret Tryz.prog 45 [.sl 1 [.sl 1 (bytesA a),.sl 1 (bytesA b)]] (.own 1 (bytesA (a++b))):=by
 have:=concat_ret [a,b] (by simp [lensum];omega) (by simp)
 rw [show [a,b].flatten=a++b by simp] at this
 exact this
theorem gnew_ret (m:Mem) (hm:m.name.length≤1000):Ret Tryz.prog 19 [.agg (memC m)] (.tup [.agg (grpO (newG m)),ai (newE m)]):=by
 have hz:=str_le m.name hm
 by_cases h1:nmE m.name=0
 case neg =>
  have e1:newE m=nmE m.name:=if_pos h1
  have e2:newG m=⟨0,0,0,[],[]⟩:=by unfold newG;rw [if_neg (by omega)]
  refine zO Tryz.func19 40 ?_
  refine zQ 1 [{}] [] ?_
  refine zS ?_
  refine zP 2 [yH [(2,yV (ai (nmE m.name)))],yH [(1,yV (ao true))]] [.keep [12,4,3,2,1,0] [2,1]] [yI (gname_ret m.name (by assumption)),yB (ao (nmE m.name != (0:Int))=ao true) (by simp [h1])] ?_
  refine zT 12 ?_
  refine zP 1 [{}] [.keep [3,12,4,2,1,0] [2,1]] [yL 5 5] ?_
  refine zR ?_
  refine then_r ?_
  refine zV [yJ 0 ((newG m).epoch) (by rw [e2]),yK 0 (wv (newG m).head) (by rw [e2];rfl),yJ 0 ((newG m).thr) (by rw [e2]),yB (encA memC (newG m).mems= []) (by rw [e2];rfl),yB (encA depC (newG m).deps= []) (by rw [e2];rfl),yJ (nmE m.name) (newE m) (by rw [e1])]
 by_cases h2:keyE m.h=0
 case neg =>
  have e1:newE m=keyE m.h:=by unfold newE;rw [if_neg (by omega),if_pos h2]
  have e2:newG m=⟨0,0,0,[],[]⟩:=by unfold newG;rw [if_neg (by omega)]
  refine zO Tryz.func19 40 ?_
  refine zQ 1 [{}] [] ?_
  refine zS ?_
  refine zP 2 [yH [(2,yV (ai (nmE m.name)))],yH [(1,yV (ao false))]] [.keep [12,4,3,2,1,0] [2,1]] [yI (gname_ret m.name (by assumption)),yB (ao (nmE m.name != (0:Int))=ao false) (by simp [h1])] ?_
  refine zF 12 ?_
  refine zK ?_
  refine then_n ?_
  refine zP 1 [yH [(2,yV (AV.tup [AV.own 1 (bytesA (keyD m.h m.r)),ai (keyE m.h)]))]] [.keep [6,5,12,4,3,2,1,0] [1018,2,1]] [yI (encodekey_ret m.h m.r),yI (valR_bytes (keyD m.h m.r))] ?_
  refine zS ?_
  refine zQ 1 [yH [(1,yV (ao true))]] [yB (ao (keyE m.h != (0:Int))=ao true) (by simp [h2])] ?_
  refine zT 22 ?_
  refine zP 1 [{}] [.keep [3,22,6,5,12,4,2,1,0] [2,1018,1]] [yL 5 5] ?_
  refine zR ?_
  refine then_r ?_
  refine zV [yJ 0 ((newG m).epoch) (by rw [e2]),yK 0 (wv (newG m).head) (by rw [e2];rfl),yJ 0 ((newG m).thr) (by rw [e2]),yB (encA memC (newG m).mems= []) (by rw [e2];rfl),yB (encA depC (newG m).deps= []) (by rw [e2];rfl),yJ (keyE m.h) (newE m) (by rw [e1])]
 by_cases h3:m.used=0
 case neg =>
  have e1:newE m=18:=by unfold newE;rw [if_neg (by omega),if_neg (by omega),if_pos h3]
  have e2:newG m=⟨0,0,0,[],[]⟩:=by unfold newG;rw [if_neg (by omega)]
  refine zO Tryz.func19 40 ?_
  refine zQ 1 [{}] [] ?_
  refine zS ?_
  refine zP 2 [yH [(2,yV (ai (nmE m.name)))],yH [(1,yV (ao false))]] [.keep [12,4,3,2,1,0] [2,1]] [yI (gname_ret m.name (by assumption)),yB (ao (nmE m.name != (0:Int))=ao false) (by simp [h1])] ?_
  refine zF 12 ?_
  refine zK ?_
  refine then_n ?_
  refine zP 1 [yH [(2,yV (AV.tup [AV.own 1 (bytesA (keyD m.h m.r)),ai (keyE m.h)]))]] [.keep [6,5,12,4,3,2,1,0] [1018,2,1]] [yI (encodekey_ret m.h m.r),yI (valR_bytes (keyD m.h m.r))] ?_
  refine zS ?_
  refine zQ 1 [yH [(1,yV (ao false))]] [yB (ao (keyE m.h != (0:Int))=ao false) (by simp [h2])] ?_
  refine zF 22 ?_
  refine zK ?_
  refine then_n ?_
  refine zS ?_
  refine zP 1 [yH [(2,yV (ao (m.used != 0)))]] [.keep [27,22,6,5,12,4,3,2,1,0] [1018,2,1]] [yI (avw_ne m.used 0)] ?_
  refine zTb 27 (m.used != 0) (by simp_all) ?_
  refine zP 1 [{}] [.keep [3,27,22,6,5,12,4,2,1,0] [2,1018,1]] [yL 5 5] ?_
  refine zR ?_
  refine then_r ?_
  refine zV [yJ 0 ((newG m).epoch) (by rw [e2]),yK 0 (wv (newG m).head) (by rw [e2];rfl),yJ 0 ((newG m).thr) (by rw [e2]),yB (encA memC (newG m).mems= []) (by rw [e2];rfl),yB (encA depC (newG m).deps= []) (by rw [e2];rfl),yJ 18 (newE m) (by rw [e1])]
 have e1:newE m=0:=by unfold newE;rw [if_neg (by omega),if_neg (by omega),if_neg (by simp [h3])]
 have e2:newG m=⟨0,hash 16 (keyD m.h m.r++m.name),1,[m],[]⟩:=by unfold newG;rw [if_pos e1]
 have hk:=keyD_len m.h m.r
 refine zO Tryz.func19 40 ?_
 refine zQ 1 [{}] [] ?_
 refine zS ?_
 refine zP 2 [yH [(2,yV (ai (nmE m.name)))],yH [(1,yV (ao false))]] [.keep [12,4,3,2,1,0] [2,1]] [yI (gname_ret m.name (by assumption)),yB (ao (nmE m.name != (0:Int))=ao false) (by simp [h1])] ?_
 refine zF 12 ?_
 refine zK ?_
 refine then_n ?_
 refine zP 1 [yH [(2,yV (AV.tup [AV.own 1 (bytesA (keyD m.h m.r)),ai (keyE m.h)]))]] [.keep [6,5,12,4,3,2,1,0] [1018,2,1]] [yI (encodekey_ret m.h m.r),yI (valR_bytes (keyD m.h m.r))] ?_
 refine zS ?_
 refine zQ 1 [yH [(1,yV (ao false))]] [yB (ao (keyE m.h != (0:Int))=ao false) (by simp [h2])] ?_
 refine zF 22 ?_
 refine zK ?_
 refine then_n ?_
 refine zS ?_
 refine zP 1 [yH [(2,yV (ao (m.used != 0)))]] [.keep [27,22,6,5,12,4,3,2,1,0] [1018,2,1]] [yI (avw_ne m.used 0)] ?_
 refine zFb 27 (m.used != 0) (by simp_all) ?_
 refine zK ?_
 refine then_n ?_
 refine zP 2 [yH [(5,yV (AV.own 1 (bytesA (keyD m.h m.r++m.name.toArray.toList)))),(6,yV (aw (hash (16:Int) (keyD m.h m.r++m.name.toArray.toList))))],{}] [.keep [3,7,27,22,6,5,12,4,2,1,0] [2,38,1]] [yB ((ByteArray.mk m.name.toArray).size≤maxLen) (by assumption),yI (concat2_ret (keyD m.h m.r) m.name.toArray.toList (by simp only [];omega)),yI (valR_bytes (keyD m.h m.r++m.name.toArray.toList)),yI (hash_ret ((16:Int)) (keyD m.h m.r++m.name.toArray.toList)),yL 5 5] ?_
 refine zR ?_
 refine zV [yJ 0 ((newG m).epoch) (by rw [e2]),yK (wv (hash (16:Int) (keyD m.h m.r++m.name.toArray.toList))) (wv (newG m).head) (by rw [e2]),yJ 1 ((newG m).thr) (by rw [e2]),yB ([AV.val (Value.string (ByteArray.mk m.name.toArray)),ai m.h,aw m.r,aw m.used]=encA memC (newG m).mems) (by rw [e2];rfl),yB (encA depC (newG m).deps= []) (by rw [e2];rfl),yJ 0 (newE m) (by rw [e1])]
def grpN (g:Grp):List AV:=[ai g.epoch,aw g.head,ai g.thr,.sl 4 (encA memC g.mems),.own 7 (encA depC g.deps)]
theorem refnew_ret (m:Mem) (hm:m.name.length≤1000):Ret Tryz.prog 20 [.agg (memC m)] (.tup [.agg (grpN (newG m)),ai (newE m)]):=by
 have hz:=str_le m.name hm
 by_cases h1:nmE m.name=0
 case neg =>
  have e1:newE m=nmE m.name:=if_pos h1
  have e2:newG m=⟨0,0,0,[],[]⟩:=by unfold newG;rw [if_neg (by omega)]
  refine zO Tryz.func20 36 ?_
  refine zQ 1 [{}] [] ?_
  refine zS ?_
  refine zP 2 [yH [(2,yV (ai (nmE m.name)))],yH [(1,yV (ao true))]] [.keep [11,4,3,2,1,0] [2,1]] [yI (named_ret m.name (by assumption)),yB (ao (nmE m.name != (0:Int))=ao true) (by simp [h1])] ?_
  refine zT 11 ?_
  refine zP 1 [{}] [.keep [3,11,4,2,1,0] [2,1]] [yL 5 5] ?_
  refine zR ?_
  refine then_r ?_
  refine zV [yJ 0 ((newG m).epoch) (by rw [e2]),yK 0 (wv (newG m).head) (by rw [e2];rfl),yJ 0 ((newG m).thr) (by rw [e2]),yB (encA memC (newG m).mems= []) (by rw [e2];rfl),yB (encA depC (newG m).deps= []) (by rw [e2];rfl),yJ (nmE m.name) (newE m) (by rw [e1])]
 by_cases h2:keyE m.h=0
 case neg =>
  have e1:newE m=keyE m.h:=by unfold newE;rw [if_neg (by omega),if_pos h2]
  have e2:newG m=⟨0,0,0,[],[]⟩:=by unfold newG;rw [if_neg (by omega)]
  refine zO Tryz.func20 36 ?_
  refine zQ 1 [{}] [] ?_
  refine zS ?_
  refine zP 2 [yH [(2,yV (ai (nmE m.name)))],yH [(1,yV (ao false))]] [.keep [11,4,3,2,1,0] [2,1]] [yI (named_ret m.name (by assumption)),yB (ao (nmE m.name != (0:Int))=ao false) (by simp [h1])] ?_
  refine zF 11 ?_
  refine zK ?_
  refine then_n ?_
  refine zP 1 [yH [(2,yV (AV.tup [AV.own 1 (bytesA (keyD m.h m.r)),ai (keyE m.h)]))]] [.keep [6,5,11,4,3,2,1,0] [1017,2,1]] [yI (refencodekey_ret m.h m.r),yI (valR_bytes (keyD m.h m.r))] ?_
  refine zS ?_
  refine zQ 1 [yH [(1,yV (ao true))]] [yB (ao (keyE m.h != (0:Int))=ao true) (by simp [h2])] ?_
  refine zT 21 ?_
  refine zP 1 [{}] [.keep [3,21,6,5,11,4,2,1,0] [2,1017,1]] [yL 5 5] ?_
  refine zR ?_
  refine then_r ?_
  refine zV [yJ 0 ((newG m).epoch) (by rw [e2]),yK 0 (wv (newG m).head) (by rw [e2];rfl),yJ 0 ((newG m).thr) (by rw [e2]),yB (encA memC (newG m).mems= []) (by rw [e2];rfl),yB (encA depC (newG m).deps= []) (by rw [e2];rfl),yJ (keyE m.h) (newE m) (by rw [e1])]
 by_cases h3:m.used=0
 case neg =>
  have e1:newE m=18:=by unfold newE;rw [if_neg (by omega),if_neg (by omega),if_pos h3]
  have e2:newG m=⟨0,0,0,[],[]⟩:=by unfold newG;rw [if_neg (by omega)]
  refine zO Tryz.func20 36 ?_
  refine zQ 1 [{}] [] ?_
  refine zS ?_
  refine zP 2 [yH [(2,yV (ai (nmE m.name)))],yH [(1,yV (ao false))]] [.keep [11,4,3,2,1,0] [2,1]] [yI (named_ret m.name (by assumption)),yB (ao (nmE m.name != (0:Int))=ao false) (by simp [h1])] ?_
  refine zF 11 ?_
  refine zK ?_
  refine then_n ?_
  refine zP 1 [yH [(2,yV (AV.tup [AV.own 1 (bytesA (keyD m.h m.r)),ai (keyE m.h)]))]] [.keep [6,5,11,4,3,2,1,0] [1017,2,1]] [yI (refencodekey_ret m.h m.r),yI (valR_bytes (keyD m.h m.r))] ?_
  refine zS ?_
  refine zQ 1 [yH [(1,yV (ao false))]] [yB (ao (keyE m.h != (0:Int))=ao false) (by simp [h2])] ?_
  refine zF 21 ?_
  refine zK ?_
  refine then_n ?_
  refine zS ?_
  refine zP 1 [yH [(2,yV (ao (m.used != 0)))]] [.keep [26,21,6,5,11,4,3,2,1,0] [1017,2,1]] [yI (avw_ne m.used 0)] ?_
  refine zTb 26 (m.used != 0) (by simp_all) ?_
  refine zP 1 [{}] [.keep [3,26,21,6,5,11,4,2,1,0] [2,1017,1]] [yL 5 5] ?_
  refine zR ?_
  refine then_r ?_
  refine zV [yJ 0 ((newG m).epoch) (by rw [e2]),yK 0 (wv (newG m).head) (by rw [e2];rfl),yJ 0 ((newG m).thr) (by rw [e2]),yB (encA memC (newG m).mems= []) (by rw [e2];rfl),yB (encA depC (newG m).deps= []) (by rw [e2];rfl),yJ 18 (newE m) (by rw [e1])]
 have e1:newE m=0:=by unfold newE;rw [if_neg (by omega),if_neg (by omega),if_neg (by simp [h3])]
 have e2:newG m=⟨0,hash 16 (keyD m.h m.r++m.name),1,[m],[]⟩:=by unfold newG;rw [if_pos e1]
 have hk:=keyD_len m.h m.r
 have hkb:(bytesA (keyD m.h m.r)).length≤9:=by rw [bytesA_len];exact hk
 have hnb:(bytesA m.name.toArray.toList).length≤1000:=by rw [bytesA_len];exact hm
 refine zO Tryz.func20 36 ?_
 refine zQ 1 [{}] [] ?_
 refine zS ?_
 refine zP 2 [yH [(2,yV (ai (nmE m.name)))],yH [(1,yV (ao false))]] [.keep [11,4,3,2,1,0] [2,1]] [yI (named_ret m.name (by assumption)),yB (ao (nmE m.name != (0:Int))=ao false) (by simp [h1])] ?_
 refine zF 11 ?_
 refine zK ?_
 refine then_n ?_
 refine zP 1 [yH [(2,yV (AV.tup [AV.own 1 (bytesA (keyD m.h m.r)),ai (keyE m.h)]))]] [.keep [6,5,11,4,3,2,1,0] [1017,2,1]] [yI (refencodekey_ret m.h m.r),yI (valR_bytes (keyD m.h m.r))] ?_
 refine zS ?_
 refine zQ 1 [yH [(1,yV (ao false))]] [yB (ao (keyE m.h != (0:Int))=ao false) (by simp [h2])] ?_
 refine zF 21 ?_
 refine zK ?_
 refine then_n ?_
 refine zS ?_
 refine zP 1 [yH [(2,yV (ao (m.used != 0)))]] [.keep [26,21,6,5,11,4,3,2,1,0] [1017,2,1]] [yI (avw_ne m.used 0)] ?_
 refine zFb 26 (m.used != 0) (by simp_all) ?_
 refine zK ?_
 refine then_n ?_
 refine zS ?_
 refine AWP.regWX 7 [3] [(3,{av:=some (AV.arr (bytesA (keyD m.h m.r++m.name.toArray.toList))),b:=false}),(4,{av:=some (aw (hash (16:Int) (keyD m.h m.r++m.name.toArray.toList)))})] (C:=[bytesA (keyD m.h m.r)++bytesA m.name.toArray.toList=bytesA (keyD m.h m.r++m.name.toArray.toList),plainR (bytesA m.name.toArray.toList),((bytesA (keyD m.h m.r)).length+(bytesA m.name.toArray.toList).length)*(1:Nat)≤(140737488355328:Nat),Ret Tryz.prog (48:Nat) [ai 16,AV.sl 1 (bytesA (keyD m.h m.r++m.name.toArray.toList))] (aw (hash (16:Int) (keyD m.h m.r++m.name.toArray.toList))),AV.agg [AV.val (Value.string (ByteArray.mk m.name.toArray)),ai m.h,aw m.r,aw m.used]=AV.agg [AV.val (Value.string (ByteArray.mk m.name.toArray)),ai m.h,aw m.r,aw m.used],AV.sl 4 [AV.val (Value.string (ByteArray.mk m.name.toArray)),ai m.h,aw m.r,aw m.used]=AV.sl 4 [AV.val (Value.string (ByteArray.mk m.name.toArray)),ai m.h,aw m.r,aw m.used],(5:Nat)≤(5:Nat)]) (by kernel_rfl) ⟨(bytesA_app _ _),(plainR_bytes _),(by omega),(refhash_ret ((16:Int)) (keyD m.h m.r++m.name.toArray.toList) (by simp only [List.length_append];omega)),(by simp [h1]),(by simp [h1]),(by simp [h1]),trivial⟩ ?_
 refine then_n ?_
 refine AWP.wkX [.keep [3,26,21,6,11,4,2,1,0] [2,1]] (by kernel_rfl) ?_
 refine zR ?_
 refine zV [yJ 0 ((newG m).epoch) (by rw [e2]),yK (wv (hash (16:Int) (keyD m.h m.r++m.name.toArray.toList))) (wv (newG m).head) (by rw [e2]),yJ 1 ((newG m).thr) (by rw [e2]),yB ([AV.val (Value.string (ByteArray.mk m.name.toArray)),ai m.h,aw m.r,aw m.used]=encA memC (newG m).mems) (by rw [e2];rfl),yB (encA depC (newG m).deps= []) (by rw [e2];rfl),yJ 0 (newE m) (by rw [e1])]
theorem mems_at {l:List Mem} {i:Nat} (h:i<l.length):List.take 4 (List.drop (i*4) (encA memC l))=memC (l.getD i default):=encA_elem (e:=4) (fun _=>rfl) h
theorem samegrp_ret (g:Grp) (hm:g.mems.length≤1000000) (hd:g.deps.length≤1000000) (hh:∀d∈g.deps,d.holders.length≤1000000):Ret Tryz.prog 21 [.agg (grpC g),.agg (grpC g)] (ao true):=by
 have hml:(encA memC g.mems).length=g.mems.length*4:=encA_len (e:=4) (fun _=>rfl) ..
 have hdl:(encA depC g.deps).length=g.deps.length*7:=encA_len (e:=7) (fun _=>rfl) ..
 refine zO Tryz.func21 81 ?_
 refine zQ 1 [{}] [] ?_
 refine zS ?_
 refine zP 1 [yH [(6,{g:=false}),(7,{g:=false}),(8,{g:=false}),(9,{g:=false}),(10,{av:=some (ao (g.head != g.head)),g:=false}),(11,{b:=false}),(13,{g:=false}),(14,{g:=false}),(15,{g:=false}),(16,{g:=false}),(17,{g:=false}),(18,{b:=false}),(20,{g:=false}),(21,{g:=false}),(22,{k:=g.mems.length,g:=false}),(23,{g:=false}),(24,{g:=false}),(25,{k:=g.mems.length,g:=false}),(26,{g:=false}),(27,{b:=false}),(29,{g:=false}),(30,{g:=false}),(31,{k:=g.deps.length,g:=false}),(32,{g:=false}),(33,{g:=false}),(34,{k:=g.deps.length,g:=false}),(35,{g:=false}),(36,{b:=false})]] [.keep [43,4,3,2,0,1] [3,2]] [yB ((g.epoch != g.epoch)=false) (by simp_all),yB ((g.epoch != g.epoch)=false) (by simp_all),yB ((g.epoch != g.epoch)=false) (by simp_all),yB ((g.epoch != g.epoch)=false) (by simp_all),yB ((g.epoch != g.epoch)=false) (by simp_all),yB (ao (wv g.head != wv g.head)=ao (g.head != g.head)) (by simp_all),yB ((g.epoch != g.epoch)=false) (by simp_all),yB ((g.head != g.head)=false) (by simp_all),yB ((g.head != g.head)=false) (by simp_all),yB ((g.head != g.head)=false) (by simp_all),yB ((g.head != g.head)=false) (by simp_all),yB ((g.head != g.head)=false) (by simp_all),yB ((g.head != g.head)=false) (by simp_all),yB ((g.thr != g.thr)=false) (by simp_all),yB ((g.thr != g.thr)=false) (by simp_all),yB ((g.thr != g.thr)=false) (by simp_all),yB ((encA memC g.mems).length=g.mems.length*(4:Nat)) (by simp_all),yB ((g.thr != g.thr)=false) (by simp_all),yB ((g.thr != g.thr)=false) (by simp_all),yB ((g.thr != g.thr)=false) (by simp_all),yB ((encA memC g.mems).length=g.mems.length*(4:Nat)) (by simp_all),yB ((g.thr != g.thr)=false) (by simp_all),yB ((g.thr != g.thr)=false) (by simp_all),yB (((↑g.mems.length:Int) != (↑g.mems.length:Int))=false) (by simp_all),yB (((↑g.mems.length:Int) != (↑g.mems.length:Int))=false) (by simp_all),yB (((↑g.mems.length:Int) != (↑g.mems.length:Int))=false) (by simp_all),yB ((encA depC g.deps).length=g.deps.length*(7:Nat)) (by simp_all),yB (((↑g.mems.length:Int) != (↑g.mems.length:Int))=false) (by simp_all),yB (((↑g.mems.length:Int) != (↑g.mems.length:Int))=false) (by simp_all),yB (((↑g.mems.length:Int) != (↑g.mems.length:Int))=false) (by simp_all),yB ((encA depC g.deps).length=g.deps.length*(7:Nat)) (by simp_all),yB (((↑g.mems.length:Int) != (↑g.mems.length:Int))=false) (by simp_all),yB (((↑g.mems.length:Int) != (↑g.mems.length:Int))=false) (by simp_all)] ?_
 refine zFb 43 ((↑g.deps.length:Int) != (↑g.deps.length:Int)) (by simp_all) ?_
 refine zK ?_
 refine then_n ?_
 refine zS ?_
 refine zQ 1 [{}] [] ?_
 refine zB 0 ?_
 refine zL (fun (i:Nat)=>(⟨[(43,ao ((↑g.deps.length:Int) != (↑g.deps.length:Int))),(3,AV.addr 3 0),(2,AV.addr 2 0),(0,AV.agg [ai g.epoch,aw g.head,ai g.thr,AV.sl 4 (encA memC g.mems),AV.sl 7 (encA depC g.deps)]),(1,AV.agg [ai g.epoch,aw g.head,ai g.thr,AV.sl 4 (encA memC g.mems),AV.sl 7 (encA depC g.deps)]),(5,ai i)],[(3,⟨1,false,true,[ai g.epoch,aw g.head,ai g.thr,AV.sl 4 (encA memC g.mems),AV.sl 7 (encA depC g.deps)]⟩),(2,⟨1,false,true,List.map (kill0 (3:Nat)) (List.map (kill0 (2:Nat)) (grpC g))⟩)]⟩:AS)) (fun i=>(i≤g.mems.length)) (fun i=>(g.mems.length-i)) (0) ?_ (zW [.keep [43,3,2,0,1,5] [3,2]]) ?_
 ·omega
 intro i hi
 refine zS ?_
 refine zP 1 [yH [(3,{k:=g.mems.length})]] [.keep [48,43,3,2,0,1,5] [3,2]] [yB ((encA memC g.mems).length=g.mems.length*(4:Nat)) (by assumption)] ?_
 refine zD 48 ((↑i:Int)<(↑g.mems.length:Int)) (fun h=>?_) (fun h=>?_)
 ·have hi2:i<g.mems.length:=by omega
  have hat:=mems_at hi2
  refine zK ?_
  refine then_n ?_
  refine zS ?_
  refine zB 1 ?_
  refine zP 1 [{hs:=[(3,{k:=i}),(4,yV (AV.agg [AV.val (Value.string (ByteArray.mk (g.mems.getD i default).name.toArray)),ai ((g.mems.getD i default).h),aw ((g.mems.getD i default).r),aw ((g.mems.getD i default).used)])),(8,{k:=i}),(9,yV (AV.agg [AV.val (Value.string (ByteArray.mk (g.mems.getD i default).name.toArray)),ai ((g.mems.getD i default).h),aw ((g.mems.getD i default).r),aw ((g.mems.getD i default).used)]))],T:=10}] [.keep [61,48,43,3,2,0,1,5] [3,2]] [yR (↑i:Int),yO (i*(4:Nat)<(encA memC g.mems).length),yB (List.take 4 (List.drop (i*(4:Nat)) (encA memC g.mems))= [AV.val (Value.string (ByteArray.mk (g.mems.getD i default).name.toArray)),ai ((g.mems.getD i default).h),aw ((g.mems.getD i default).r),aw ((g.mems.getD i default).used)]) (encA_sub (f:=memC) (e:=4) (k:=i) (j:=0) (fun _=>rfl) (by omega) (by decide) rfl),yR (4:Nat),yR (↑i:Int),yO (i*(4:Nat)<(encA memC g.mems).length),yB (List.take 4 (List.drop (i*(4:Nat)) (encA memC g.mems))= [AV.val (Value.string (ByteArray.mk (g.mems.getD i default).name.toArray)),ai ((g.mems.getD i default).h),aw ((g.mems.getD i default).r),aw ((g.mems.getD i default).used)]) (encA_sub (f:=memC) (e:=4) (k:=i) (j:=0) (fun _=>rfl) (by omega) (by decide) rfl),yR (4:Nat)] ?_
  refine zFb 61 (!((ByteArray.mk (g.mems.getD i default).name.toArray).toList == (ByteArray.mk (g.mems.getD i default).name.toArray).toList && ((g.mems.getD i default).h == (g.mems.getD i default).h && (wv (g.mems.getD i default).r == wv (g.mems.getD i default).r && true) && (wv (g.mems.getD i default).used == wv (g.mems.getD i default).used && true)))) (by simp_all) ?_
  refine zK ?_
  refine inb_n ?_
  refine then_n ?_
  refine zX (yH [(1,yV (ai ((↑i:Int)+1)))]) [yN ((↑i:Int)+1)] ?_
  refine round_n (i+1) (by assumption) (by omega) (zW [.keep [43,3,2,0,1,5] [3,2]])
 ·skip
  refine zE 0 ?_
  refine then_e ?_
  refine round_e ?_
  refine inb_e ?_
  refine then_n ?_
  refine zS ?_
  refine zQ 1 [{}] [] ?_
  refine zB 2 ?_
  refine zL (fun (j:Nat)=>(⟨[(48,ao (decide ((↑i:Int)<(↑g.mems.length:Int)))),(43,ao ((↑g.deps.length:Int) != (↑g.deps.length:Int))),(3,AV.addr 3 0),(2,AV.addr 2 0),(0,AV.agg [ai g.epoch,aw g.head,ai g.thr,AV.sl 4 (encA memC g.mems),AV.sl 7 (encA depC g.deps)]),(1,AV.agg [ai g.epoch,aw g.head,ai g.thr,AV.sl 4 (encA memC g.mems),AV.sl 7 (encA depC g.deps)]),(5,ai (↑i:Int)),(6,ai j)],[(3,⟨1,false,true,[ai g.epoch,aw g.head,ai g.thr,AV.sl 4 (encA memC g.mems),AV.sl 7 (encA depC g.deps)]⟩),(2,⟨1,false,true,List.map (kill0 (3:Nat)) (List.map (kill0 (2:Nat)) (grpC g))⟩)]⟩:AS)) (fun j=>(j≤g.deps.length)) (fun j=>(g.deps.length-j)) (0) ?_ (zW [.keep [48,43,3,2,0,1,5,6] [3,2]]) ?_
  ·omega
  intro j hj
  refine zS ?_
  refine zP 1 [yH [(3,{k:=g.deps.length})]] [.keep [66,48,43,3,2,0,1,5,6] [3,2]] [yB ((encA depC g.deps).length=g.deps.length*(7:Nat)) (by assumption)] ?_
  refine zD 66 ((↑j:Int)<(↑g.deps.length:Int)) (fun h2=>?_) (fun h2=>?_)
  ·have hj2:j<g.deps.length:=by omega
   have hhd:(g.deps.getD j default).holders.length≤1000000:=hh _ (by rw [List.getD_eq_getElem?_getD,List.getElem?_eq_getElem hj2];exact List.getElem_mem hj2)
   have hs:=samedep_ret (g.deps.getD j default) hhd
   refine zK ?_
   refine then_n ?_
   refine zS ?_
   refine zB 3 ?_
   refine zP 1 [{hs:=[(3,{k:=j}),(4,yV (AV.agg [aw ((g.deps.getD j default).pub),aw ((g.deps.getD j default).peer),AV.sl 1 (bytesA (g.deps.getD j default).box),AV.sl 1 (encA strC (g.deps.getD j default).holders),AV.sl 1 (wordsA (g.deps.getD j default).digests),ai ((g.deps.getD j default).need),aw ((g.deps.getD j default).target)])),(8,{k:=j}),(9,yV (AV.agg [aw ((g.deps.getD j default).pub),aw ((g.deps.getD j default).peer),AV.sl 1 (bytesA (g.deps.getD j default).box),AV.sl 1 (encA strC (g.deps.getD j default).holders),AV.sl 1 (wordsA (g.deps.getD j default).digests),ai ((g.deps.getD j default).need),aw ((g.deps.getD j default).target)])),(10,yV (ao true))],T:=10}] [.keep [80,66,48,43,3,2,0,1,5,6] [3,2]] [yR (↑j:Int),yO (j*(7:Nat)<(encA depC g.deps).length),yB (List.take 7 (List.drop (j*(7:Nat)) (encA depC g.deps))= [aw ((g.deps.getD j default).pub),aw ((g.deps.getD j default).peer),AV.sl 1 (bytesA (g.deps.getD j default).box),AV.sl 1 (encA strC (g.deps.getD j default).holders),AV.sl 1 (wordsA (g.deps.getD j default).digests),ai ((g.deps.getD j default).need),aw ((g.deps.getD j default).target)]) (encA_sub (f:=depC) (e:=7) (k:=j) (j:=0) (fun _=>rfl) (by omega) (by decide) rfl),yR (7:Nat),yR (↑j:Int),yO (j*(7:Nat)<(encA depC g.deps).length),yB (List.take 7 (List.drop (j*(7:Nat)) (encA depC g.deps))= [aw ((g.deps.getD j default).pub),aw ((g.deps.getD j default).peer),AV.sl 1 (bytesA (g.deps.getD j default).box),AV.sl 1 (encA strC (g.deps.getD j default).holders),AV.sl 1 (wordsA (g.deps.getD j default).digests),ai ((g.deps.getD j default).need),aw ((g.deps.getD j default).target)]) (encA_sub (f:=depC) (e:=7) (k:=j) (j:=0) (fun _=>rfl) (by omega) (by decide) rfl),yR (7:Nat),yI (samedep_ret (g.deps.getD j default) (by assumption))] ?_
   refine zFb 80 (!true) rfl ?_
   refine zK ?_
   refine inb_n ?_
   refine then_n ?_
   refine zX (yH [(1,yV (ai ((↑j:Int)+1)))]) [yN ((↑j:Int)+1)] ?_
   refine round_n (j+1) (by assumption) (by omega) (zW [.keep [48,43,3,2,0,1,5,6] [3,2]])
  ·skip
   refine zE 2 ?_
   refine then_e ?_
   refine round_e ?_
   refine inb_e ?_
   refine then_n ?_
   refine zQ 1 [{}] [] ?_
   refine zR ?_
   refine zV [yR (Value.bool true)]
end Go.Proofs.YtjgbhhnghedgdaaGreatDoor
