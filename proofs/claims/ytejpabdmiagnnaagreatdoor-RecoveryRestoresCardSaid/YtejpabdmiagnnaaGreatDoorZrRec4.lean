import Derived.Test.YtejpabdmiagnnaaGreatDoorZrV8
import Derived.Test.YtejpabdmiagnnaaGreatDoorZrRec3
import Derived.Test.YtejpabdmiagnnaaGreatDoorZrCl
import Derived.Test.YtejpabdmiagnnaaGreatDoorZrShPr
set_option linter.all false
namespace Go.Proofs.YtejpabdmiagnnaaGreatDoor
open Go.RowKit
set_option maxRecDepth 100000
set_option maxHeartbeats 4000000
set_option linter.unusedVariables false
def ff (E:Nat->Int):Nat->Int
 | 0=>0
 | n+1=>if ff E n≠0 then ff E n else E n
theorem ff_stay {E:Nat->Int} {m:Nat} {e:Int} (he:e≠0) (h:ff E m=e):∀n,m≤n->ff E n=e
 | 0,hn=>by
  have:m=0:=by omega
  subst this;exact h
 | n+1,hn=>by
  by_cases hm:m=n+1
  ·subst hm;exact h
  ·have:=ff_stay he h n (by omega)
   unfold ff
   rw [this,if_pos he]
def nmE (x:List UInt8):Int:=if x.length<1∨32<x.length then 9 else if Lib.validD x=false then 6 else 0
def leS (a b:List UInt8):Bool:=Op.bytesLess (⟨a.toArray⟩:ByteArray).toList (⟨b.toArray⟩:ByteArray).toList || (⟨a.toArray⟩:ByteArray).toList == (⟨b.toArray⟩:ByteArray).toList
def hlE (l:List (List UInt8)) (i:Nat):Int:=if nmE (l.getD i default)≠0 then nmE (l.getD i default) else if 0<i∧leS (l.getD i default) (l.getD (i-1) default)=true then 7 else 0
theorem nm_short {x:List UInt8} (h:x.length<1∨32<x.length):nmE x=9:=by unfold nmE;rw [if_pos h]
theorem nm_text {x:List UInt8} (h:¬(x.length<1∨32<x.length)) (hv:Lib.validD x=false):nmE x=6:=by unfold nmE;rw [if_neg h,if_pos hv]
theorem nm_ok {x:List UInt8} (h:¬(x.length<1∨32<x.length)) (hv:Lib.validD x=true):nmE x=0:=by unfold nmE;rw [if_neg h,if_neg (by simp [hv])]
theorem hl_nm {l:List (List UInt8)} {i:Nat} {e:Int} (h:nmE (l.getD i default)=e) (he:e≠0):hlE l i=e:=by unfold hlE;rw [if_pos (by omega),h]
theorem hl_ord {l:List (List UInt8)} {i k:Nat} (h:nmE (l.getD i default)=0) (hk:k+1=i):hlE l i=if leS (l.getD i default) (l.getD k default)=true then 7 else 0:=by
 unfold hlE
 subst hk
 rw [if_neg (by omega),Nat.add_sub_cancel]
 by_cases hc:leS (l.getD (k+1) default) (l.getD k default)=true
 ·rw [if_pos ⟨by omega,hc⟩,if_pos hc]
 ·rw [if_neg (fun h=>hc h.2),if_neg hc]
theorem hl_zero {l:List (List UInt8)} (h:nmE (l.getD 0 default)=0):hlE l 0=0:=by unfold hlE;rw [if_neg (by omega),if_neg (fun h=>by omega)]
def badN (n:Nat) (need:Int):Prop:=n<1∨8<n∨need<1∨(n:Int)<need
instance (n:Nat) (need:Int):Decidable (badN n need):=inferInstanceAs (Decidable (_∨_∨_∨_))
def prpE (l:List (List UInt8)) (need:Int):Int:=if badN l.length need then 9 else ff (hlE l) l.length
def secW (seed:UInt64) (draws:Int):UInt64:=derive seed [100,101,112,111,115,105,116] draws
def shrL (seed:UInt64) (draws:Int) (n:Nat) (need:Int):List Sh:=splitL (words [secW seed draws]) (stream (derive seed [115,104,97,114,101,115] draws) 0 (8*(need-1))) need n
def prpS (seed:UInt64) (draws:Int) (l:List (List UInt8)) (need:Int):List (List UInt8):=if prpE l need=0 then (List.range l.length).map (fun i=>((shrL seed draws l.length need).getD i default).2) else []
def prpD (seed:UInt64) (draws:Int) (l:List (List UInt8)) (need:Int):Dep :=
 if prpE l need=0 then ⟨pubW (secW seed draws),0,[],l,(List.range l.length).map (fun i=>digD (l.getD i default) ((shrL seed draws l.length need).getD i default).2),need,0⟩ else default
def depO (d:Dep):List AV:=[aw d.pub,aw d.peer,.own 1 (bytesA d.box),.own 1 (encA strC d.holders),.own 1 (wordsA d.digests),ai d.need,aw d.target]
def part {T:Type} (f:Nat->T) (z:T) (n i:Nat):List T:=(List.range n).map fun k=>if k<i then f k else z
theorem part_len {T:Type} (f:Nat->T) (z:T) (n i:Nat):(part f z n i).length=n:=by simp [part]
theorem part_zero {T:Type} (f:Nat->T) (z:T) (n:Nat):part f z n 0=List.replicate n z:=by
 apply List.ext_getElem (by simp [part])
 intro i h1 h2
 simp [part]
theorem part_end {T:Type} (f:Nat->T) (z:T) (n:Nat):part f z n n=(List.range n).map f:=by
 unfold part
 exact List.map_congr_left fun k hk=>if_pos (List.mem_range.1 hk)
theorem part_set {T:Type} (f:Nat->T) (z:T) {n i:Nat} (h:i<n):(part f z n i).set i (f i)=part f z n (i+1):=by
 apply List.ext_getElem (by simp [part])
 intro k h1 h2
 rw [List.getElem_set]
 by_cases e:i=k
 ·subst e;simp [part]
 ·rw [if_neg e]
  simp only [part,List.getElem_map,List.getElem_range]
  by_cases h3:k<i
  ·rw [if_pos h3,if_pos (by omega)]
  ·rw [if_neg h3,if_neg (by omega)]
theorem part_at {T:Type} (f:Nat->T) (z:T) {n i:Nat} (h:i<n):(part f z n (i+1))[i]?=some (f i):=by
 simp [part,h]
theorem bys_map (l:List (List UInt8)):encA bysC l=l.map fun r=>AV.sl 1 (bytesA r):=by
 induction l with
 | nil=>rfl
 | cons x l ih=>rw [encA_cons,ih];rfl
theorem prepare_ret (seed:UInt64) (draws:Int) (l:List (List UInt8)) (need:Int) (hl:l.length≤1000000) (hh:∀i,i<l.length->(l.getD i default).length≤1000):Ret Tryz.prog 65 [aw seed,ai draws,.sl 1 (encA strC l),ai need] (.tup [.agg (depO (prpD seed draws l need)),.own 1 (encA bysC (prpS seed draws l need)),ai (prpE l need)]):=by
 have hll:(encA strC l).length=l.length:=by rw [encA_len (e:=1) (fun _=>rfl)];omega
 by_cases hb:badN l.length need
 ·have e1:prpE l need=9:=by unfold prpE;rw [if_pos hb]
  have e2:prpD seed draws l need=default:=by unfold prpD;rw [if_neg (by omega)]
  have e3:prpS seed draws l need= []:=by unfold prpS;rw [if_neg (by omega)]
  by_cases c1:l.length<1
  ·refine zO Tryz.func65 141 ?_
   refine zP 2 [{},yH [(1,{k:=(encA strC l).length}),(2,yV (ai (↑l.length:Int)))]] [.keep [11,10,9,8,0,1,2,3] [8]] [yR ((encA strC l).length),yB (ai (↑(encA strC l).length:Int)=ai (↑l.length:Int)) (congrArg (fun n:Nat=>AV.val (.int .i64 n)) hll)] ?_
   refine zS ?_
   refine zP 1 [{}] [.keep [38,35,11,10,9,8,0,1,2,3] [8]] [yT ((↑l.length:Int)<1),yT ((↑l.length:Int)<1),yT ((↑l.length:Int)<1),yR true,yR true,yR true,yR true,yR true,yR true,yR true] ?_
   refine zT 38 ?_
   refine zP 1 [{}] [.keep [10,9,38,35,11,8,0,1,2,3] [8]] [yL 7 7] ?_
   refine zR ?_
   refine then_r ?_
   refine zV [yK 0 (wv (prpD seed draws l need).pub) (by rw [e2];rfl),yK 0 (wv (prpD seed draws l need).peer) (by rw [e2];rfl),yB (bytesA (prpD seed draws l need).box= []) (by rw [e2];rfl),yB (encA strC (prpD seed draws l need).holders= []) (by rw [e2];rfl),yB (wordsA (prpD seed draws l need).digests= []) (by rw [e2];rfl),yJ 0 ((prpD seed draws l need).need) (by rw [e2];rfl),yK 0 (wv (prpD seed draws l need).target) (by rw [e2];rfl),yB (encA bysC (prpS seed draws l need)= []) (by rw [e3];rfl),yJ 9 (prpE l need) (by rw [e1])]
  by_cases c2:8<l.length
  ·refine zO Tryz.func65 141 ?_
   refine zP 2 [{},yH [(1,{k:=(encA strC l).length}),(2,yV (ai (↑l.length:Int)))]] [.keep [11,10,9,8,0,1,2,3] [8]] [yR ((encA strC l).length),yB (ai (↑(encA strC l).length:Int)=ai (↑l.length:Int)) (congrArg (fun n:Nat=>AV.val (.int .i64 n)) hll)] ?_
   refine zS ?_
   refine zP 1 [yH [(3,{g:=false}),(4,{g:=false}),(5,{b:=false})]] [.keep [38,35,11,10,9,8,0,1,2,3] [8]] [yF ((↑l.length:Int)<1),yF ((↑l.length:Int)<1),yF ((↑l.length:Int)<1),yT ((↑l.length:Int)>8),yT ((↑l.length:Int)>8),yT ((↑l.length:Int)>8),yR true,yR true,yR true,yR true] ?_
   refine zT 38 ?_
   refine zP 1 [{}] [.keep [10,9,38,35,11,8,0,1,2,3] [8]] [yL 7 7] ?_
   refine zR ?_
   refine then_r ?_
   refine zV [yK 0 (wv (prpD seed draws l need).pub) (by rw [e2];rfl),yK 0 (wv (prpD seed draws l need).peer) (by rw [e2];rfl),yB (bytesA (prpD seed draws l need).box= []) (by rw [e2];rfl),yB (encA strC (prpD seed draws l need).holders= []) (by rw [e2];rfl),yB (wordsA (prpD seed draws l need).digests= []) (by rw [e2];rfl),yJ 0 ((prpD seed draws l need).need) (by rw [e2];rfl),yK 0 (wv (prpD seed draws l need).target) (by rw [e2];rfl),yB (encA bysC (prpS seed draws l need)= []) (by rw [e3];rfl),yJ 9 (prpE l need) (by rw [e1])]
  by_cases c3:need<1
  ·refine zO Tryz.func65 141 ?_
   refine zP 2 [{},yH [(1,{k:=(encA strC l).length}),(2,yV (ai (↑l.length:Int)))]] [.keep [11,10,9,8,0,1,2,3] [8]] [yR ((encA strC l).length),yB (ai (↑(encA strC l).length:Int)=ai (↑l.length:Int)) (congrArg (fun n:Nat=>AV.val (.int .i64 n)) hll)] ?_
   refine zS ?_
   refine zP 1 [yH [(3,{g:=false}),(4,{g:=false}),(5,{b:=false}),(7,{g:=false}),(8,{g:=false}),(9,{b:=false})]] [.keep [38,35,11,10,9,8,0,1,2,3] [8]] [yF ((↑l.length:Int)<1),yF ((↑l.length:Int)<1),yF ((↑l.length:Int)<1),yF ((↑l.length:Int)>8),yF ((↑l.length:Int)>8),yF ((↑l.length:Int)>8),yT (need<1),yT (need<1),yT (need<1),yT (need<1)] ?_
   refine zT 38 ?_
   refine zP 1 [{}] [.keep [10,9,38,35,11,8,0,1,2,3] [8]] [yL 7 7] ?_
   refine zR ?_
   refine then_r ?_
   refine zV [yK 0 (wv (prpD seed draws l need).pub) (by rw [e2];rfl),yK 0 (wv (prpD seed draws l need).peer) (by rw [e2];rfl),yB (bytesA (prpD seed draws l need).box= []) (by rw [e2];rfl),yB (encA strC (prpD seed draws l need).holders= []) (by rw [e2];rfl),yB (wordsA (prpD seed draws l need).digests= []) (by rw [e2];rfl),yJ 0 ((prpD seed draws l need).need) (by rw [e2];rfl),yK 0 (wv (prpD seed draws l need).target) (by rw [e2];rfl),yB (encA bysC (prpS seed draws l need)= []) (by rw [e3];rfl),yJ 9 (prpE l need) (by rw [e1])]
  have c4:(l.length:Int)<need:=by unfold badN at hb;omega
  refine zO Tryz.func65 141 ?_
  refine zP 2 [{},yH [(1,{k:=(encA strC l).length}),(2,yV (ai (↑l.length:Int)))]] [.keep [11,10,9,8,0,1,2,3] [8]] [yR ((encA strC l).length),yB (ai (↑(encA strC l).length:Int)=ai (↑l.length:Int)) (congrArg (fun n:Nat=>AV.val (.int .i64 n)) hll)] ?_
  refine zS ?_
  refine zP 1 [yH [(3,{g:=false}),(4,{g:=false}),(5,{b:=false}),(7,{g:=false}),(8,{g:=false}),(9,{b:=false}),(11,{g:=false}),(12,{g:=false}),(13,{g:=false}),(14,{b:=false})]] [.keep [38,35,11,10,9,8,0,1,2,3] [8]] [yF ((↑l.length:Int)<1),yF ((↑l.length:Int)<1),yF ((↑l.length:Int)<1),yF ((↑l.length:Int)>8),yF ((↑l.length:Int)>8),yF ((↑l.length:Int)>8),yF (need<1),yF (need<1),yF (need<1),yF (need<1)] ?_
  refine zTd 38 (need>(↑l.length:Int)) ?_
  refine zP 1 [{}] [.keep [10,9,38,35,11,8,0,1,2,3] [8]] [yL 7 7] ?_
  refine zR ?_
  refine then_r ?_
  refine zV [yK 0 (wv (prpD seed draws l need).pub) (by rw [e2];rfl),yK 0 (wv (prpD seed draws l need).peer) (by rw [e2];rfl),yB (bytesA (prpD seed draws l need).box= []) (by rw [e2];rfl),yB (encA strC (prpD seed draws l need).holders= []) (by rw [e2];rfl),yB (wordsA (prpD seed draws l need).digests= []) (by rw [e2];rfl),yJ 0 ((prpD seed draws l need).need) (by rw [e2];rfl),yK 0 (wv (prpD seed draws l need).target) (by rw [e2];rfl),yB (encA bysC (prpS seed draws l need)= []) (by rw [e3];rfl),yJ 9 (prpE l need) (by rw [e1])]
 have e0:prpE l need=ff (hlE l) l.length:=by unfold prpE;rw [if_neg hb]
 have hb1:1≤l.length∧l.length≤8∧1≤need∧need≤l.length:=by unfold badN at hb;omega
 refine zO Tryz.func65 141 ?_
 refine zP 2 [{},yH [(1,{k:=(encA strC l).length}),(2,yV (ai (↑l.length:Int)))]] [.keep [11,10,9,8,0,1,2,3] [8]] [yR ((encA strC l).length),yB (ai (↑(encA strC l).length:Int)=ai (↑l.length:Int)) (congrArg (fun n:Nat=>AV.val (.int .i64 n)) hll)] ?_
 refine zS ?_
 refine zP 1 [yH [(3,{g:=false}),(4,{g:=false}),(5,{b:=false}),(7,{g:=false}),(8,{g:=false}),(9,{b:=false}),(11,{g:=false}),(12,{g:=false}),(13,{g:=false}),(14,{b:=false})]] [.keep [38,35,11,10,9,8,0,1,2,3] [8]] [yF ((↑l.length:Int)<1),yF ((↑l.length:Int)<1),yF ((↑l.length:Int)<1),yF ((↑l.length:Int)>8),yF ((↑l.length:Int)>8),yF ((↑l.length:Int)>8),yF (need<1),yF (need<1),yF (need<1),yF (need<1)] ?_
 refine zFd 38 (need>(↑l.length:Int)) ?_
 refine zK ?_
 refine then_n ?_
 refine zS ?_
 refine zQ 1 [yH [(1,{k:=(encA strC l).length})]] [yR ((encA strC l).length)] ?_
 refine zB 0 ?_
 refine zL (fun (i:Nat)=>(⟨[(41,ai (↑(encA strC l).length:Int)),(40,AV.sl 1 (encA strC l)),(38,ao (decide (need>(↑l.length:Int)))),(35,ai need),(11,ai (↑l.length:Int)),(8,AV.addr 8 0),(0,aw seed),(1,ai draws),(2,AV.sl 1 (encA strC l)),(3,ai need),(42,ai i)],[(8,⟨1,false,true,[au0,au0,AV.nil,AV.nil,AV.nil,ai 0,au0]⟩)]⟩:AS)) (fun i=>(i≤l.length∧ff (hlE l) i=0)) (fun i=>(l.length-i)) (0) ?_ (zW [.keep [41,40,38,35,11,8,0,1,2,3,42] [8]]) ?_
 ·exact ⟨by omega,rfl⟩
 rintro i ⟨hi,h0⟩
 refine zQ 1 [{}] [] ?_
 refine zS ?_
 refine zD 43 ((↑i:Int)<(↑(encA strC l).length:Int)) (fun g=>?_) (fun g=>?_)
 ·have hi2:i<l.length:=by omega
  have hat:=strs_at hi2
  have hA:=hh i hi2
  have stop:∀e:Int,e≠0->hlE l i=e->prpE l need=e∧prpD seed draws l need=default∧prpS seed draws l need= []:=fun e he h1=>by
   have k2:ff (hlE l) (i+1)=hlE l i:=by show (if _ then _ else _)=_;rw [if_neg (by omega)]
   have k3:=ff_stay (by omega) k2 l.length (by omega)
   have k4:prpE l need=e:=by rw [e0,k3,h1]
   exact ⟨k4,by unfold prpD;rw [if_neg (by omega)],by unfold prpS;rw [if_neg (by omega)]⟩
  by_cases c1:(l.getD i default).length<1
  ·obtain ⟨k1,k2,k3⟩:=stop 9 (by omega) (hl_nm (nm_short (.inl c1)) (by omega))
   refine zK ?_
   refine then_n ?_
   refine zS ?_
   refine zB 1 ?_
   refine zP 1 [yH [(1,{k:=i}),(2,yV (AV.val (Value.string (ByteArray.mk (l.getD i default).toArray))))]] [.keep [13,12,43,41,40,38,35,11,8,0,1,2,3,42] [8]] [yR (↑i:Int),yO (i<(encA strC l).length),yB ((encA strC l)[i]?=some (AV.val (Value.string (ByteArray.mk (l.getD i default).toArray)))) (by assumption)] ?_
   refine zS ?_
   refine zP 1 [yH [(1,yV (ai (↑(l.getD i default).length:Int)))]] [.keep [54,13,12,43,41,40,38,35,11,8,0,1,2,3,42] [8]] [yR (ai (↑(l.getD i default).length:Int)),yT ((↑(l.getD i default).length:Int)<1),yT ((↑(l.getD i default).length:Int)<1),yT ((↑(l.getD i default).length:Int)<1),yT ((↑(l.getD i default).length:Int)<1)] ?_
   refine zT 54 ?_
   refine zP 1 [{}] [.keep [10,9,54,13,12,43,41,40,38,35,11,8,0,1,2,3,42] [8]] [yL 7 7] ?_
   refine zR ?_
   refine then_r ?_
   refine inb_r ?_
   refine then_r ?_
   refine round_r ?_
   refine inb_r ?_
   refine then_r ?_
   refine zV [yK 0 (wv (prpD seed draws l need).pub) (by rw [k2];rfl),yK 0 (wv (prpD seed draws l need).peer) (by rw [k2];rfl),yB (bytesA (prpD seed draws l need).box= []) (by rw [k2];rfl),yB (encA strC (prpD seed draws l need).holders= []) (by rw [k2];rfl),yB (wordsA (prpD seed draws l need).digests= []) (by rw [k2];rfl),yJ 0 ((prpD seed draws l need).need) (by rw [k2];rfl),yK 0 (wv (prpD seed draws l need).target) (by rw [k2];rfl),yB (encA bysC (prpS seed draws l need)= []) (by rw [k3];rfl),yJ 9 (prpE l need) (by rw [k1])]
  by_cases c2:32<(l.getD i default).length
  ·obtain ⟨k1,k2,k3⟩:=stop 9 (by omega) (hl_nm (nm_short (.inr c2)) (by omega))
   refine zK ?_
   refine then_n ?_
   refine zS ?_
   refine zB 1 ?_
   refine zP 1 [yH [(1,{k:=i}),(2,yV (AV.val (Value.string (ByteArray.mk (l.getD i default).toArray))))]] [.keep [13,12,43,41,40,38,35,11,8,0,1,2,3,42] [8]] [yR (↑i:Int),yO (i<(encA strC l).length),yB ((encA strC l)[i]?=some (AV.val (Value.string (ByteArray.mk (l.getD i default).toArray)))) (by assumption)] ?_
   refine zS ?_
   refine zP 1 [yH [(1,yV (ai (↑(l.getD i default).length:Int))),(4,{g:=false}),(5,{av:=some (ai (↑(l.getD i default).length:Int)),g:=false}),(6,{g:=false}),(7,{b:=false})]] [.keep [54,13,12,43,41,40,38,35,11,8,0,1,2,3,42] [8]] [yR (ai (↑(l.getD i default).length:Int)),yF ((↑(l.getD i default).length:Int)<1),yF ((↑(l.getD i default).length:Int)<1),yR (ai (↑(l.getD i default).length:Int)),yF ((↑(l.getD i default).length:Int)<1),yF ((↑(l.getD i default).length:Int)<1)] ?_
   refine zTd 54 ((↑(l.getD i default).length:Int)>32) ?_
   refine zP 1 [{}] [.keep [10,9,54,13,12,43,41,40,38,35,11,8,0,1,2,3,42] [8]] [yL 7 7] ?_
   refine zR ?_
   refine then_r ?_
   refine inb_r ?_
   refine then_r ?_
   refine round_r ?_
   refine inb_r ?_
   refine then_r ?_
   refine zV [yK 0 (wv (prpD seed draws l need).pub) (by rw [k2];rfl),yK 0 (wv (prpD seed draws l need).peer) (by rw [k2];rfl),yB (bytesA (prpD seed draws l need).box= []) (by rw [k2];rfl),yB (encA strC (prpD seed draws l need).holders= []) (by rw [k2];rfl),yB (wordsA (prpD seed draws l need).digests= []) (by rw [k2];rfl),yJ 0 ((prpD seed draws l need).need) (by rw [k2];rfl),yK 0 (wv (prpD seed draws l need).target) (by rw [k2];rfl),yB (encA bysC (prpS seed draws l need)= []) (by rw [k3];rfl),yJ 9 (prpE l need) (by rw [k1])]
  by_cases c3:Lib.validD (l.getD i default)=false
  ·obtain ⟨k1,k2,k3⟩:=stop 6 (by omega) (hl_nm (nm_text (by omega) c3) (by omega))
   refine zK ?_
   refine then_n ?_
   refine zS ?_
   refine zB 1 ?_
   refine zP 1 [yH [(1,{k:=i}),(2,yV (AV.val (Value.string (ByteArray.mk (l.getD i default).toArray))))]] [.keep [13,12,43,41,40,38,35,11,8,0,1,2,3,42] [8]] [yR (↑i:Int),yO (i<(encA strC l).length),yB ((encA strC l)[i]?=some (AV.val (Value.string (ByteArray.mk (l.getD i default).toArray)))) (by assumption)] ?_
   refine zS ?_
   refine zP 1 [yH [(1,yV (ai (↑(l.getD i default).length:Int))),(4,{g:=false}),(5,{av:=some (ai (↑(l.getD i default).length:Int)),g:=false}),(6,{g:=false}),(7,{b:=false})]] [.keep [54,13,12,43,41,40,38,35,11,8,0,1,2,3,42] [8]] [yR (ai (↑(l.getD i default).length:Int)),yF ((↑(l.getD i default).length:Int)<1),yF ((↑(l.getD i default).length:Int)<1),yR (ai (↑(l.getD i default).length:Int)),yF ((↑(l.getD i default).length:Int)<1),yF ((↑(l.getD i default).length:Int)<1)] ?_
   refine zFd 54 ((↑(l.getD i default).length:Int)>32) ?_
   refine zK ?_
   refine then_n ?_
   refine zS ?_
   refine zP 1 [yH [(1,yV (ao (Lib.validD (l.getD i default)))),(2,yV (ao true))]] [.keep [58,54,13,12,43,41,40,38,35,11,8,0,1,2,3,42] [8]] [yI (valid_ret (l.getD i default) (by omega)),yB (ao (!Lib.validD (l.getD i default))=ao true) (by rw [c3];rfl)] ?_
   refine zT 58 ?_
   refine zP 1 [{}] [.keep [10,9,58,54,13,12,43,41,40,38,35,11,8,0,1,2,3,42] [8]] [yL 7 7] ?_
   refine zR ?_
   refine then_r ?_
   refine inb_r ?_
   refine then_r ?_
   refine round_r ?_
   refine inb_r ?_
   refine then_r ?_
   refine zV [yK 0 (wv (prpD seed draws l need).pub) (by rw [k2];rfl),yK 0 (wv (prpD seed draws l need).peer) (by rw [k2];rfl),yB (bytesA (prpD seed draws l need).box= []) (by rw [k2];rfl),yB (encA strC (prpD seed draws l need).holders= []) (by rw [k2];rfl),yB (wordsA (prpD seed draws l need).digests= []) (by rw [k2];rfl),yJ 0 ((prpD seed draws l need).need) (by rw [k2];rfl),yK 0 (wv (prpD seed draws l need).target) (by rw [k2];rfl),yB (encA bysC (prpS seed draws l need)= []) (by rw [k3];rfl),yJ 6 (prpE l need) (by rw [k1])]
  have c4:Lib.validD (l.getD i default)=true:=by simpa using c3
  have c5:=nm_ok (by omega) c4
  by_cases c6:0<i
  ·obtain ⟨k,hk⟩:∃k,k+1=i:=⟨i-1,by omega⟩
   have hat2:=strs_at (l:=l) (i:=k) (by omega)
   have c8:=hl_ord c5 hk
   by_cases c7:leS (l.getD i default) (l.getD k default)=true
   ·obtain ⟨k1,k2,k3⟩:=stop 7 (by omega) (by rw [c8,if_pos c7])
    refine zK ?_
    refine then_n ?_
    refine zS ?_
    refine zB 1 ?_
    refine zP 1 [yH [(1,{k:=i}),(2,yV (AV.val (Value.string (ByteArray.mk (l.getD i default).toArray))))]] [.keep [13,12,43,41,40,38,35,11,8,0,1,2,3,42] [8]] [yR (↑i:Int),yO (i<(encA strC l).length),yB ((encA strC l)[i]?=some (AV.val (Value.string (ByteArray.mk (l.getD i default).toArray)))) (by assumption)] ?_
    refine zS ?_
    refine zP 1 [yH [(1,yV (ai (↑(l.getD i default).length:Int))),(4,{g:=false}),(5,{av:=some (ai (↑(l.getD i default).length:Int)),g:=false}),(6,{g:=false}),(7,{b:=false})]] [.keep [54,13,12,43,41,40,38,35,11,8,0,1,2,3,42] [8]] [yR (ai (↑(l.getD i default).length:Int)),yF ((↑(l.getD i default).length:Int)<1),yF ((↑(l.getD i default).length:Int)<1),yR (ai (↑(l.getD i default).length:Int)),yF ((↑(l.getD i default).length:Int)<1),yF ((↑(l.getD i default).length:Int)<1)] ?_
    refine zFd 54 ((↑(l.getD i default).length:Int)>32) ?_
    refine zK ?_
    refine then_n ?_
    refine zS ?_
    refine zP 1 [yH [(1,yV (ao (Lib.validD (l.getD i default)))),(2,yV (ao false))]] [.keep [58,54,13,12,43,41,40,38,35,11,8,0,1,2,3,42] [8]] [yI (valid_ret (l.getD i default) (by omega)),yB (ao (!Lib.validD (l.getD i default))=ao false) (by rw [c4];rfl)] ?_
    refine zF 58 ?_
    refine zK ?_
    refine then_n ?_
    refine zP 1 [yH [(6,yV (ai (↑k:Int))),(7,{k:=k}),(8,yV (AV.val (Value.string (ByteArray.mk (l.getD k default).toArray))))]] [.keep [70,58,54,13,12,43,41,40,38,35,11,8,0,1,2,3,42] [8]] [yT ((↑i:Int)>0),yT ((↑i:Int)>0),yT ((↑i:Int)>0),yT ((↑i:Int)>0),yB (ai (IntKind.i64.wrap ((↑i:Int)-1))=ai (↑k:Int)) (congrArg (fun n=>AV.val (.int .i64 n)) (by rw [IntKind.wrap_i64];omega)),yT ((↑i:Int)>0),yR (↑k:Int),yO (k<(encA strC l).length),yT ((↑i:Int)>0),yB ((encA strC l)[k]?=some (AV.val (Value.string (ByteArray.mk (l.getD k default).toArray)))) (by assumption),yT ((↑i:Int)>0),yT ((↑i:Int)>0)] ?_
    refine zTb 70 (Op.bytesLess (ByteArray.mk (l.getD i default).toArray).toList (ByteArray.mk (l.getD k default).toArray).toList || (ByteArray.mk (l.getD i default).toArray).toList == (ByteArray.mk (l.getD k default).toArray).toList) (by assumption) ?_
    refine zP 1 [{}] [.keep [10,9,70,58,54,13,12,43,41,40,38,35,11,8,0,1,2,3,42] [8]] [yL 7 7] ?_
    refine zR ?_
    refine inb_r ?_
    refine then_r ?_
    refine round_r ?_
    refine inb_r ?_
    refine then_r ?_
    refine zV [yK 0 (wv (prpD seed draws l need).pub) (by rw [k2];rfl),yK 0 (wv (prpD seed draws l need).peer) (by rw [k2];rfl),yB (bytesA (prpD seed draws l need).box= []) (by rw [k2];rfl),yB (encA strC (prpD seed draws l need).holders= []) (by rw [k2];rfl),yB (wordsA (prpD seed draws l need).digests= []) (by rw [k2];rfl),yJ 0 ((prpD seed draws l need).need) (by rw [k2];rfl),yK 0 (wv (prpD seed draws l need).target) (by rw [k2];rfl),yB (encA bysC (prpS seed draws l need)= []) (by rw [k3];rfl),yJ 7 (prpE l need) (by rw [k1])]
   ·have c9:leS (l.getD i default) (l.getD k default)=false:=by simpa using c7
    rw [if_neg c7] at c8
    refine zK ?_
    refine then_n ?_
    refine zS ?_
    refine zB 1 ?_
    refine zP 1 [yH [(1,{k:=i}),(2,yV (AV.val (Value.string (ByteArray.mk (l.getD i default).toArray))))]] [.keep [13,12,43,41,40,38,35,11,8,0,1,2,3,42] [8]] [yR (↑i:Int),yO (i<(encA strC l).length),yB ((encA strC l)[i]?=some (AV.val (Value.string (ByteArray.mk (l.getD i default).toArray)))) (by assumption)] ?_
    refine zS ?_
    refine zP 1 [yH [(1,yV (ai (↑(l.getD i default).length:Int))),(4,{g:=false}),(5,{av:=some (ai (↑(l.getD i default).length:Int)),g:=false}),(6,{g:=false}),(7,{b:=false})]] [.keep [54,13,12,43,41,40,38,35,11,8,0,1,2,3,42] [8]] [yR (ai (↑(l.getD i default).length:Int)),yF ((↑(l.getD i default).length:Int)<1),yF ((↑(l.getD i default).length:Int)<1),yR (ai (↑(l.getD i default).length:Int)),yF ((↑(l.getD i default).length:Int)<1),yF ((↑(l.getD i default).length:Int)<1)] ?_
    refine zFd 54 ((↑(l.getD i default).length:Int)>32) ?_
    refine zK ?_
    refine then_n ?_
    refine zS ?_
    refine zP 1 [yH [(1,yV (ao (Lib.validD (l.getD i default)))),(2,yV (ao false))]] [.keep [58,54,13,12,43,41,40,38,35,11,8,0,1,2,3,42] [8]] [yI (valid_ret (l.getD i default) (by omega)),yB (ao (!Lib.validD (l.getD i default))=ao false) (by rw [c4];rfl)] ?_
    refine zF 58 ?_
    refine zK ?_
    refine then_n ?_
    refine zP 1 [yH [(6,yV (ai (↑k:Int))),(7,{k:=k}),(8,yV (AV.val (Value.string (ByteArray.mk (l.getD k default).toArray))))]] [.keep [70,58,54,13,12,43,41,40,38,35,11,8,0,1,2,3,42] [8]] [yT ((↑i:Int)>0),yT ((↑i:Int)>0),yT ((↑i:Int)>0),yT ((↑i:Int)>0),yB (ai (IntKind.i64.wrap ((↑i:Int)-1))=ai (↑k:Int)) (congrArg (fun n=>AV.val (.int .i64 n)) (by rw [IntKind.wrap_i64];omega)),yT ((↑i:Int)>0),yR (↑k:Int),yO (k<(encA strC l).length),yT ((↑i:Int)>0),yB ((encA strC l)[k]?=some (AV.val (Value.string (ByteArray.mk (l.getD k default).toArray)))) (by assumption),yT ((↑i:Int)>0),yT ((↑i:Int)>0)] ?_
    refine zFb 70 (Op.bytesLess (ByteArray.mk (l.getD i default).toArray).toList (ByteArray.mk (l.getD k default).toArray).toList || (ByteArray.mk (l.getD i default).toArray).toList == (ByteArray.mk (l.getD k default).toArray).toList) (by assumption) ?_
    refine zK ?_
    refine inb_n ?_
    refine then_n ?_
    refine zX (yH [(0,yV (ai ((↑i:Int)+1)))]) [yN ((↑i:Int)+1)] ?_
    refine round_n (i+1) ⟨by omega,by show (if _ then _ else _)=_;rw [if_neg (by omega),c8]⟩ (by omega) (zW [.keep [41,40,38,35,11,8,0,1,2,3,42] [8]])
  ·have e:i=0:=by omega
   have h1:hlE l i=0:=by subst e;exact hl_zero c5
   refine zK ?_
   refine then_n ?_
   refine zS ?_
   refine zB 1 ?_
   refine zP 1 [yH [(1,{k:=i}),(2,yV (AV.val (Value.string (ByteArray.mk (l.getD i default).toArray))))]] [.keep [13,12,43,41,40,38,35,11,8,0,1,2,3,42] [8]] [yR (↑i:Int),yO (i<(encA strC l).length),yB ((encA strC l)[i]?=some (AV.val (Value.string (ByteArray.mk (l.getD i default).toArray)))) (by assumption)] ?_
   refine zS ?_
   refine zP 1 [yH [(1,yV (ai (↑(l.getD i default).length:Int))),(4,{g:=false}),(5,{av:=some (ai (↑(l.getD i default).length:Int)),g:=false}),(6,{g:=false}),(7,{b:=false})]] [.keep [54,13,12,43,41,40,38,35,11,8,0,1,2,3,42] [8]] [yR (ai (↑(l.getD i default).length:Int)),yF ((↑(l.getD i default).length:Int)<1),yF ((↑(l.getD i default).length:Int)<1),yR (ai (↑(l.getD i default).length:Int)),yF ((↑(l.getD i default).length:Int)<1),yF ((↑(l.getD i default).length:Int)<1)] ?_
   refine zFd 54 ((↑(l.getD i default).length:Int)>32) ?_
   refine zK ?_
   refine then_n ?_
   refine zS ?_
   refine zP 1 [yH [(1,yV (ao (Lib.validD (l.getD i default)))),(2,yV (ao false))]] [.keep [58,54,13,12,43,41,40,38,35,11,8,0,1,2,3,42] [8]] [yI (valid_ret (l.getD i default) (by omega)),yB (ao (!Lib.validD (l.getD i default))=ao false) (by rw [c4];rfl)] ?_
   refine zF 58 ?_
   refine zK ?_
   refine then_n ?_
   refine zP 1 [yH [(3,{g:=false}),(4,{g:=false}),(5,{g:=false}),(6,{g:=false}),(7,{g:=false}),(8,{g:=false}),(9,{g:=false}),(10,{b:=false})]] [.keep [70,58,54,13,12,43,41,40,38,35,11,8,0,1,2,3,42] [8]] [yF ((↑i:Int)>0),yF ((↑i:Int)>0),yF ((↑i:Int)>0),yF ((↑i:Int)>0),yF ((↑i:Int)>0),yF ((↑i:Int)>0),yF ((↑i:Int)>0),yF ((↑i:Int)>0)] ?_
   refine zF 70 ?_
   refine zK ?_
   refine inb_n ?_
   refine then_n ?_
   refine zX (yH [(0,yV (ai ((↑i:Int)+1)))]) [yN ((↑i:Int)+1)] ?_
   refine round_n (i+1) ⟨by omega,by show (if _ then _ else _)=_;rw [if_neg (by omega),h1]⟩ (by omega) (zW [.keep [41,40,38,35,11,8,0,1,2,3,42] [8]])
 ·have e:i=l.length:=by omega
  subst e
  have e1:prpE l need=0:=by rw [e0,h0]
  have hsl:(stream (derive seed [115,104,97,114,101,115] draws) 0 (8*(need-1))).length=(8*(need-1)).toNat:=by
   rw [stream_len];unfold streamN;omega
  have hw8:(words [secW seed draws]).length=8:=by rw [words_len];rfl
  have hse:splitE (words [secW seed draws]) (stream (derive seed [115,104,97,114,101,115] draws) 0 (8*(need-1))) need l.length=0:=by
   unfold splitE
   rw [if_neg (by omega),if_neg (by omega),if_neg (by rw [hsl,hw8];omega)]
  have hsn:(shrL seed draws l.length need).length=l.length:=by unfold shrL splitL;rw [if_pos hse];simp
  have hse2:splitE (words [derive seed [100,101,112,111,115,105,116] draws]) (stream (derive seed [115,104,97,114,101,115] draws) 0 (8*(need-1))) need l.length=0:=hse
  have hsn2:(splitL (words [derive seed [100,101,112,111,115,105,116] draws]) (stream (derive seed [115,104,97,114,101,115] draws) 0 (8*(need-1))) need l.length).length=l.length:=hsn
  have hdat:∀i,i<l.length->((splitL (words [derive seed [100,101,112,111,115,105,116] draws]) (stream (derive seed [115,104,97,114,101,115] draws) 0 (8*(need-1))) need l.length).getD i default).2.length=8:=fun i hi=>by
   rw [splitL,if_pos hse2,Int.toNat_natCast,range_getD _ _ hi]
   show (splitD _ _ _ _).length=8
   unfold splitD
   rw [List.length_map,List.length_range]
   exact hw8
  refine zE 0 ?_
  refine then_e ?_
  refine round_e ?_
  refine inb_e ?_
  refine then_n ?_
  refine zP 3 [yH [(2,yV (aw (derive seed [100,101,112,111,115,105,116] draws)))],yH [(2,yV (aw (derive seed [115,104,97,114,101,115] draws))),(4,yV (ai (need-1))),(5,yV (ai ((8:Int)*(need-1)))),(6,yV (AV.own 1 (bytesA (stream (derive seed [115,104,97,114,101,115] draws) 0 ((8:Int)*(need-1))))))],yH [(1,yV (AV.arr (wordsA [derive seed [100,101,112,111,115,105,116] draws]))),(2,yV (AV.own 1 (bytesA (words [derive seed [100,101,112,111,115,105,116] draws])))),(6,{av:=some (AV.tup [AV.own 2 (encA shareC (splitL (words [derive seed [100,101,112,111,115,105,116] draws]) (stream (derive seed [115,104,97,114,101,115] draws) 0 ((8:Int)*(need-1))) need (↑l.length:Int))),ai (splitE (words [derive seed [100,101,112,111,115,105,116] draws]) (stream (derive seed [115,104,97,114,101,115] draws) 0 ((8:Int)*(need-1))) need (↑l.length:Int))]),b:=false})]] [.keep [17,16,15,14,43,41,40,38,35,11,8,0,1,2,3,42] [1090,8]] [yI (derive_ret seed [100,101,112,111,115,105,116] draws (by simp [hse2])),yI (derive_ret seed [115,104,97,114,101,115] draws (by simp [hse2])),yN (need-1),yN ((8:Int)*(need-1)),yI (stream_ret (derive seed [115,104,97,114,101,115] draws) 0 ((8:Int)*(need-1))),yI (valR_bytes (stream (derive seed [115,104,97,114,101,115] draws) 0 ((8:Int)*(need-1)))),yR [aw (derive seed [100,101,112,111,115,105,116] draws)],yI (words_ret [derive seed [100,101,112,111,115,105,116] draws] (by simp [hse2])),yI (valR_bytes (words [derive seed [100,101,112,111,115,105,116] draws])),yI (split_ret (words [derive seed [100,101,112,111,115,105,116] draws]) (stream (derive seed [115,104,97,114,101,115] draws) 0 ((8:Int)*(need-1))) need ((↑l.length:Int)))] ?_
  refine zS ?_
  refine zP 1 [yH [(1,yV (ao false)),(3,{g:=false}),(4,{k:=(splitL (words [derive seed [100,101,112,111,115,105,116] draws]) (stream (derive seed [115,104,97,114,101,115] draws) 0 ((8:Int)*(need-1))) need (↑l.length:Int)).length,g:=false}),(5,{g:=false}),(6,{av:=some (ao false),g:=false}),(7,{b:=false})]] [.keep [100,17,16,15,14,43,41,40,38,35,11,8,0,1,2,3,42] [1090,8]] [yB (ao (splitE (words [derive seed [100,101,112,111,115,105,116] draws]) (stream (derive seed [115,104,97,114,101,115] draws) 0 ((8:Int)*(need-1))) need (↑l.length:Int) != (0:Int))=ao false) (by simp [hse2]),yR false,yR false,yB ((encA shareC (splitL (words [derive seed [100,101,112,111,115,105,116] draws]) (stream (derive seed [115,104,97,114,101,115] draws) 0 ((8:Int)*(need-1))) need (↑l.length:Int))).length=(splitL (words [derive seed [100,101,112,111,115,105,116] draws]) (stream (derive seed [115,104,97,114,101,115] draws) 0 ((8:Int)*(need-1))) need (↑l.length:Int)).length*(2:Nat)) (by simp only [encA_len (f:=shareC) (e:=2) (fun _=>rfl)]),yR false,yR false,yB (ao ((↑(splitL (words [derive seed [100,101,112,111,115,105,116] draws]) (stream (derive seed [115,104,97,114,101,115] draws) 0 ((8:Int)*(need-1))) need (↑l.length:Int)).length:Int) != (↑l.length:Int))=ao false) (by simp [hsn2]),yR false] ?_
  refine zF 100 ?_
  refine zK ?_
  refine then_n ?_
  refine zP 2 [yH [(1,{k:=l.length,m:=l.length})],yH [(1,{av:=some (AV.arr (wordsA (List.replicate l.length 0))),k:=l.length,m:=l.length})]] [.keep [19,18,100,17,16,15,14,43,41,40,38,35,11,8,0,1,2,3,42] [106,104,1090,8]] [yR (↑l.length:Int),yR (↑l.length:Int),yB (l.length≤l.length) (by simp [hse2]),yO ((24:Nat)*l.length≤(281474976710656:Nat)),yB (l.length≤maxLen) (by unfold maxLen;omega),yB (List.replicate l.length (au0)=wordsA (List.replicate l.length 0)) (wordsA_rep _),yR (↑l.length:Int),yR (↑l.length:Int),yB (l.length≤l.length) (by simp [hse2]),yO ((8:Nat)*l.length≤(281474976710656:Nat)),yB (l.length≤maxLen) (by unfold maxLen;omega)] ?_
  refine zS ?_
  refine AWP.regsK 1 [{hs:=[(1,{k:=(encA strC l).length})]}] (by kernel_rfl) (s':=AS.mk [(109,ai 0),(108,ai (↑(encA strC l).length:Int)),(107,AV.sl 1 (encA strC l)),(19,AV.ref 106),(18,AV.ref 104),(100,ao false),(17,ai (splitE (words [derive seed [100,101,112,111,115,105,116] draws]) (stream (derive seed [115,104,97,114,101,115] draws) 0 ((8:Int)*(need-1))) need (↑l.length:Int))),(16,AV.ref 1090),(15,AV.sl 1 (bytesA (stream (derive seed [115,104,97,114,101,115] draws) 0 ((8:Int)*(need-1))))),(14,aw (derive seed [100,101,112,111,115,105,116] draws)),(43,ao (decide ((↑l.length:Int)<(↑(encA strC l).length:Int)))),(41,ai (↑(encA strC l).length:Int)),(40,AV.sl 1 (encA strC l)),(38,ao (decide (need>(↑l.length:Int)))),(35,ai need),(11,ai (↑l.length:Int)),(8,AV.addr 8 0),(0,aw seed),(1,ai draws),(2,AV.sl 1 (encA strC l)),(3,ai need),(42,ai (↑l.length:Int))] [(106,Row.mk 1 true false (wordsA (List.replicate l.length 0))),(104,Row.mk 1 true false (List.replicate l.length AV.nil)),(1090,Row.mk 2 true false (encA shareC (splitL (words [derive seed [100,101,112,111,115,105,116] draws]) (stream (derive seed [115,104,97,114,101,115] draws) 0 ((8:Int)*(need-1))) need (↑l.length:Int)))),(8,Row.mk 1 false true [au0,au0,AV.nil,AV.nil,AV.nil,ai 0,au0])]) (C:=[(encA strC l).length=(encA strC l).length]) (by kernel_rfl) ⟨(by simp [hse2]),trivial⟩ ?_
  refine zB 2 ?_
  generalize hL:splitL (words [derive seed [100,101,112,111,115,105,116] draws]) (stream (derive seed [115,104,97,114,101,115] draws) 0 (8*(need-1))) need l.length=L at *
  refine zL (fun (i:Nat)=>(⟨[(108,ai (↑(encA strC l).length:Int)),(107,AV.sl 1 (encA strC l)),(19,AV.ref 106),(18,AV.ref 104),(100,ao false),(17,ai (splitE (words [derive seed [100,101,112,111,115,105,116] draws]) (stream (derive seed [115,104,97,114,101,115] draws) 0 ((8:Int)*(need-1))) need (↑l.length:Int))),(16,AV.ref 1090),(15,AV.sl 1 (bytesA (stream (derive seed [115,104,97,114,101,115] draws) 0 ((8:Int)*(need-1))))),(14,aw (derive seed [100,101,112,111,115,105,116] draws)),(43,ao (decide ((↑l.length:Int)<(↑(encA strC l).length:Int)))),(41,ai (↑(encA strC l).length:Int)),(40,AV.sl 1 (encA strC l)),(38,ao (decide (need>(↑l.length:Int)))),(35,ai need),(11,ai (↑l.length:Int)),(8,AV.addr 8 0),(0,aw seed),(1,ai draws),(2,AV.sl 1 (encA strC l)),(3,ai need),(42,ai (↑l.length:Int)),(109,ai i)],[(1090,⟨2,true,false,encA shareC L⟩),(8,⟨1,false,true,[au0,au0,AV.nil,AV.nil,AV.nil,ai 0,au0]⟩),(104,⟨1,true,false,part (fun k=>AV.sl 1 (bytesA (L.getD k default).2)) .nil l.length i⟩),(106,⟨1,true,false,wordsA (part (fun k=>digD (l.getD k default) (L.getD k default).2) 0 l.length i)⟩)]⟩:AS)) (fun i=>(i≤l.length)) (fun i=>(l.length-i)) (0) ?_ (Weaks.of [.keep [108,107,19,18,100,17,16,15,14,43,41,40,38,35,11,8,0,1,2,3,42,109] [1090,8,104,106]] (s1:=AS.mk [(108,ai (↑(encA strC l).length:Int)),(107,AV.sl 1 (encA strC l)),(19,AV.ref 106),(18,AV.ref 104),(100,ao false),(17,ai (splitE (words [derive seed [100,101,112,111,115,105,116] draws]) (stream (derive seed [115,104,97,114,101,115] draws) 0 ((8:Int)*(need-1))) need (↑l.length:Int))),(16,AV.ref 1090),(15,AV.sl 1 (bytesA (stream (derive seed [115,104,97,114,101,115] draws) 0 ((8:Int)*(need-1))))),(14,aw (derive seed [100,101,112,111,115,105,116] draws)),(43,ao (decide ((↑l.length:Int)<(↑(encA strC l).length:Int)))),(41,ai (↑(encA strC l).length:Int)),(40,AV.sl 1 (encA strC l)),(38,ao (decide (need>(↑l.length:Int)))),(35,ai need),(11,ai (↑l.length:Int)),(8,AV.addr 8 0),(0,aw seed),(1,ai draws),(2,AV.sl 1 (encA strC l)),(3,ai need),(42,ai (↑l.length:Int)),(109,ai 0)] [(1090,Row.mk 2 true false (encA shareC L)),(8,Row.mk 1 false true [au0,au0,AV.nil,AV.nil,AV.nil,ai 0,au0]),(104,Row.mk 1 true false (List.replicate l.length AV.nil)),(106,Row.mk 1 true false (wordsA (List.replicate l.length 0)))]) (by kernel_rfl) (as_eq (f_cons rfl (f_cons rfl (f_cons rfl (f_cons rfl (f_cons rfl (f_cons rfl (f_cons rfl (f_cons rfl (f_cons rfl (f_cons rfl (f_cons rfl (f_cons rfl (f_cons rfl (f_cons rfl (f_cons rfl (f_cons rfl (f_cons rfl (f_cons rfl (f_cons rfl (f_cons rfl (f_cons rfl (f_cons rfl rfl)))))))))))))))))))))) (h_cons rfl (h_cons rfl (h_cons (part_zero _ _ _).symm (h_cons (congrArg wordsA (part_zero _ _ _).symm) rfl)))))) ?_
  ·omega
  intro i hi
  refine zQ 1 [{}] [] ?_
  refine zS ?_
  refine zD 110 ((↑i:Int)<(↑(encA strC l).length:Int)) (fun g2=>?_) (fun g2=>?_)
  ·have hi2:i<l.length:=by omega
   have hat:=strs_at hi2
   have hd8:=hdat i hi2
   have p1:=part_set (fun k=>AV.sl 1 (bytesA (L.getD k default).2)) .nil hi2
   have p2:=part_at (fun k=>AV.sl 1 (bytesA (L.getD k default).2)) .nil hi2
   have p3:(wordsA (part (fun k=>digD (l.getD k default) (L.getD k default).2) 0 l.length i)).set i (aw (digD (l.getD i default) (L.getD i default).2))=wordsA (part (fun k=>digD (l.getD k default) (L.getD k default).2) 0 l.length (i+1)):=by
    rw [←part_set _ _ hi2];unfold wordsA;rw [List.map_set]
   have p4:=part_len (fun k=>AV.sl 1 (bytesA (L.getD k default).2)) .nil l.length i
   have p5:=part_len (fun k=>AV.sl 1 (bytesA (L.getD k default).2)) .nil l.length (i+1)
   have p6:=part_len (fun k=>digD (l.getD k default) (L.getD k default).2) 0 l.length i
   have hA:=hh i hi2
   refine zK ?_
   refine then_n ?_
   refine zS ?_
   refine zB 3 ?_
   refine zP 2 [yH [(1,{k:=i}),(2,yV (AV.val (Value.string (ByteArray.mk (l.getD i default).toArray))))],yH [(4,{k:=i}),(6,yV (AV.sl 1 (bytesA (L.getD i default).snd))),(7,yV (AV.own 1 (bytesA (L.getD i default).snd))),(8,{k:=i}),(9,yV (AV.arr (part (fun k↦AV.sl 1 (bytesA (L.getD k default).snd)) AV.nil l.length (i+(1:Nat)))))]] [.keep [21,20,110,108,107,19,18,100,17,16,15,14,43,41,40,38,35,11,8,0,1,2,3,42,109] [104,1090,8,106]] [yR (↑i:Int),yO (i<(encA strC l).length),yB ((encA strC l)[i]?=some (AV.val (Value.string (ByteArray.mk (l.getD i default).toArray)))) (by assumption),yR (↑i:Int),yB (i*(2:Nat)<(encA shareC L).length) (by simp only [encA_len (f:=shareC) (e:=2) (fun _=>rfl)];omega),yB ((encA shareC L)[i*(2:Nat)+(1:Nat)]?=some (AV.sl 1 (bytesA (L.getD i default).snd))) (encA_at (f:=shareC) (e:=2) (k:=i) (j:=1) (fun _=>rfl) (by omega) rfl),yI (clone_ret ((L.getD i default).snd) (by omega)),yI (valR_bytes ((L.getD i default).snd)),yR (↑i:Int),yO (i<(part (fun k↦AV.sl 1 (bytesA (L.getD k default).snd)) AV.nil l.length i).length),yI p1,yO (i+(1:Nat)≤(part (fun k↦AV.sl 1 (bytesA (L.getD k default).snd)) AV.nil l.length i).length)] ?_
   refine zX (yH [(5,{k:=i}),(6,yV (AV.sl 1 (bytesA (L.getD i default).snd))),(7,yV (aw (digD (l.getD i default) (L.getD i default).snd))),(8,{k:=i}),(9,yV (AV.arr (wordsA (part (fun k↦digD (l.getD k default) (L.getD k default).snd) 0 l.length (i+(1:Nat))))))]) [yR (↑i:Int),yO (i<(part (fun k↦AV.sl 1 (bytesA (L.getD k default).snd)) AV.nil l.length (i+(1:Nat))).length),yI p2,yI (digest_ret (l.getD i default) ((L.getD i default).snd) (by assumption) (by omega)),yR (↑i:Int),yB (i<(wordsA (part (fun k↦digD (l.getD k default) (L.getD k default).snd) 0 l.length i)).length) (by simp only [wordsA_len];omega),yI p3,yB (i+(1:Nat)≤(wordsA (part (fun k↦digD (l.getD k default) (L.getD k default).snd) 0 l.length i)).length) (by simp only [wordsA_len];omega)] ?_
   refine inb_n ?_
   refine then_n ?_
   refine zX (yH [(0,yV (ai ((↑i:Int)+1)))]) [yN ((↑i:Int)+1)] ?_
   refine round_n (i+1) (by assumption) (by omega) (zW [.keep [108,107,19,18,100,17,16,15,14,43,41,40,38,35,11,8,0,1,2,3,42,109] [1090,8,104,106]])
  ·have e:i=l.length:=by omega
   subst e
   have hLs:shrL seed draws l.length need=L:=hL
   have e2:prpD seed draws l need=⟨pubW (derive seed [100,101,112,111,115,105,116] draws),0,[],l,part (fun k=>digD (l.getD k default) (L.getD k default).2) 0 l.length l.length,need,0⟩:=by
    unfold prpD;rw [if_pos e1,hLs,part_end];rfl
   have e3:part (fun k=>AV.sl 1 (bytesA (L.getD k default).2)) .nil l.length l.length=encA bysC (prpS seed draws l need):=by
    unfold prpS;rw [if_pos e1,hLs,part_end,bys_map,List.map_map];rfl
   refine zE 2 ?_
   refine then_e ?_
   refine round_e ?_
   refine inb_e ?_
   refine then_n ?_
   refine zP 1 [yH [(1,yV (aw (pubW (derive seed [100,101,112,111,115,105,116] draws)))),(3,{av:=some (AV.own 1 (encA (fun s↦ [as_ s]) l)),b:=false})]] [.keep [10,9,110,108,107,19,18,100,17,16,15,14,43,41,40,38,35,11,8,0,1,2,3,42,109] [8,136,1090,104,106]] [yI (pubx_ret (derive seed [100,101,112,111,115,105,116] draws)),yI (sclone_ret l (by assumption)),yL 7 7] ?_
   refine zR ?_
   refine zV [yK (wv (pubW (derive seed [100,101,112,111,115,105,116] draws))) (wv (prpD seed draws l need).pub) (by rw [e2]),yK 0 (wv (prpD seed draws l need).peer) (by rw [e2];rfl),yB (bytesA (prpD seed draws l need).box= []) (by rw [e2];rfl),yB (encA (fun s↦ [as_ s]) l=encA strC (prpD seed draws l need).holders) (by rw [e2];rfl),yB (wordsA (part (fun k↦digD (l.getD k default) (L.getD k default).snd) 0 l.length l.length)=wordsA (prpD seed draws l need).digests) (by rw [e2]),yJ need ((prpD seed draws l need).need) (by rw [e2]),yK 0 (wv (prpD seed draws l need).target) (by rw [e2];rfl),yB (part (fun k↦AV.sl 1 (bytesA (L.getD k default).snd)) AV.nil l.length l.length=encA bysC (prpS seed draws l need)) (by rw [e3]),yJ 0 (prpE l need) (by rw [e1])]
end Go.Proofs.YtejpabdmiagnnaaGreatDoor
