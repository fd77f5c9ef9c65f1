import Derived.Test.YtjgbhhnghedgdaaGreatDoorZsV8
import Derived.Test.YtjgbhhnghedgdaaGreatDoorZsCb5
import Derived.Test.YtjgbhhnghedgdaaGreatDoorZsDR
import Derived.Test.YtjgbhhnghedgdaaGreatDoorZsRH
import Derived.Test.YtjgbhhnghedgdaaGreatDoorZsOt1
import Derived.Test.YtjgbhhnghedgdaaGreatDoorZsRJ
import Derived.Test.YtjgbhhnghedgdaaGreatDoorZsRec5
import Derived.Test.YtjgbhhnghedgdaaGreatDoorZsRF
set_option linter.all false
namespace Go.Proofs.YtjgbhhnghedgdaaGreatDoor
open Go.RowKit
set_option maxRecDepth 100000
set_option maxHeartbeats 4000000
set_option linter.unusedVariables false
def itmsC (l:List Itm):List AV:=[.sl 3 (encA itmC l)]
def uintI (n:UInt64):Itm:=⟨1,n,[]⟩
def textI (b:List UInt8):Itm:=⟨4,0,b⟩
def byteI (b:List UInt8):Itm:=⟨3,0,b⟩
def arrI (n:UInt64):Itm:=⟨5,n,[]⟩
theorem uint_ret (n:UInt64):Ret Tryz.prog 75 [aw n] (.own 3 (encA itmC [uintI n])):=by
 refine zO Tryz.func75 6 ?_
 refine zP 2 [{},{}] [.keep [2,0] [5]] [] ?_
 refine zR ?_
 refine zV [yR (encA itmC [uintI n])]
theorem text_ret (b:List UInt8):Ret Tryz.prog 122 [as_ b] (.own 3 (encA itmC [textI b])):=by
 refine zO Tryz.func122 6 ?_
 refine zP 2 [{},{}] [.keep [2,0] [5]] [] ?_
 refine zR ?_
 refine zV [yR (encA itmC [textI b])]
theorem byte_ret (b:List UInt8) (hb:b.length≤1000000):Ret Tryz.prog 123 [.sl 1 (bytesA b)] (.own 3 (encA itmC [byteI b])):=by
 refine zO Tryz.func123 7 ?_
 refine zP 2 [{},yH [(1,yV (AV.val (Value.string (ByteArray.mk b.toArray))))]] [.keep [2,0] [6]] [yR (bytesA b)] ?_
 refine zR ?_
 refine zV [yR (encA itmC [byteI b])]
theorem itms_at {l:List (List Itm)} {i:Nat} (h:i<l.length):(encA itmsC l)[i]?=some (.sl 3 (encA itmC (l.getD i default))):=by
 have:=encA_at (f:=itmsC) (e:=1) (l:=l) (k:=i) (j:=0) (fun _=>rfl) h (c:=.sl 3 (encA itmC (l.getD i default))) rfl
 simpa using this
structure Vals (vs:List (List Itm)):Prop where
 len:vs.length≤20
 each:∀v∈vs,v.length≤20
 kind:∀v∈vs,∀x∈v,simpleK x.kind
 dat:∀v∈vs,∀x∈v,x.dat.length≤10000
def fltE (vs:List (List Itm)) (i:Nat):Int:=vldE (vs.getD i default)
theorem faulty_ret (vs:List (List Itm)) (hv:Vals vs):Ret Tryz.prog 125 [.sl 1 (encA itmsC vs)] (ai (ff (fltE vs) vs.length)):=by
 have h20:=hv.len
 have hll:(encA itmsC vs).length=vs.length:=by rw [encA_len (e:=1) (fun _=>rfl)];omega
 refine zO Tryz.func125 18 ?_
 refine zQ 1 [{}] [] ?_
 refine zS ?_
 refine zQ 1 [yH [(1,{k:=(encA itmsC vs).length})]] [yR ((encA itmsC vs).length)] ?_
 refine zB 0 ?_
 refine zL (fun (i:Nat)=>(⟨[(7,ai (↑(encA itmsC vs).length:Int)),(6,AV.sl 1 (encA itmsC vs)),(0,AV.sl 1 (encA itmsC vs)),(8,ai i)],[]⟩:AS)) (fun i=>(i≤vs.length∧ff (fltE vs) i=0)) (fun i=>(vs.length-i)) (0) ?_ (zW [.keep [7,6,0,8] []]) ?_
 ·exact ⟨by omega,rfl⟩
 rintro i ⟨hi,h0⟩
 refine zQ 1 [{}] [] ?_
 refine zS ?_
 refine zD 9 ((↑i:Int)<(↑(encA itmsC vs).length:Int)) (fun h=>?_) (fun h=>?_)
 ·have hi2:i<vs.length:=by omega
  have hat:=itms_at hi2
  have hm:vs.getD i default∈vs:=by rw [List.getD_eq_getElem?_getD,List.getElem?_eq_getElem hi2];exact List.getElem_mem hi2
  have he:=hv.each _ hm
  have hk:=hv.kind _ hm
  have hd2:∀x∈vs.getD i default,x.dat.length≤1000000:=fun x hx=>by have:=hv.dat _ hm x hx;omega
  by_cases e:vldE (vs.getD i default)=0
  ·have k2:ff (fltE vs) (i+1)=0:=by show (if _ then _ else _)=_;rw [if_neg (by omega)];exact e
   refine zK ?_
   refine then_n ?_
   refine zS ?_
   refine zB 1 ?_
   refine zP 3 [yH [(0,{k:=i}),(1,yV (AV.sl 3 (encA itmC (vs.getD i default))))],yH [(1,yV (ai (vldE (vs.getD i default))))],{}] [.keep [15,5,4,9,7,6,0,8] []] [yR (↑i:Int),yO (i<(encA itmsC vs).length),yB ((encA itmsC vs)[i]?=some (AV.sl 3 (encA itmC (vs.getD i default)))) (by assumption),yI (validate_ret (vs.getD i default) (by omega) (by assumption) (by assumption))] ?_
   refine zFb 15 (vldE (vs.getD i default) != (0:Int)) (by simp_all) ?_
   refine zK ?_
   refine inb_n ?_
   refine then_n ?_
   refine zX (yH [(0,yV (ai ((↑i:Int)+1)))]) [yN ((↑i:Int)+1)] ?_
   refine round_n (i+1) ⟨by omega,k2⟩ (by omega) (zW [.keep [7,6,0,8] []])
  ·have k2:ff (fltE vs) (i+1)=fltE vs i:=by show (if _ then _ else _)=_;rw [if_neg (by omega)]
   have k3:=ff_stay (E:=fltE vs) e k2 vs.length (by omega)
   refine zK ?_
   refine then_n ?_
   refine zS ?_
   refine zB 1 ?_
   refine zP 3 [yH [(0,{k:=i}),(1,yV (AV.sl 3 (encA itmC (vs.getD i default))))],yH [(1,yV (ai (vldE (vs.getD i default))))],{}] [.keep [15,5,4,9,7,6,0,8] []] [yR (↑i:Int),yO (i<(encA itmsC vs).length),yB ((encA itmsC vs)[i]?=some (AV.sl 3 (encA itmC (vs.getD i default)))) (by assumption),yI (validate_ret (vs.getD i default) (by omega) (by assumption) (by assumption))] ?_
   refine zTb 15 (vldE (vs.getD i default) != (0:Int)) (by simp_all) ?_
   refine zQ 1 [{}] [] ?_
   refine zR ?_
   refine inb_r ?_
   refine then_r ?_
   refine round_r ?_
   refine inb_r ?_
   refine then_r ?_
   refine zV [yJ (vldE (vs.getD i default)) (ff (fltE vs) vs.length) (by rw [k3])]
 ·have e:i=vs.length:=by omega
  subst e
  refine zE 0 ?_
  refine then_e ?_
  refine round_e ?_
  refine inb_e ?_
  refine then_n ?_
  refine zQ 1 [{}] [] ?_
  refine zR ?_
  refine zV [yJ 0 (ff (fltE vs) vs.length) (by rw [h0])]
theorem checked_ret (l:List Itm) (e:vldE l=0) (hl:l.length≤500) (hk:∀x∈l,simpleK x.kind) (hd2:∀x∈l,x.dat.length≤1000000):Ret Tryz.prog 126 [.sl 3 (encA itmC l)] (.tup [.sl 3 (encA itmC l),ai 0]):=by
 refine zO Tryz.func126 11 ?_
 refine zQ 1 [{}] [] ?_
 refine zS ?_
 refine zP 2 [yH [(1,yV (ai (vldE l)))],yH [(1,yV (ao false))]] [.keep [8,4,3,2,0] []] [yI (validate_ret l (by assumption) (by assumption) (by assumption)),yB (ao (vldE l != (0:Int))=ao false) (by simp [e])] ?_
 refine zF 8 ?_
 refine zK ?_
 refine then_n ?_
 refine zQ 1 [{}] [] ?_
 refine zR ?_
 refine zV [yR (encA itmC l),yR (Value.int .i64 0)]
def arrL (vs:List (List Itm)):List Itm:=arrI (u64 vs.length)::vs.flatten
theorem itf_mem {vs:List (List Itm)} (hv:Vals vs):∀x∈arrL vs,simpleK x.kind∧x.dat.length≤10000:=by
 intro x hx
 rcases List.mem_cons.1 hx with rfl|hx
 ·exact ⟨.inr (.inr (.inr rfl)),Nat.zero_le _⟩
 ·obtain ⟨v,hm,hxv⟩:=List.mem_flatten.1 hx
  exact ⟨hv.kind v hm x hxv,hv.dat v hm x hxv⟩
theorem itf_len:∀ {vs:List (List Itm)} {n:Nat},(∀v∈vs,v.length≤20)->vs.length≤n->vs.flatten.length≤20*n
 | [],n,_,_=>Nat.zero_le _
 | v::vs,n,h,hn=>by
  simp only [List.length_cons] at hn
  have ih:=itf_len (vs:=vs) (n:=n-1) (fun y hy=>h y (by simp [hy])) (by omega)
  have h1:=h v (by simp)
  rw [List.flatten_cons,List.length_append];omega
theorem plain_itm (x:Itm):plainR (itmC x):=plainR_of rfl
theorem array_ret (vs:List (List Itm)) (hv:Vals vs) (hf:ff (fltE vs) vs.length=0) (e:vldE (arrL vs)=0):Ret Tryz.prog 76 [.sl 1 (encA itmsC vs)] (.tup [.sl 3 (encA itmC (arrL vs)),ai 0]):=by
 have h20:=hv.len
 have hll:(encA itmsC vs).length=vs.length:=by rw [encA_len (e:=1) (fun _=>rfl)];omega
 have hfl:=itf_len (vs:=vs) (n:=20) hv.each h20
 have hal:(arrL vs).length≤500:=by show vs.flatten.length+1≤_;omega
 have hak:∀x∈arrL vs,simpleK x.kind:=fun x hx=>(itf_mem hv x hx).1
 have had:∀x∈arrL vs,x.dat.length≤1000000:=fun x hx=>by have:=(itf_mem hv x hx).2;omega
 refine zO Tryz.func76 35 ?_
 refine zQ 1 [{}] [] ?_
 refine zS ?_
 refine zP 2 [yH [(1,yV (ai (ff (fltE vs) vs.length)))],yH [(1,yV (ao false))]] [.keep [11,4,3,2,0] []] [yI (faulty_ret vs (by assumption)),yB (ao (ff (fltE vs) vs.length != (0:Int))=ao false) (by simp [hf])] ?_
 refine zF 11 ?_
 refine zK ?_
 refine then_n ?_
 refine zP 1 [yH [(1,{k:=(encA itmsC vs).length}),(2,yV (aw (u64 (↑(encA itmsC vs).length:Int))))]] [.keep [5,11,4,3,2,0] [17]] [yR ((encA itmsC vs).length),yI (avw_conv (↑(encA itmsC vs).length:Int))] ?_
 refine zS ?_
 refine zQ 1 [yH [(1,{k:=(encA itmsC vs).length})]] [yR ((encA itmsC vs).length)] ?_
 refine zB 0 ?_
 refine zL (fun (i:Nat)=>(⟨[(19,ai (↑(encA itmsC vs).length:Int)),(18,AV.sl 1 (encA itmsC vs)),(11,ao false),(4,ai (ff (fltE vs) vs.length)),(3,ai 0),(2,AV.nil),(0,AV.sl 1 (encA itmsC vs)),(20,ai i),(5,AV.ref 29)],[(29,⟨3,true,false,encA itmC (arrI (u64 vs.length)::(vs.take i).flatten)⟩)]⟩:AS)) (fun i=>(i≤vs.length)) (fun i=>(vs.length-i)) (0) ?_ (Weaks.of [.ren 17 29,.loose 29,.keep [19,18,11,4,3,2,0,20,5] [29]] (s1:=AS.mk [(19,ai (↑(encA itmsC vs).length:Int)),(18,AV.sl 1 (encA itmsC vs)),(11,ao false),(4,ai (ff (fltE vs) vs.length)),(3,ai 0),(2,AV.nil),(0,AV.sl 1 (encA itmsC vs)),(20,ai 0),(5,AV.ref 29)] [(29,Row.mk 3 true false [ai 5,aw (u64 (↑(encA itmsC vs).length:Int)),AV.val (Value.string (ByteArray.mk #[]))])]) (by kernel_rfl) (as_eq (f_cons rfl (f_cons rfl (f_cons rfl (f_cons rfl (f_cons rfl (f_cons rfl (f_cons rfl (f_cons rfl (f_cons rfl rfl))))))))) (h_cons (by rw [hll];rfl) rfl))) ?_
 ·omega
 intro i hi
 have hfi:=itf_len (vs:=vs.take i) (n:=20) (fun v hm=>hv.each v (List.mem_of_mem_take hm)) (by rw [List.length_take];omega)
 have hli:(encA itmC (arrI (u64 vs.length)::(vs.take i).flatten)).length≤1203:=by rw [encA_len (e:=3) (fun _=>rfl),List.length_cons];omega
 have hln:(arrI (u64 vs.length)::(vs.take i).flatten).length≤401:=by rw [List.length_cons];omega
 refine zQ 1 [{}] [] ?_
 refine zS ?_
 refine zD 21 ((↑i:Int)<(↑(encA itmsC vs).length:Int)) (fun h=>?_) (fun h=>?_)
 ·have hi2:i<vs.length:=by omega
  have hat:=itms_at hi2
  have hm:vs.getD i default∈vs:=by rw [List.getD_eq_getElem?_getD,List.getElem?_eq_getElem hi2];exact List.getElem_mem hi2
  have he:=hv.each _ hm
  have hel:(encA itmC (vs.getD i default)).length≤60:=by rw [encA_len (e:=3) (fun _=>rfl)];omega
  have es:encA itmC (arrI (u64 vs.length)::(vs.take i).flatten)++encA itmC (vs.getD i default)=encA itmC (arrI (u64 vs.length)::(vs.take (i+1)).flatten):=by
   have ef:(vs.take (i+1)).flatten=(vs.take i).flatten++vs.getD i default:=by
    rw [List.take_succ_eq_append_getElem hi2,List.flatten_append,List.getD_eq_getElem?_getD,List.getElem?_eq_getElem hi2]
    simp
   rw [encA_app,ef];rfl
  refine zK ?_
  refine then_n ?_
  refine zS ?_
  refine zB 1 ?_
  refine zP 1 [yH [(0,{k:=i}),(1,yV (AV.sl 3 (encA itmC (vs.getD i default))))]] [.keep [7,21,19,18,11,4,3,2,0,20,5] [29]] [yR (↑i:Int),yO (i<(encA itmsC vs).length),yB ((encA itmsC vs)[i]?=some (AV.sl 3 (encA itmC (vs.getD i default)))) (by assumption)] ?_
  refine zS ?_
  refine zP 1 [yH [(1,{k:=(arrI (u64 (↑vs.length:Int))::(List.take i vs).flatten).length})]] [.keep [26,7,21,19,18,11,4,3,2,0,20,5] [29]] [yB ((encA itmC (arrI (u64 (↑vs.length:Int))::(List.take i vs).flatten)).length=(arrI (u64 (↑vs.length:Int))::(List.take i vs).flatten).length*(3:Nat)) (by simp only [encA_len (f:=itmC) (e:=3) (fun _=>rfl)])] ?_
  refine zFd 26 ((↑(arrI (u64 (↑vs.length:Int))::(List.take i vs).flatten).length:Int)>512) ?_
  refine zK ?_
  refine then_n ?_
  refine zX (yH [(2,{b:=false})]) [yB (plainR (encA itmC (vs.getD i default))) (encA_plain (fun x=>plain_itm x) _),yO (((encA itmC (arrI (u64 (↑vs.length:Int))::(List.take i vs).flatten)).length+(encA itmC (vs.getD i default)).length)*(32:Nat)≤(422212465065984:Nat))] ?_
  refine inb_n ?_
  refine then_n ?_
  refine zX (yH [(0,yV (ai ((↑i:Int)+1)))]) [yN ((↑i:Int)+1)] ?_
  refine round_n (i+1) (by assumption) (by omega) (Weaks.of [.keep [19,18,11,4,3,2,0,20,5] [29]] (s1:=AS.mk [(19,ai (↑(encA itmsC vs).length:Int)),(18,AV.sl 1 (encA itmsC vs)),(11,ao false),(4,ai (ff (fltE vs) vs.length)),(3,ai 0),(2,AV.nil),(0,AV.sl 1 (encA itmsC vs)),(20,ai ((↑i:Int)+1)),(5,AV.ref 29)] [(29,Row.mk 3 true false (encA itmC (arrI (u64 (↑vs.length:Int))::(List.take i vs).flatten)++encA itmC (vs.getD i default)))]) (by kernel_rfl) (as_eq (f_cons rfl (f_cons rfl (f_cons rfl (f_cons rfl (f_cons rfl (f_cons rfl (f_cons rfl (f_cons rfl (f_cons rfl rfl))))))))) (h_cons es rfl)))
 ·have e2:i=vs.length:=by omega
  subst e2
  rw [List.take_length]
  refine zE 0 ?_
  refine then_e ?_
  refine round_e ?_
  refine inb_e ?_
  refine then_n ?_
  refine zP 1 [yH [(1,{av:=some (AV.tup [AV.sl 3 (encA itmC (arrI (u64 (↑vs.length:Int))::vs.flatten)),ai 0]),b:=false})]] [.keep [3,2,21,19,18,11,4,0,20,5] []] [yI (checked_ret (arrI (u64 (↑vs.length:Int))::vs.flatten) (by assumption) (by assumption) (by assumption) (by assumption))] ?_
  refine zR ?_
  refine zV [yR (encA itmC (arrL vs)),yR (Value.int .i64 0)]
end Go.Proofs.YtjgbhhnghedgdaaGreatDoor
namespace Go.Proofs.YtjgbhhnghedgdaaGreatDoor
open Go.RowKit
structure LeafI (x:Itm):Prop where
 kind:x.kind=1∨x.kind=3∨x.kind=4
 shp:shpB x=true
 dat:x.dat.length≤1024
 acc:accE x=0
theorem LeafI.uint (n:UInt64):LeafI (uintI n):=⟨.inl rfl,rfl,Nat.zero_le _,rfl⟩
theorem LeafI.byte {b:List UInt8} (h:b.length≤1024):LeafI (byteI b):=⟨.inr (.inl rfl),rfl,h,rfl⟩
theorem LeafI.text {b:List UInt8} (h:b.length≤1024) (hv:Lib.validD b=true):LeafI (textI b):=⟨.inr (.inr rfl),rfl,h,by
 unfold accE
 rw [if_neg]
 rintro ⟨-,q⟩
 have q:Lib.validD b=false:=q
 rw [hv] at q;cases q⟩
theorem it_leaf {fr:List Int} {c:Nat} {x:Itm} (h:LeafI x) (h1:c=0∨fr.length≠0) (h2:c<512) (h3:fr.length≤8):itE fr c x=0:=by
 have hk:=h.kind
 have ha:admE c fr.length x.kind=0:=by unfold admE;rw [if_neg (by omega),if_neg (by omega),if_neg (by omega)]
 have hd:=h.dat
 unfold itE
 rw [if_neg (by omega),if_neg (by omega),if_neg (by rw [h.shp];decide),if_neg (by omega),if_neg (by omega)]
 exact h.acc
theorem stF_leaf {x:Itm} (h:LeafI x) (k:Int):stF [k] x=if k=1 then [] else [k-1]:=by
 have hk:=h.kind
 have hp:pshF x (decF [k])= [k-1]:=by
  unfold pshF
  rw [if_neg (by omega)]
  rfl
 unfold stF
 rw [hp]
 unfold popF
 by_cases e:k=1
 ·subst e;rfl
 ·rw [if_neg e]
  have:popN [k-1] 1=1:=by
   show (if ([k-1]:List Int).getD 0 0=0 then _ else _)=_
   rw [if_neg]
   show ¬(k-1=0)
   omega
  show List.take (popN [k-1] 1) [k-1]=_
  rw [this];rfl
theorem stF_nil {x:Itm} (h:LeafI x):stF [] x= []:=by
 have hk:=h.kind
 unfold stF pshF
 rw [if_neg (by omega)]
 rfl
theorem stF_arr {n:UInt64} (h:0<wv n):stF [] (arrI n)= [wv n]:=by
 have hp:pshF (arrI n) (decF [])= [wv n]:=if_pos ⟨rfl,h⟩
 unfold stF
 rw [hp]
 have:popN [wv n] 1=1:=by
  show (if ([wv n]:List Int).getD 0 0=0 then _ else _)=_
  rw [if_neg]
  show ¬(wv n=0)
  omega
 unfold popF
 show List.take (popN [wv n] 1) [wv n]=_
 rw [this];rfl
theorem vld_leaf {x:Itm} (h:LeafI x):vldE [x]=0:=by
 have h0:vE [x] 0=0:=it_leaf h (.inl rfl) (by decide) (Nat.zero_le _)
 have hf:ff (vE [x]) 1=0:=by show (if _ then _ else _)=_;rw [if_neg (by show ¬(0:Int)≠0;decide)];exact h0
 have hv:vF [x] 1= []:=stF_nil h
 unfold vldE
 show (if ff (vE [x]) 1≠0 then ff (vE [x]) 1 else if 0<1∧(vF [x] 1).length=0 then 0 else 1)=(0:Int)
 rw [if_neg (by omega),if_pos ⟨by decide,by rw [hv];rfl⟩]
section
variable {n:UInt64} {xs:List Itm} (hx:∀x∈xs,LeafI x) (hn:wv n=xs.length) (h1:1≤xs.length) (h2:xs.length≤100)
include hx hn h1 h2
theorem vF_arr:∀j,j≤xs.length->vF (arrI n::xs) (j+1)=if j=xs.length then [] else [(xs.length:Int)-j]
 | 0,_=>by
  rw [if_neg (by omega)]
  show stF [] (arrI n)=_
  rw [stF_arr (by omega),hn];simp
 | j+1,hj=>by
  have ih:=vF_arr j (by omega)
  rw [if_neg (by omega)] at ih
  have hm:(arrI n::xs).getD (j+1) default∈xs:=by
   show xs.getD j default∈xs
   rw [List.getD_eq_getElem?_getD,List.getElem?_eq_getElem (by omega)];exact List.getElem_mem (by omega)
  show stF (vF (arrI n::xs) (j+1)) ((arrI n::xs).getD (j+1) default)=_
  rw [ih,stF_leaf (hx _ hm)]
  by_cases e:j+1=xs.length
  ·rw [if_pos (by omega),if_pos e]
  ·rw [if_neg (by omega),if_neg e]
   congr 1
   omega
theorem vE_arr (j:Nat) (hj:j≤xs.length):vE (arrI n::xs) j=0:=by
 cases j with
 | zero =>
  show itE [] 0 (arrI n)=0
  unfold itE
  rw [if_neg (by omega),if_neg (by show ¬admE 0 0 5≠0;decide),if_neg (by show ¬shpB (arrI n)=false;have:shpB (arrI n)=true:=rfl;rw [this];decide),if_neg (by show ¬1024<0;decide),if_neg (by rintro ⟨-,q⟩;have q:512<wv n:=q;omega)]
  rfl
 | succ j =>
  have hm:(arrI n::xs).getD (j+1) default∈xs:=by
   show xs.getD j default∈xs
   rw [List.getD_eq_getElem?_getD,List.getElem?_eq_getElem (by omega)];exact List.getElem_mem (by omega)
  have e:=vF_arr hx hn h1 h2 j (by omega)
  rw [if_neg (by omega)] at e
  show itE (vF (arrI n::xs) (j+1)) (j+1) ((arrI n::xs).getD (j+1) default)=0
  rw [e]
  exact it_leaf (hx _ hm) (.inr (by simp)) (by omega) (by simp)
theorem ff_arr:∀j,j≤xs.length+1->ff (vE (arrI n::xs)) j=0
 | 0,_=>rfl
 | j+1,hj=>by
  show (if _ then _ else _)=_
  rw [if_neg (by rw [ff_arr j (by omega)];decide)]
  exact vE_arr hx hn h1 h2 j (by omega)
theorem vld_arr:vldE (arrI n::xs)=0:=by
 have hf:=ff_arr hx hn h1 h2 (xs.length+1) (Nat.le_refl _)
 have hv:=vF_arr hx hn h1 h2 xs.length (Nat.le_refl _)
 rw [if_pos rfl] at hv
 unfold vldE
 show (if ff (vE (arrI n::xs)) (xs.length+1)≠0 then _ else if 0<xs.length+1∧(vF (arrI n::xs) (xs.length+1)).length=0 then 0 else 1)=(0:Int)
 rw [if_neg (by omega),if_pos ⟨by omega,by rw [hv];rfl⟩]
end
theorem plain_vals {xs:List Itm} (hx:∀x∈xs,LeafI x) (h1:1≤xs.length) (h2:xs.length≤20):Vals (xs.map fun x=>[x])∧ff (fltE (xs.map fun x=>[x])) (xs.map fun x=>[x]).length=0∧vldE (arrL (xs.map fun x=>[x]))=0∧arrL (xs.map fun x=>[x])=arrI (u64 xs.length)::xs:=by
 have hfl:(xs.map fun x=>[x]).flatten=xs:=by
  clear hx h1 h2
  induction xs with
  | nil=>rfl
  | cons x l ih=>rw [List.map_cons,List.flatten_cons,ih];rfl
 have ha:arrL (xs.map fun x=>[x])=arrI (u64 xs.length)::xs:=by unfold arrL;rw [hfl,List.length_map]
 have hmem:∀v∈xs.map fun x=>[x],∃x∈xs,v= [x]:=fun v hv=>by
  obtain ⟨x,hm,e⟩:=List.mem_map.1 hv
  exact ⟨x,hm,e.symm⟩
 refine ⟨⟨by rw [List.length_map];exact h2,fun v hv=>?_,fun v hv x hxv=>?_,fun v hv x hxv=>?_⟩,?_,?_,ha⟩
 ·obtain ⟨x,-,rfl⟩:=hmem v hv;simp
 ·obtain ⟨y,hy,rfl⟩:=hmem v hv
  have:=List.mem_singleton.1 hxv
  subst this
  rcases (hx _ hy).kind with q|q|q
  ·exact .inl q
  ·exact .inr (.inl q)
  ·exact .inr (.inr (.inl q))
 ·obtain ⟨y,hy,rfl⟩:=hmem v hv
  have:=List.mem_singleton.1 hxv
  subst this
  have:=(hx _ hy).dat
  omega
 ·have:∀j,j≤(xs.map fun x=>[x]).length->ff (fltE (xs.map fun x=>[x])) j=0:=by
   intro j
   induction j with
   | zero=>intro _;rfl
   | succ j ih =>
    intro hj
    show (if _ then _ else _)=_
    rw [if_neg (by rw [ih (by omega)];decide)]
    have hj2:j<xs.length:=by rw [List.length_map] at hj;omega
    show vldE ((xs.map fun x=>[x]).getD j default)=0
    rw [List.getD_eq_getElem?_getD,List.getElem?_map,List.getElem?_eq_getElem hj2]
    exact vld_leaf (hx _ (List.getElem_mem hj2))
  exact this _ (Nat.le_refl _)
 ·rw [ha]
  refine vld_arr hx ?_ h1 (by omega)
  rw [u64_wv];omega
end Go.Proofs.YtjgbhhnghedgdaaGreatDoor
namespace Go.Proofs.YtjgbhhnghedgdaaGreatDoor
open Go.RowKit
set_option maxRecDepth 100000
set_option maxHeartbeats 4000000
set_option linter.unusedVariables false
def badH (h:Int):Prop:=h<0∨4<h
instance (h:Int):Decidable (badH h):=inferInstanceAs (Decidable (_∨_))
theorem high_ret (h:Int):Ret Tryz.prog 87 [ai h] (ao (decide (badH h))):=by
 by_cases h1:h<0
 ·have e:decide (badH h)=true:=decide_eq_true (.inl h1)
  refine zO Tryz.func87 9 ?_
  refine zP 2 [{},{}] [.keep [2,0] []] [yT (h<0),yT (h<0),yT (h<0)] ?_
  refine zR ?_
  refine zV [yB (Value.bool true=Value.bool (decide (badH h))) (by rw [e])]
 ·by_cases h2:h>4
  ·have e:decide (badH h)=true:=decide_eq_true (.inr h2)
   refine zO Tryz.func87 9 ?_
   refine zP 2 [{},yH [(3,{g:=false}),(4,{g:=false}),(5,{b:=false})]] [.keep [2,0] []] [yF (h<0),yF (h<0),yF (h<0)] ?_
   refine zR ?_
   refine zV [yB (Value.bool (decide (h>4))=Value.bool (decide (badH h))) (by rw [e,decide_eq_true h2])]
  ·have e:decide (badH h)=false:=decide_eq_false (by rintro (h|h)<;>omega)
   refine zO Tryz.func87 9 ?_
   refine zP 2 [{},yH [(3,{g:=false}),(4,{g:=false}),(5,{b:=false})]] [.keep [2,0] []] [yF (h<0),yF (h<0),yF (h<0)] ?_
   refine zR ?_
   refine zV [yB (Value.bool (decide (h>4))=Value.bool (decide (badH h))) (by rw [e,decide_eq_false h2])]
theorem refheight_ret (h:Int):Ret Tryz.prog 91 [ai h] (ao (!decide (badH h))):=by
 by_cases h1:h<0
 ·have e:decide (badH h)=true:=decide_eq_true (.inl h1)
  refine zO Tryz.func91 9 ?_
  refine zP 2 [{},yH [(3,{g:=false}),(4,{g:=false}),(5,{b:=false})]] [.keep [2,0] []] [yF (h≥0),yF (h≥0),yF (h≥0)] ?_
  refine zR ?_
  refine zV [yB (Value.bool false=Value.bool !decide (badH h)) (by rw [e];rfl)]
 ·by_cases h2:h>4
  ·have e:decide (badH h)=true:=decide_eq_true (.inr h2)
   refine zO Tryz.func91 9 ?_
   refine zP 2 [{},{}] [.keep [2,0] []] [yT (h≥0),yT (h≥0),yT (h≥0)] ?_
   refine zR ?_
   refine zV [yB (Value.bool (decide (h≤4))=Value.bool !decide (badH h)) (by rw [e,decide_eq_false (by omega)];rfl)]
  ·have e:decide (badH h)=false:=decide_eq_false (by rintro (h|h)<;>omega)
   refine zO Tryz.func91 9 ?_
   refine zP 2 [{},{}] [.keep [2,0] []] [yT (h≥0),yT (h≥0),yT (h≥0)] ?_
   refine zR ?_
   refine zV [yB (Value.bool (decide (h≤4))=Value.bool !decide (badH h)) (by rw [e,decide_eq_true (by omega)];rfl)]
def keyE (h:Int):Int:=if badH h then 9 else 0
def keyD (h:Int) (r:UInt64):List UInt8:=if badH h then [] else u8 h::words [r]
end Go.Proofs.YtjgbhhnghedgdaaGreatDoor
namespace Go.Proofs.YtjgbhhnghedgdaaGreatDoor
open Go.RowKit
set_option maxRecDepth 100000
set_option maxHeartbeats 4000000
set_option linter.unusedVariables false
def parW (lv:Int) (a b:UInt64):UInt64:=hash 3 (words [u64 lv,a,b])
theorem parent_ret (lv:Int) (a b:UInt64):Ret Tryz.prog 144 [ai lv,aw a,aw b] (aw (parW lv a b)):=by
 refine zO Tryz.func144 14 ?_
 refine zP 2 [{},yH [(1,yV (aw (u64 lv))),(4,yV (AV.arr (wordsA [u64 lv,a,b]))),(5,yV (AV.own 1 (bytesA (words [u64 lv,a,b])))),(6,yV (aw (hash (3:Int) (words [u64 lv,a,b]))))]] [.keep [6,0,1,2] []] [yI (avw_conv lv),yR (wordsA [u64 lv,a,b]),yI (words_ret [u64 lv,a,b] (by simp only [List.length_cons,List.length_nil];omega)),yI (valR_bytes (words [u64 lv,a,b])),yI (hash_ret ((3:Int)) (words [u64 lv,a,b]))] ?_
 refine zR ?_
 refine zV [yR (Value.int .u64 (wv (parW lv a b)))]
theorem refparent_ret (lv:Int) (a b:UInt64):Ret Tryz.prog 115 [ai lv,aw a,aw b] (aw (parW lv a b)):=by
 refine zO Tryz.func115 14 ?_
 refine zP 2 [{},yH [(1,yV (aw (u64 lv))),(4,yV (AV.arr (wordsA [u64 lv,a,b]))),(5,yV (AV.own 1 (bytesA (words [u64 lv,a,b])))),(6,yV (aw (hash (3:Int) (words [u64 lv,a,b]))))]] [.keep [6,0,1,2] []] [yI (avw_conv lv),yR (wordsA [u64 lv,a,b]),yI (refwords_ret [u64 lv,a,b] (by simp only [List.length_cons,List.length_nil];omega)),yI (valR_bytes (words [u64 lv,a,b])),yI (refhash_ret ((3:Int)) (words [u64 lv,a,b]) (by simp only [List.length_cons,List.length_nil,words_len];omega))] ?_
 refine zR ?_
 refine zV [yR (Value.int .u64 (wv (parW lv a b)))]
def nodeW (seed:UInt64):Nat->Nat->UInt64
 | 0,i=>combine i (pubEnds seed i 18)
 | lv+1,i=>parW ((lv+1:Nat):Int) (nodeW seed lv (2*i)) (nodeW seed lv (2*i+1))
theorem refnode_ret (seed:UInt64) (lv:Nat):∀(i:Nat),lv≤4->i<2^(40-lv)->Ret Tryz.prog 103 [aw seed,ai lv,ai i] (aw (nodeW seed lv i)):=by
 induction lv with
 | zero =>
  intro i _ hi
  refine zO Tryz.func103 27 ?_
  refine zQ 1 [{}] [] ?_
  refine zS ?_
  refine zQ 1 [{}] [] ?_
  refine zTb 8 ((↑(0:Nat):Int) == (0:Int)) (decide_eq_true (by omega)) ?_
  refine zP 1 [yH [(2,yV (aw (combine (↑i:Int) (pubEnds seed (↑i:Int) (18:Nat)))))]] [.keep [6,8,0,1,2] []] [yI (refleaf_ret seed ((↑i:Int)))] ?_
  refine zR ?_
  refine then_r ?_
  refine zV [yR (Value.int .u64 (wv (nodeW seed (0:Nat) i)))]
 | succ lv ih =>
  intro i hl hi
  have e:2^(40-lv)=2*2^(40-(lv+1)):=by rw [show 40-lv=40-(lv+1)+1 by omega,Nat.pow_succ,Nat.mul_comm]
  have hp:2^(40-(lv+1))≤2^40:=Nat.pow_le_pow_right (by decide) (by omega)
  obtain ⟨j,hj⟩:∃j:Nat,2*i=j:=⟨_,rfl⟩
  obtain ⟨j2,hj2⟩:∃j2:Nat,2*i+1=j2:=⟨_,rfl⟩
  have h1:=ih j (by omega) (by omega)
  have h2:=ih j2 (by omega) (by omega)
  clear ih
  generalize 2^(40-lv)=p1 at *
  generalize 2^(40-(lv+1))=p2 at *
  have ew:nodeW seed (lv+1) i=parW ((lv+1:Nat):Int) (nodeW seed lv j) (nodeW seed lv j2):=by rw [←hj,←hj2];rfl
  rw [ew]
  generalize nodeW seed lv j=n1 at *
  generalize nodeW seed lv j2=n2 at *
  have e1:IntKind.i64.wrap (((lv+1:Nat):Int)-1)=(lv:Int):=by rw [IntKind.wrap_i64];omega
  have e2:IntKind.i64.wrap (2*(i:Int))=(j:Int):=by rw [IntKind.wrap_i64];omega
  have e3:IntKind.i64.wrap ((j:Int)+1)=(j2:Int):=by rw [IntKind.wrap_i64];omega
  refine zO Tryz.func103 27 ?_
  refine zQ 1 [{}] [] ?_
  refine zS ?_
  refine zQ 1 [{}] [] ?_
  refine zFb 8 ((↑(lv+(1:Nat)):Int) == (0:Int)) (decide_eq_false (by omega)) ?_
  refine zK ?_
  refine then_n ?_
  refine zP 1 [yH [(3,yV (ai (↑lv:Int))),(5,yV (ai (↑j:Int))),(6,yV (aw n1)),(9,yV (ai (↑lv:Int))),(11,yV (ai (↑j:Int))),(12,yV (ai (↑j2:Int))),(13,yV (aw n2)),(14,yV (aw (parW (↑(lv+(1:Nat)):Int) n1 n2)))]] [.keep [6,8,0,1,2] []] [yB (ai (IntKind.i64.wrap ((↑(lv+(1:Nat)):Int)-1))=ai (↑lv:Int)) (congrArg (fun n=>AV.val (.int .i64 n)) e1),yB (ai (IntKind.i64.wrap ((2:Int)*(↑i:Int)))=ai (↑j:Int)) (congrArg (fun n=>AV.val (.int .i64 n)) e2),yB (Ret Tryz.prog (103:Nat) [aw seed,ai (↑lv:Int),ai (↑j:Int)] (aw n1)) (h1),yB (ai (IntKind.i64.wrap ((↑(lv+(1:Nat)):Int)-1))=ai (↑lv:Int)) (congrArg (fun n=>AV.val (.int .i64 n)) e1),yB (ai (IntKind.i64.wrap ((2:Int)*(↑i:Int)))=ai (↑j:Int)) (congrArg (fun n=>AV.val (.int .i64 n)) e2),yB (ai (IntKind.i64.wrap ((↑j:Int)+1))=ai (↑j2:Int)) (congrArg (fun n=>AV.val (.int .i64 n)) e3),yB (Ret Tryz.prog (103:Nat) [aw seed,ai (↑lv:Int),ai (↑j2:Int)] (aw n2)) (h2),yI (refparent_ret (↑(lv+(1:Nat)):Int) n1 n2)] ?_
  refine zR ?_
  refine zV [yR (Value.int .u64 (wv (parW (↑(lv+(1:Nat)):Int) n1 n2)))]
end Go.Proofs.YtjgbhhnghedgdaaGreatDoor
namespace Go.Proofs.YtjgbhhnghedgdaaGreatDoor
open Go.RowKit
set_option maxRecDepth 100000
set_option maxHeartbeats 4000000
set_option linter.unusedVariables false
def pkE (h:Int):Int:=if badH h then 9 else 0
def pkH (h:Int):Int:=if badH h then 0 else h
def pkR (seed:UInt64) (h:Int):UInt64:=if badH h then 0 else nodeW seed h.toNat 0
theorem refpublic_ret (seed:UInt64) (h:Int):Ret Tryz.prog 85 [aw seed,ai h] (.tup [.agg [ai (pkH h),aw (pkR seed h)],ai (pkE h)]):=by
 by_cases hb:badH h
 ·have e1:pkE h=9:=if_pos hb
  have e2:pkH h=0:=if_pos hb
  have e3:pkR seed h=0:=if_pos hb
  refine zO Tryz.func85 15 ?_
  refine zQ 1 [{}] [] ?_
  refine zS ?_
  refine zP 1 [yH [(1,yV (ao (!decide (badH h))))]] [.keep [8,5,4,0,1] [4]] [yI (refheight_ret h)] ?_
  refine zTb 8 (!!decide (badH h)) (by simp_all) ?_
  refine AWP.regsP 1 [{}] [.keep [5,8,4,0,1] [4]] (by kernel_rfl) (s':=AS.mk [(5,ai 9),(8,ao (!!decide (badH h))),(4,AV.addr 4 0),(0,aw seed),(1,ai h)] [(4,Row.mk 1 false true [ai 0,au0])]) (C:=[(2:Nat)≤(2:Nat)]) (by kernel_rfl) ⟨(by omega),trivial⟩ ?_
  refine zR ?_
  refine then_r ?_
  refine zV [yJ 0 (pkH h) (by rw [e2]),yK 0 (wv (pkR seed h)) (by rw [e3];rfl),yJ 9 (pkE h) (by rw [e1])]
 ·have e1:pkE h=0:=if_neg hb
  have e2:pkH h=h:=if_neg hb
  have e3:pkR seed h=nodeW seed h.toNat 0:=if_neg hb
  have hb2:0≤h∧h≤4:=by unfold badH at hb;omega
  rw [e1,e2,e3]
  obtain ⟨k,rfl⟩:=Int.eq_ofNat_of_zero_le hb2.1
  have hn:=refnode_ret seed k 0 (by omega) (Nat.two_pow_pos _)
  rw [Int.toNat_natCast]
  generalize nodeW seed k 0=r at *
  refine zO Tryz.func85 15 ?_
  refine zQ 1 [{}] [] ?_
  refine zS ?_
  refine zP 1 [yH [(1,yV (ao (!decide (badH (↑k:Int)))))]] [.keep [8,5,4,0,1] [4]] [yI (refheight_ret ((↑k:Int)))] ?_
  refine zFb 8 (!!decide (badH (↑k:Int))) (by simp_all) ?_
  refine zK ?_
  refine then_n ?_
  refine zP 1 [yH [(3,yV (aw r))]] [.keep [5,8,4,0,1] [4]] [yB (Ret Tryz.prog (103:Nat) [aw seed,ai (↑k:Int),ai 0] (aw r)) (hn),yL 2 2] ?_
  refine zR ?_
  refine zV [yR (Value.int .i64 (↑k:Int)),yR (Value.int .u64 (wv r)),yR (Value.int .i64 0)]
theorem outside_ret (leaf:Int) (h:Nat) (hh:h≤4):Ret Tryz.prog 95 [ai leaf,ai h] (ao (decide (leaf<0∨((2^h:Nat):Int)≤leaf))):=by
 rcases (show h=0∨h=1∨h=2∨h=3∨h=4 by omega) with rfl|rfl|rfl|rfl|rfl
 ·by_cases h1:leaf<0
  ·refine zO Tryz.func95 13 ?_
   refine zP 2 [{},{}] [.keep [4,0,1] []] [yT (leaf<0),yT (leaf<0),yT (leaf<0),yT (leaf<0),yT (leaf<0)] ?_
   refine zR ?_
   refine zV [yB (Value.bool true=Value.bool (decide (leaf<0∨(↑((2:Nat)^(0:Nat)):Int)≤leaf))) (by simp [h1])]
  ·refine zO Tryz.func95 13 ?_
   refine zP 2 [{},yH [(3,{g:=false}),(4,{g:=false}),(5,{g:=false}),(6,{g:=false}),(7,{b:=false})]] [.keep [4,0,1] []] [yF (leaf<0),yF (leaf<0),yF (leaf<0),yO ((0:Int)≤(↑(0:Nat):Int)),yF (leaf<0),yF (leaf<0)] ?_
   refine zR ?_
   refine zV [yB (Value.bool (decide (leaf≥IntKind.i64.wrap ((1:Int)*(2:Int)^min (↑(0:Nat):Int).toNat IntKind.i64.bits)))=Value.bool (decide (leaf<0∨(↑((2:Nat)^(0:Nat)):Int)≤leaf))) (by simp [h1];rfl)]
 ·by_cases h1:leaf<0
  ·refine zO Tryz.func95 13 ?_
   refine zP 2 [{},{}] [.keep [4,0,1] []] [yT (leaf<0),yT (leaf<0),yT (leaf<0),yT (leaf<0),yT (leaf<0)] ?_
   refine zR ?_
   refine zV [yB (Value.bool true=Value.bool (decide (leaf<0∨(↑((2:Nat)^(1:Nat)):Int)≤leaf))) (by simp [h1])]
  ·refine zO Tryz.func95 13 ?_
   refine zP 2 [{},yH [(3,{g:=false}),(4,{g:=false}),(5,{g:=false}),(6,{g:=false}),(7,{b:=false})]] [.keep [4,0,1] []] [yF (leaf<0),yF (leaf<0),yF (leaf<0),yO ((0:Int)≤(↑(1:Nat):Int)),yF (leaf<0),yF (leaf<0)] ?_
   refine zR ?_
   refine zV [yB (Value.bool (decide (leaf≥IntKind.i64.wrap ((1:Int)*(2:Int)^min (↑(1:Nat):Int).toNat IntKind.i64.bits)))=Value.bool (decide (leaf<0∨(↑((2:Nat)^(1:Nat)):Int)≤leaf))) (by simp [h1];rfl)]
 ·by_cases h1:leaf<0
  ·refine zO Tryz.func95 13 ?_
   refine zP 2 [{},{}] [.keep [4,0,1] []] [yT (leaf<0),yT (leaf<0),yT (leaf<0),yT (leaf<0),yT (leaf<0)] ?_
   refine zR ?_
   refine zV [yB (Value.bool true=Value.bool (decide (leaf<0∨(↑((2:Nat)^(2:Nat)):Int)≤leaf))) (by simp [h1])]
  ·refine zO Tryz.func95 13 ?_
   refine zP 2 [{},yH [(3,{g:=false}),(4,{g:=false}),(5,{g:=false}),(6,{g:=false}),(7,{b:=false})]] [.keep [4,0,1] []] [yF (leaf<0),yF (leaf<0),yF (leaf<0),yO ((0:Int)≤(↑(2:Nat):Int)),yF (leaf<0),yF (leaf<0)] ?_
   refine zR ?_
   refine zV [yB (Value.bool (decide (leaf≥IntKind.i64.wrap ((1:Int)*(2:Int)^min (↑(2:Nat):Int).toNat IntKind.i64.bits)))=Value.bool (decide (leaf<0∨(↑((2:Nat)^(2:Nat)):Int)≤leaf))) (by simp [h1];rfl)]
 ·by_cases h1:leaf<0
  ·refine zO Tryz.func95 13 ?_
   refine zP 2 [{},{}] [.keep [4,0,1] []] [yT (leaf<0),yT (leaf<0),yT (leaf<0),yT (leaf<0),yT (leaf<0)] ?_
   refine zR ?_
   refine zV [yB (Value.bool true=Value.bool (decide (leaf<0∨(↑((2:Nat)^(3:Nat)):Int)≤leaf))) (by simp [h1])]
  ·refine zO Tryz.func95 13 ?_
   refine zP 2 [{},yH [(3,{g:=false}),(4,{g:=false}),(5,{g:=false}),(6,{g:=false}),(7,{b:=false})]] [.keep [4,0,1] []] [yF (leaf<0),yF (leaf<0),yF (leaf<0),yO ((0:Int)≤(↑(3:Nat):Int)),yF (leaf<0),yF (leaf<0)] ?_
   refine zR ?_
   refine zV [yB (Value.bool (decide (leaf≥IntKind.i64.wrap ((1:Int)*(2:Int)^min (↑(3:Nat):Int).toNat IntKind.i64.bits)))=Value.bool (decide (leaf<0∨(↑((2:Nat)^(3:Nat)):Int)≤leaf))) (by simp [h1];rfl)]
 ·by_cases h1:leaf<0
  ·refine zO Tryz.func95 13 ?_
   refine zP 2 [{},{}] [.keep [4,0,1] []] [yT (leaf<0),yT (leaf<0),yT (leaf<0),yT (leaf<0),yT (leaf<0)] ?_
   refine zR ?_
   refine zV [yB (Value.bool true=Value.bool (decide (leaf<0∨(↑((2:Nat)^(4:Nat)):Int)≤leaf))) (by simp [h1])]
  ·refine zO Tryz.func95 13 ?_
   refine zP 2 [{},yH [(3,{g:=false}),(4,{g:=false}),(5,{g:=false}),(6,{g:=false}),(7,{b:=false})]] [.keep [4,0,1] []] [yF (leaf<0),yF (leaf<0),yF (leaf<0),yO ((0:Int)≤(↑(4:Nat):Int)),yF (leaf<0),yF (leaf<0)] ?_
   refine zR ?_
   refine zV [yB (Value.bool (decide (leaf≥IntKind.i64.wrap ((1:Int)*(2:Int)^min (↑(4:Nat):Int).toNat IntKind.i64.bits)))=Value.bool (decide (leaf<0∨(↑((2:Nat)^(4:Nat)):Int)≤leaf))) (by simp [h1];rfl)]
end Go.Proofs.YtjgbhhnghedgdaaGreatDoor
namespace Go.Proofs.YtjgbhhnghedgdaaGreatDoor
open Go.RowKit
set_option maxRecDepth 100000
set_option maxHeartbeats 4000000
set_option linter.unusedVariables false
theorem key_ret (seed:UInt64) (h:Int):Ret Tryz.prog 41 [aw seed,ai h] (.agg [ai (pkH h),aw (pkR seed h)]):=by
 refine zO Tryz.func41 14 ?_
 refine zP 3 [{},yH [(2,yV (AV.tup [AV.agg [ai (pkH h),aw (pkR seed h)],ai (pkE h)]))],{}] [.keep [5,4,0,1] [4,5]] [yI (refpublic_ret seed h),yL 2 2,yL 2 2] ?_
 refine zR ?_
 refine zV [yR (Value.int .i64 (pkH h)),yR (Value.int .u64 (wv (pkR seed h)))]
def mbr (k:Nat):Mem:=⟨[109,u8 (48+(k:Int))],4,pkR (300+u64 k) 4,0⟩
theorem cat_m (c:UInt8):({data:= #[109]}:ByteArray)++ {data:= #[c]}=⟨[109,c].toArray⟩:=by
 apply ByteArray.ext
 simp [ByteArray.data_append]
theorem member_ret (i:Int):Ret Tryz.prog 18 [ai i] (.agg (memC (mbr (modI i 10)))):=by
 have hm:=modI_lt i (n:=10) (by omega)
 have p2:pkH 4=4:=by decide
 refine zO Tryz.func18 16 ?_
 refine zP 2 [{},{hs:=[(1,yV (ai (↑(modI i (10:Int)):Int))),(2,yV (ai ((48:Int)+(↑(modI i (10:Int)):Int)))),(3,yV (ab (u8 ((48:Int)+(↑(modI i (10:Int)):Int))))),(4,yV (AV.arr (bytesA [u8 ((48:Int)+(↑(modI i (10:Int)):Int))]))),(5,yV (AV.val (Value.string (ByteArray.mk #[u8 ((48:Int)+(↑(modI i (10:Int)):Int))])))),(8,yV (ai (↑(modI i (10:Int)):Int))),(9,yV (aw (u64 (↑(modI i (10:Int)):Int)))),(10,yV (aw (300+u64 (↑(modI i (10:Int)):Int)))),(11,yV (AV.agg [ai (pkH (4:Int)),aw (pkR (300+u64 (↑(modI i (10:Int)):Int)) (4:Int))]))],T:=12}] [.keep [2,0] [2]] [yI (mod_ret i ((10:Int)) (by omega) (by omega)),yN ((48:Int)+(↑(modI i (10:Int)):Int)),yI (avb_conv ((48:Int)+(↑(modI i (10:Int)):Int))),yR [ab (u8 ((48:Int)+(↑(modI i (10:Int)):Int)))],yR (bytesA [u8 ((48:Int)+(↑(modI i (10:Int)):Int))]),yI (mod_ret i ((10:Int)) (by omega) (by omega)),yI (avw_conv (↑(modI i (10:Int)):Int)),yI (avw_add 300 (u64 (↑(modI i (10:Int)):Int))),yI (key_ret (300+u64 (↑(modI i (10:Int)):Int)) ((4:Int))),yL 4 4] ?_
 refine zR ?_
 refine zV [yB (Value.string (ByteArray.mk #[109]++ByteArray.mk #[u8 ((48:Int)+(↑(modI i (10:Int)):Int))])=Value.string (ByteArray.mk (mbr (modI i (10:Int))).name.toArray)) (by rw [cat_m];rfl),yJ (pkH (4:Int)) ((mbr (modI i (10:Int))).h) (by rw [p2];rfl),yR (Value.int .u64 (wv (mbr (modI i (10:Int))).r)),yR (Value.int .u64 0)]
theorem mod10 {i:Nat} (h:i<10):modI (i:Int) 10=i:=by
 unfold modI
 rw [Int.emod_eq_of_lt (by omega) (by omega),Int.emod_eq_of_lt (by omega) (by omega),Int.toNat_natCast]
theorem memberN_ret (i:Nat) (h:i<10):Ret Tryz.prog 18 [ai i] (.agg (memC (mbr i))):=by
 have:=member_ret i
 rwa [mod10 h] at this
def grpO (g:Grp):List AV:=[ai g.epoch,aw g.head,ai g.thr,.own 4 (encA memC g.mems),.own 7 (encA depC g.deps)]
end Go.Proofs.YtjgbhhnghedgdaaGreatDoor
