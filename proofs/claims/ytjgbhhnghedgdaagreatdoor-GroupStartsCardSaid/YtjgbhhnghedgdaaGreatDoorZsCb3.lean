import Derived.Test.YtjgbhhnghedgdaaGreatDoorZsV8
import Derived.Test.YtjgbhhnghedgdaaGreatDoorZsCb2
set_option linter.all false
namespace Go.Proofs.YtjgbhhnghedgdaaGreatDoor
open Go.RowKit
set_option maxRecDepth 100000
set_option maxHeartbeats 4000000
set_option linter.unusedVariables false
instance:Inhabited Itm:=⟨⟨0,0,[]⟩⟩
def vF (l:List Itm):Nat->List Int
 | 0=>[]
 | n+1=>stF (vF l n) (l.getD n default)
def vE (l:List Itm) (i:Nat):Int:=itE (vF l i) i (l.getD i default)
def vldE (l:List Itm):Int:=if ff (vE l) l.length≠0 then ff (vE l) l.length else if 0<l.length∧(vF l l.length).length=0 then 0 else 1
theorem stF_len (fr:List Int) (x:Itm):(stF fr x).length≤fr.length+1:=by
 unfold stF popF
 have h:=pshF_len x (decF fr)
 rw [decF_len] at h
 rw [List.length_take];omega
theorem vF_len (l:List Itm):∀n,(vF l n).length≤n
 | 0=>Nat.le_refl _
 | n+1=>by
  have:=vF_len l n
  have:=stF_len (vF l n) (l.getD n default)
  show (stF _ _).length≤_
  omega
theorem vF_bd {l:List Itm}:∀ {n:Nat},(∀j,j<n->(l.getD j default).kind=5->wv (l.getD j default).num≤512)-> ∀k∈vF l n,-(n:Int)≤k∧k≤512
 | 0,_,k,hk=>by cases hk
 | n+1,h,k,hk=>by
  have ih:=vF_bd (l:=l) (n:=n) (fun j hj=>h j (by omega))
  have h5:=h n (by omega)
  have hk:k∈popF (pshF (l.getD n default) (decF (vF l n))):=hk
  have hk:=List.mem_of_mem_take hk
  have hd:∀k∈decF (vF l n),-((n+1:Nat):Int)≤k∧k≤512:=by
   intro k hk
   unfold decF at hk
   split at hk
   ·have:=ih k hk;omega
   ·rename_i h0
    have hm:=ih ((vF l n).getD ((vF l n).length-1) 0) (by rw [List.getD_eq_getElem?_getD,List.getElem?_eq_getElem (by omega)];exact List.getElem_mem (by omega))
    rcases List.mem_or_eq_of_mem_set hk with q|q
    ·have:=ih k q;omega
    ·omega
  unfold pshF at hk
  split at hk
  ·rename_i hx
   rcases List.mem_append.1 hk with q|q
   ·exact hd k q
   ·have e:=List.mem_singleton.1 q
    have:=h5 hx.1
    omega
  ·exact hd k hk
theorem itE_num {fr:List Int} {c:Nat} {x:Itm} (h:itE fr c x=0) (h5:x.kind=5):wv x.num≤512:=by
 apply Classical.byContradiction
 intro q
 unfold itE at h
 split at h
 ·omega
 ·split at h
  ·rename_i q2;exact q2 h
  ·split at h
   ·omega
   ·split at h
    ·omega
    ·rw [if_pos ⟨h5,by omega⟩] at h;omega
theorem ff_all {f:Nat->Int}:∀ {n:Nat},ff f n=0-> ∀j,j<n->f j=0
 | 0,_,j,hj=>by omega
 | n+1,h,j,hj=>by
  have h1:ff f n=0:=by
   apply Classical.byContradiction
   intro q
   have:ff f (n+1)=ff f n:=by show (if _ then _ else _)=_;rw [if_pos q]
   omega
  have h2:f n=0:=by
   have:ff f (n+1)=f n:=by show (if _ then _ else _)=_;rw [if_neg (by omega)]
   omega
  by_cases e:j=n
  ·subst e;exact h2
  ·exact ff_all h1 j (by omega)
theorem validate_ret (l:List Itm) (hl:l.length≤500) (hk:∀x∈l,simpleK x.kind) (hd:∀x∈l,x.dat.length≤1000000):Ret Tryz.prog 127 [.sl 3 (encA itmC l)] (ai (vldE l)):=by
 have hll:(encA itmC l).length=l.length*3:=encA_len (e:=3) (fun _=>rfl) ..
 refine zO Tryz.func127 22 ?_
 refine zQ 2 [{},{}] [] ?_
 refine AWP.weak (Weaks.cnil 3 0 99 3 (r:=⟨1,false,true,[.nil,ai 0]⟩) (by kernel_rfl) rfl rfl (by kernel_rfl)) ?_
 refine zS ?_
 refine zQ 1 [yH [(1,{k:=l.length})]] [yB ((encA itmC l).length=l.length*(3:Nat)) (by assumption)] ?_
 refine zB 0 ?_
 refine zL (fun (i:Nat)=>(⟨[(8,ai (↑l.length:Int)),(7,AV.sl 3 (encA itmC l)),(3,AV.addr 3 0),(0,AV.sl 3 (encA itmC l)),(9,ai i)],[(3,⟨1,false,true,[.ref 99,ai i]⟩),(99,⟨3,true,false,encA frmC (vF l i)⟩)]⟩:AS)) (fun i=>(i≤l.length∧ff (vE l) i=0)) (fun i=>(l.length-i)) (0) ?_ (zW [.keep [8,7,3,0,9] [3,99]]) ?_
 ·exact ⟨by omega,rfl⟩
 rintro i ⟨hi,h0⟩
 have hfl:=vF_len l i
 have hall:=ff_all h0
 have hbd:=vF_bd (l:=l) (n:=i) (fun j hj h5=>itE_num (hall j hj) h5)
 have hfr:∀k∈vF l i,-1000≤k∧k≤1000:=fun k hm=>by have:=hbd k hm;omega
 have hfl2:(vF l i).length≤1000:=by omega
 clear hall hbd hfl
 refine zQ 1 [{}] [] ?_
 refine zS ?_
 refine zD 10 ((↑i:Int)<(↑l.length:Int)) (fun h=>?_) (fun h=>?_)
 ·have hi2:i<l.length:=by omega
  have hm:l.getD i default∈l:=by rw [List.getD_eq_getElem?_getD,List.getElem?_eq_getElem hi2];exact List.getElem_mem hi2
  have hkx:=hk _ hm
  have hdx:=hd _ hm
  by_cases e:itE (vF l i) i (l.getD i default)=0
  ·have hst:=item_retm (vF l i) i (l.getD i default) e hkx hfl2 hfr (by omega) hdx
   have k2:ff (vE l) (i+1)=0:=by show (if _ then _ else _)=_;rw [if_neg (by omega)];exact e
   refine zK ?_
   refine then_n ?_
   refine zS ?_
   refine zB 1 ?_
   refine zP 3 [yH [(0,{k:=i}),(1,yV (AV.agg [ai ((l.getD i default).kind),aw ((l.getD i default).num),AV.val (Value.string (ByteArray.mk (l.getD i default).dat.toArray))]))],yH [(1,{av:=some (ai 0),ln:=[(3,1000000000000),(99,5)],ho:=[(1000000000000,Row.mk 1 false true [AV.ref 5,ai (↑(i+(1:Nat)):Int)]),(5,Row.mk 3 true false (encA frmC (stF (vF l i) (l.getD i default))))]})],{}] [.keep [16,6,5,10,8,7,3,0,9] [3,99,5]] [yR (↑i:Int),yO (i*(3:Nat)<(encA itmC l).length),yB (List.take 3 (List.drop (i*(3:Nat)) (encA itmC l))= [ai ((l.getD i default).kind),aw ((l.getD i default).num),AV.val (Value.string (ByteArray.mk (l.getD i default).dat.toArray))]) (encA_sub (f:=itmC) (e:=3) (k:=i) (j:=0) (fun _=>rfl) (by omega) (by decide) rfl),yR (3:Nat),yL 3 3,yB (RetM Tryz.prog (162:Nat) [AV.addr 1000000000000 0,AV.agg [ai ((l.getD i default).kind),aw ((l.getD i default).num),AV.val (Value.string (ByteArray.mk (l.getD i default).dat.toArray))]] [(1000000000000,Row.mk 1 false true [AV.ref 5,ai (↑i:Int)]),(5,Row.mk 3 true false (encA frmC (vF l i)))] (ai 0) [(1000000000000,Row.mk 1 false true [AV.ref 5,ai (↑(i+(1:Nat)):Int)]),(5,Row.mk 3 true false (encA frmC (stF (vF l i) (l.getD i default))))]) (item_retm (vF l i) (i) (l.getD i default) (by assumption) (by assumption) (by assumption) (by assumption) (by omega) (by assumption)),yB ([AV.ref 99,ai (↑i:Int)].length= [AV.ref 5,ai (↑(i+(1:Nat)):Int)].length∧(0:Nat)< [AV.ref 5,ai (↑(i+(1:Nat)):Int)].length) ⟨rfl,Nat.succ_pos _⟩] ?_
   refine zFb 16 ((0:Int) != (0:Int)) rfl ?_
   refine zK ?_
   refine inb_n ?_
   refine then_n ?_
   refine zX (yH [(0,yV (ai ((↑i:Int)+1)))]) [yN ((↑i:Int)+1)] ?_
   refine round_n (i+1) ⟨by omega,k2⟩ (by omega) (zW [.keep [8,7,3,0,9] [3,99]])
  ·have hst:=itemE_retm (vF l i) i (l.getD i default) e hkx hfl2 (by omega) hdx
   have k2:ff (vE l) (i+1)=vE l i:=by show (if _ then _ else _)=_;rw [if_neg (by omega)]
   have k3:=ff_stay (E:=vE l) e k2 l.length (by omega)
   have k4:vldE l=itE (vF l i) i (l.getD i default):=by unfold vldE;rw [if_pos (by rw [k3];exact e),k3]
   refine zK ?_
   refine then_n ?_
   refine zS ?_
   refine zB 1 ?_
   refine zP 3 [yH [(0,{k:=i}),(1,yV (AV.agg [ai ((l.getD i default).kind),aw ((l.getD i default).num),AV.val (Value.string (ByteArray.mk (l.getD i default).dat.toArray))]))],yH [(1,{av:=some (ai (itE (vF l i) i (l.getD i default))),ln:=[(3,1000000000000),(99,5)],ho:=[(1000000000000,Row.mk 1 false true [AV.ref 5,ai (↑i:Int)]),(5,Row.mk 3 true false (encA frmC (vF l i)))]})],{}] [.keep [16,6,5,10,8,7,3,0,9] [3,99,5]] [yR (↑i:Int),yO (i*(3:Nat)<(encA itmC l).length),yB (List.take 3 (List.drop (i*(3:Nat)) (encA itmC l))= [ai ((l.getD i default).kind),aw ((l.getD i default).num),AV.val (Value.string (ByteArray.mk (l.getD i default).dat.toArray))]) (encA_sub (f:=itmC) (e:=3) (k:=i) (j:=0) (fun _=>rfl) (by omega) (by decide) rfl),yB ([ai ((l.getD i default).kind),aw ((l.getD i default).num),AV.val (Value.string (ByteArray.mk (l.getD i default).dat.toArray))].length=(3:Nat)) (by simp [e]),yL 3 3,yB (RetM Tryz.prog (162:Nat) [AV.addr 1000000000000 0,AV.agg [ai ((l.getD i default).kind),aw ((l.getD i default).num),AV.val (Value.string (ByteArray.mk (l.getD i default).dat.toArray))]] [(1000000000000,Row.mk 1 false true [AV.ref 5,ai (↑i:Int)]),(5,Row.mk 3 true false (encA frmC (vF l i)))] (ai (itE (vF l i) i (l.getD i default))) [(1000000000000,Row.mk 1 false true [AV.ref 5,ai (↑i:Int)]),(5,Row.mk 3 true false (encA frmC (vF l i)))]) (itemE_retm (vF l i) (i) (l.getD i default) (by assumption) (by assumption) (by assumption) (by omega) (by assumption)),yB ([AV.ref 99,ai (↑i:Int)].length= [AV.ref 5,ai (↑i:Int)].length∧(0:Nat)< [AV.ref 5,ai (↑i:Int)].length) (by simp [e])] ?_
   refine zTb 16 (itE (vF l i) i (l.getD i default) != (0:Int)) (by simp_all) ?_
   refine zP 1 [{}] [.keep [2,16,6,5,10,8,7,3,0,9] [3,99,5]] [] ?_
   refine zR ?_
   refine inb_r ?_
   refine then_r ?_
   refine round_r ?_
   refine inb_r ?_
   refine then_r ?_
   refine zV [yJ (itE (vF l i) i (l.getD i default)) (vldE l) (by rw [k4])]
 ·have e:i=l.length:=by omega
  subst e
  by_cases hdn:0<l.length∧(vF l l.length).length=0
  ·have k4:vldE l=0:=by unfold vldE;rw [if_neg (by omega),if_pos hdn]
   refine zE 0 ?_
   refine then_e ?_
   refine round_e ?_
   refine inb_e ?_
   refine then_n ?_
   refine zS ?_
   refine zP 1 [yH [(1,{av:=some (ao (decide ((0:Nat)<l.length∧(vF l l.length).length=(0:Nat)))),ln:=[(3,1000000000000),(99,5)],ho:=[(1000000000000,Row.mk 1 false true [AV.ref 5,ai (↑l.length:Int)]),(5,Row.mk 3 true false (encA frmC (vF l l.length)))]}),(2,yV (ao false))]] [.keep [21,10,8,7,3,0,9] [3,99]] [yB (RetM Tryz.prog (163:Nat) [AV.addr 1000000000000 0] [(1000000000000,Row.mk 1 false true [AV.ref 5,ai (↑l.length:Int)]),(5,Row.mk 3 true false (encA frmC (vF l l.length)))] (ao (decide ((0:Nat)<l.length∧(vF l l.length).length=(0:Nat)))) [(1000000000000,Row.mk 1 false true [AV.ref 5,ai (↑l.length:Int)]),(5,Row.mk 3 true false (encA frmC (vF l l.length)))]) (done_retm (vF l l.length) (l.length) (by omega)),yB ([AV.ref 99,ai (↑l.length:Int)].length= [AV.ref 5,ai (↑l.length:Int)].length∧(0:Nat)< [AV.ref 5,ai (↑l.length:Int)].length) ⟨rfl,Nat.succ_pos _⟩,yB (ao (!decide ((0:Nat)<l.length∧(vF l l.length).length=(0:Nat)))=ao false) (by rw [decide_eq_true hdn];rfl)] ?_
   refine zF 21 ?_
   refine zK ?_
   refine then_n ?_
   refine zQ 1 [{}] [] ?_
   refine zR ?_
   refine zV [yJ 0 (vldE l) (by rw [k4])]
  ·have k4:vldE l=1:=by unfold vldE;rw [if_neg (by omega),if_neg hdn]
   refine zE 0 ?_
   refine then_e ?_
   refine round_e ?_
   refine inb_e ?_
   refine then_n ?_
   refine zS ?_
   refine zP 1 [yH [(1,{av:=some (ao (decide ((0:Nat)<l.length∧(vF l l.length).length=(0:Nat)))),ln:=[(3,1000000000000),(99,5)],ho:=[(1000000000000,Row.mk 1 false true [AV.ref 5,ai (↑l.length:Int)]),(5,Row.mk 3 true false (encA frmC (vF l l.length)))]}),(2,yV (ao true))]] [.keep [21,10,8,7,3,0,9] [3,99]] [yB (RetM Tryz.prog (163:Nat) [AV.addr 1000000000000 0] [(1000000000000,Row.mk 1 false true [AV.ref 5,ai (↑l.length:Int)]),(5,Row.mk 3 true false (encA frmC (vF l l.length)))] (ao (decide ((0:Nat)<l.length∧(vF l l.length).length=(0:Nat)))) [(1000000000000,Row.mk 1 false true [AV.ref 5,ai (↑l.length:Int)]),(5,Row.mk 3 true false (encA frmC (vF l l.length)))]) (done_retm (vF l l.length) (l.length) (by omega)),yB ([AV.ref 99,ai (↑l.length:Int)].length= [AV.ref 5,ai (↑l.length:Int)].length∧(0:Nat)< [AV.ref 5,ai (↑l.length:Int)].length) ⟨rfl,Nat.succ_pos _⟩,yB (ao (!decide ((0:Nat)<l.length∧(vF l l.length).length=(0:Nat)))=ao true) (by rw [decide_eq_false hdn];rfl)] ?_
   refine zT 21 ?_
   refine zQ 1 [{}] [] ?_
   refine zR ?_
   refine then_r ?_
   refine zV [yJ 1 (vldE l) (by rw [k4])]
end Go.Proofs.YtjgbhhnghedgdaaGreatDoor
namespace Go.Proofs.YtjgbhhnghedgdaaGreatDoor
open Go.RowKit
set_option maxRecDepth 100000
set_option maxHeartbeats 4000000
set_option linter.unusedVariables false
def tlB (n:UInt64) (s q:Nat):List UInt8:=(List.range q).map fun j=>(n>>>UInt64.ofNat (8*(s-1-j))).toUInt8
def headB (m:UInt8) (n:UInt64):List UInt8 :=
 if wv n<24 then [m<<<5+n.toUInt8] else if wv n<256 then (m<<<5+24)::tlB n 1 1 else if wv n<65536 then (m<<<5+25)::tlB n 2 2 else if wv n<4294967296 then (m<<<5+26)::tlB n 4 4 else (m<<<5+27)::tlB n 8 8
theorem tlB_len (n:UInt64) (s q:Nat):(tlB n s q).length=q:=by simp [tlB]
theorem tlB_snoc (n:UInt64) (s q:Nat):tlB n s (q+1)=tlB n s q++ [(n>>>UInt64.ofNat (8*(s-1-q))).toUInt8]:=by
 unfold tlB
 rw [List.range_succ,List.map_append];rfl
def rowQ (o:List UInt8):List (Nat×Row):=[(5,⟨1,true,false,bytesA o⟩)]
theorem head_retm (o:List UInt8) (m:UInt8) (n:UInt64) (ho:o.length≤1000000):RetM Tryz.prog 164 [.ref 5,ab m,aw n] (rowQ o) (.own 1 (bytesA (o++headB m n))) (rowQ []):=by
 have hol:(bytesA o).length=o.length:=bytesA_len o
 have hn0:=wv_nn n
 refine RetM.of_fn Tryz.func164 (by kernel_rfl) 58 (by kernel_rfl) (by kernel_rfl) ?_
 refine zP 3 [{},yH [(1,yV (ab (m<<<(5:UInt8))))],{}] [.keep [8,7,6,0,1,2] [5]] [yI (avb_shl m ((5:Int)) (by omega) (by omega)),yO ((0:Int)≤5)] ?_
 by_cases h1:wv n<24
 ·have e:headB m n= [m<<<5+n.toUInt8]:=if_pos h1
  refine zS ?_
  refine zB 0 ?_
  refine zP 1 [{}] [.keep [14,8,7,6,0,1,2] [5]] [] ?_
  refine zTd 14 (wv n<24) ?_
  refine zP 1 [yH [(3,yV (ab n.toUInt8)),(4,yV (ab (m<<<(5:UInt8)+n.toUInt8))),(5,yV (AV.arr (bytesA [m<<<(5:UInt8)+n.toUInt8]))),(6,yV (AV.arr (bytesA (o++ [m<<<(5:UInt8)+n.toUInt8]))))]] [.keep [6,14,8,7,1,2] [23]] [yI (avb_wv n),yI (avb_add (m<<<(5:UInt8)) n.toUInt8),yR [ab (m<<<(5:UInt8)+n.toUInt8)],yB (bytesA o++bytesA [m<<<(5:UInt8)+n.toUInt8]=bytesA (o++ [m<<<(5:UInt8)+n.toUInt8])) (bytesA_app _ _),yB (((bytesA o).length+(bytesA [m<<<(5:UInt8)+n.toUInt8]).length)*(1:Nat)≤(140737488355328:Nat)) (by simp only [bytesA_len,List.length_cons,List.length_nil];omega)] ?_
  refine AWP.weak (Weaks.add 5 1 (by kernel_rfl)) ?_
  refine zR ?_
  refine inb_r ?_
  refine then_r ?_
  refine DoneM.ret_ [] (s2:=AS.mk [(6,AV.ref 23),(14,ao (decide (wv n<24))),(8,ai 8),(7,ab (m<<<(5:UInt8))),(1,ab m),(2,aw n)] [(5,Row.mk 1 true false []),(23,Row.mk 1 true false (bytesA (o++ [m<<<(5:UInt8)+n.toUInt8])))]) (by kernel_rfl) (C:=[bytesA (o++ [m<<<(5:UInt8)+n.toUInt8])=bytesA (o++headB m n),[]=bytesA []]) (by kernel_rfl) ⟨(by rw [e]),rfl,trivial⟩
 refine AWP.joinX (fun (t:UInt8×Nat)=>(⟨[(0,AV.ref 5),(1,ab m),(2,aw n),(7,ab t.1),(8,ai t.2)],[(5,⟨1,true,false,bytesA o⟩)]⟩:AS)) (fun t=>(headB m n=t.1::tlB n t.2 t.2∧1≤t.2∧t.2≤8)) (by kernel_rfl) ?_ ?_
 ·by_cases h2:wv n<256
  ·have e:headB m n=(m<<<5+24)::tlB n 1 1:=by unfold headB;rw [if_neg h1,if_pos h2]
   refine zB 0 ?_
   refine zP 1 [{}] [.keep [14,8,7,6,0,1,2] [5]] [] ?_
   refine zFd 14 (wv n<24) ?_
   refine zP 1 [{}] [.keep [24,14,8,7,6,0,1,2] [5]] [] ?_
   refine zTd 24 (wv n<256) ?_
   refine zX (yH [(1,yV (ab (m<<<(5:UInt8)+24)))]) [yI (avb_add (m<<<(5:UInt8)) 24)] ?_
   refine inb_n ?_
   refine then_n ?_
   refine ⟨(m<<<5+24,1),(by refine ⟨?_,?_⟩<;>omega),Weaks.of [.keep [0,1,2,7,8] [5]] (s1:=AS.mk [(0,AV.ref 5),(1,ab m),(2,aw n),(7,ab (m<<<(5:UInt8)+24)),(8,ai 1)] [(5,Row.mk 1 true false (bytesA o))]) (by kernel_rfl) rfl⟩
  by_cases h3:wv n<65536
  ·have e:headB m n=(m<<<5+25)::tlB n 2 2:=by unfold headB;rw [if_neg h1,if_neg h2,if_pos h3]
   refine zB 0 ?_
   refine zP 1 [{}] [.keep [14,8,7,6,0,1,2] [5]] [] ?_
   refine zFd 14 (wv n<24) ?_
   refine zP 1 [{}] [.keep [24,14,8,7,6,0,1,2] [5]] [] ?_
   refine zFd 24 (wv n<256) ?_
   refine zP 1 [{}] [.keep [29,24,14,8,7,6,0,1,2] [5]] [] ?_
   refine zTd 29 (wv n<65536) ?_
   refine zX (yH [(1,yV (ab (m<<<(5:UInt8)+25)))]) [yI (avb_add (m<<<(5:UInt8)) 25)] ?_
   refine inb_n ?_
   refine then_n ?_
   refine ⟨(m<<<5+25,2),(by refine ⟨?_,?_⟩<;>omega),Weaks.of [.keep [0,1,2,7,8] [5]] (s1:=AS.mk [(0,AV.ref 5),(1,ab m),(2,aw n),(7,ab (m<<<(5:UInt8)+25)),(8,ai 2)] [(5,Row.mk 1 true false (bytesA o))]) (by kernel_rfl) rfl⟩
  by_cases h4:wv n<4294967296
  ·have e:headB m n=(m<<<5+26)::tlB n 4 4:=by unfold headB;rw [if_neg h1,if_neg h2,if_neg h3,if_pos h4]
   refine zB 0 ?_
   refine zP 1 [{}] [.keep [14,8,7,6,0,1,2] [5]] [] ?_
   refine zFd 14 (wv n<24) ?_
   refine zP 1 [{}] [.keep [24,14,8,7,6,0,1,2] [5]] [] ?_
   refine zFd 24 (wv n<256) ?_
   refine zP 1 [{}] [.keep [29,24,14,8,7,6,0,1,2] [5]] [] ?_
   refine zFd 29 (wv n<65536) ?_
   refine zP 1 [{}] [.keep [34,29,24,14,8,7,6,0,1,2] [5]] [] ?_
   refine zTd 34 (wv n<4294967296) ?_
   refine zX (yH [(1,yV (ab (m<<<(5:UInt8)+26)))]) [yI (avb_add (m<<<(5:UInt8)) 26)] ?_
   refine inb_n ?_
   refine then_n ?_
   refine ⟨(m<<<5+26,4),(by refine ⟨?_,?_⟩<;>omega),Weaks.of [.keep [0,1,2,7,8] [5]] (s1:=AS.mk [(0,AV.ref 5),(1,ab m),(2,aw n),(7,ab (m<<<(5:UInt8)+26)),(8,ai 4)] [(5,Row.mk 1 true false (bytesA o))]) (by kernel_rfl) rfl⟩
  ·have e:headB m n=(m<<<5+27)::tlB n 8 8:=by unfold headB;rw [if_neg h1,if_neg h2,if_neg h3,if_neg h4]
   refine zB 0 ?_
   refine zP 1 [{}] [.keep [14,8,7,6,0,1,2] [5]] [] ?_
   refine zFd 14 (wv n<24) ?_
   refine zP 1 [{}] [.keep [24,14,8,7,6,0,1,2] [5]] [] ?_
   refine zFd 24 (wv n<256) ?_
   refine zP 1 [{}] [.keep [29,24,14,8,7,6,0,1,2] [5]] [] ?_
   refine zFd 29 (wv n<65536) ?_
   refine zP 1 [{}] [.keep [34,29,24,14,8,7,6,0,1,2] [5]] [] ?_
   refine zFd 34 (wv n<4294967296) ?_
   refine zX (yH [(1,yV (ab (m<<<(5:UInt8)+27)))]) [yI (avb_add (m<<<(5:UInt8)) 27)] ?_
   refine inb_n ?_
   refine then_n ?_
   refine ⟨(m<<<5+27,8),(by refine ⟨?_,?_⟩<;>omega),Weaks.of [.keep [0,1,2,7,8] [5]] (s1:=AS.mk [(0,AV.ref 5),(1,ab m),(2,aw n),(7,ab (m<<<(5:UInt8)+27)),(8,ai 8)] [(5,Row.mk 1 true false (bytesA o))]) (by kernel_rfl) rfl⟩
 rintro ⟨f,s⟩ ⟨e,s1,s8⟩
 simp only at e s1 s8
 have hl2:=tlB_len n s
 refine zP 1 [yH [(2,yV (AV.arr (bytesA [f]))),(3,yV (AV.ref 42))]] [.keep [0,1,2,7,8] [42]] [yR [ab f],yB (((bytesA o).length+(bytesA [f]).length)*(1:Nat)≤(140737488355328:Nat)) (by simp only [bytesA_len,List.length_cons,List.length_nil];omega)] ?_
 refine zS ?_
 refine zP 1 [yH [(1,yV (ai ((↑s:Int)-1)))]] [.keep [9,0,1,2,7,8] [42]] [yN ((↑s:Int)-1)] ?_
 refine zB 1 ?_
 refine zL (fun (q:Nat)=>(⟨[(1,ab m),(2,aw n),(7,ab f),(8,ai (↑s:Int)),(9,ai ((s:Int)-1-q)),(0,AV.ref 42)],[(42,⟨1,true,false,bytesA (o++f::tlB n s q)⟩)]⟩:AS)) (fun q=>(q≤s)) (fun q=>(s-q)) (0) ?_ (Weaks.of [.keep [1,2,7,8,9,0] [42]] (s1:=AS.mk [(1,ab m),(2,aw n),(7,ab f),(8,ai (↑s:Int)),(9,ai ((↑s:Int)-1)),(0,AV.ref 42)] [(42,Row.mk 1 true false (bytesA o++bytesA [f]))]) (by kernel_rfl) (as_eq (f_cons rfl (f_cons rfl (f_cons rfl (f_cons rfl (f_cons (congrArg (fun n=>AV.val (.int .i64 n)) (by omega)) (f_cons rfl rfl)))))) (h_cons (by rw [bytesA_app];rfl) rfl))) ?_
 ·omega
 intro q hq
 have hlq:=tlB_len n s q
 have hlb:(bytesA (o++f::tlB n s q)).length=o.length+(q+1):=by rw [bytesA_len,List.length_append,List.length_cons,hlq]
 refine zS ?_
 refine zP 1 [{}] [.keep [46,1,2,7,8,9,0] [42]] [] ?_
 refine zD 46 ((↑s:Int)-1-(↑q:Int)≥0) (fun h=>?_) (fun h=>?_)
 ·have w:IntKind.i64.wrap (8*((s:Int)-1-q))=((8*(s-1-q):Nat):Int):=by rw [IntKind.wrap_i64];omega
  refine zK ?_
  refine then_n ?_
  refine zS ?_
  refine zB 2 ?_
  refine zX (yH [(3,yV (ai (↑((8:Nat)*(s-(1:Nat)-q)):Int))),(4,yV (aw (n>>>UInt64.ofNat (↑((8:Nat)*(s-(1:Nat)-q)):Int).toNat))),(5,yV (ab ((n>>>UInt64.ofNat (↑((8:Nat)*(s-(1:Nat)-q)):Int).toNat).toUInt8))),(6,yV (AV.arr (bytesA [(n>>>UInt64.ofNat (↑((8:Nat)*(s-(1:Nat)-q)):Int).toNat).toUInt8]))),(7,yV (AV.arr (bytesA (o++f::tlB n s q++ [(n>>>UInt64.ofNat (↑((8:Nat)*(s-(1:Nat)-q)):Int).toNat).toUInt8]))))]) [yB (ai (IntKind.i64.wrap ((8:Int)*((↑s:Int)-1-(↑q:Int))))=ai (↑((8:Nat)*(s-(1:Nat)-q)):Int)) (congrArg (fun n=>AV.val (.int .i64 n)) w),yI (avw_shr n ((↑((8:Nat)*(s-(1:Nat)-q)):Int)) (by omega) (by omega)),yO ((0:Int)≤(↑((8:Nat)*(s-(1:Nat)-q)):Int)),yI (avb_wv (n>>>UInt64.ofNat (↑((8:Nat)*(s-(1:Nat)-q)):Int).toNat)),yR [ab ((n>>>UInt64.ofNat (↑((8:Nat)*(s-(1:Nat)-q)):Int).toNat).toUInt8)],yB (bytesA (o++f::tlB n s q)++bytesA [(n>>>UInt64.ofNat (↑((8:Nat)*(s-(1:Nat)-q)):Int).toNat).toUInt8]=bytesA (o++f::tlB n s q++ [(n>>>UInt64.ofNat (↑((8:Nat)*(s-(1:Nat)-q)):Int).toNat).toUInt8])) (bytesA_app _ _),yB (((bytesA (o++f::tlB n s q)).length+(bytesA [(n>>>UInt64.ofNat (↑((8:Nat)*(s-(1:Nat)-q)):Int).toNat).toUInt8]).length)*(1:Nat)≤(140737488355328:Nat)) (by simp only [bytesA_len,List.length_append,List.length_cons,List.length_nil];omega)] ?_
  refine inb_n ?_
  refine then_n ?_
  refine zX (yH [(1,yV (ai ((↑s:Int)-1-(↑q:Int)-1)))]) [yN ((↑s:Int)-1-(↑q:Int)-1)] ?_
  refine round_n (q+1) (by omega) (by omega) (Weaks.of [.ren 56 42,.keep [1,2,7,8,9,0] [42]] (s1:=AS.mk [(1,ab m),(2,aw n),(7,ab f),(8,ai (↑s:Int)),(9,ai ((↑s:Int)-1-(↑q:Int)-1)),(0,AV.ref 42)] [(42,Row.mk 1 true false (bytesA (o++f::tlB n s q++ [(n>>>UInt64.ofNat (↑((8:Nat)*(s-(1:Nat)-q)):Int).toNat).toUInt8])))]) (by kernel_rfl) (as_eq (f_cons rfl (f_cons rfl (f_cons rfl (f_cons rfl (f_cons (congrArg (fun n=>AV.val (.int .i64 n)) (by omega)) (f_cons rfl rfl)))))) (h_cons (congrArg bytesA (by rw [tlB_snoc,Int.toNat_natCast];simp)) rfl)))
 ·have e2:q=s:=by omega
  subst e2
  refine AWP.weak (Weaks.add 5 1 (by kernel_rfl)) ?_
  refine zE 1 ?_
  refine then_e ?_
  refine round_e ?_
  refine inb_e ?_
  refine then_n ?_
  refine zQ 1 [{}] [] ?_
  refine zR ?_
  refine DoneM.ret_ [] (s2:=AS.mk [(6,AV.ref 42),(57,AV.ref 42),(46,ao (decide ((↑q:Int)-1-(↑q:Int)≥0))),(1,ab m),(2,aw n),(7,ab f),(8,ai (↑q:Int)),(9,ai ((↑q:Int)-1-(↑q:Int))),(0,AV.ref 42)] [(5,Row.mk 1 true false []),(42,Row.mk 1 true false (bytesA (o++f::tlB n q q)))]) (by kernel_rfl) (C:=[bytesA (o++f::tlB n q q)=bytesA (o++headB m n),[]=bytesA []]) (by kernel_rfl) ⟨(by rw [e]),rfl,trivial⟩
end Go.Proofs.YtjgbhhnghedgdaaGreatDoor
