import Derived.Test.YtejpabdmiagnnaaGreatDoorZrV8
import Derived.Test.YtejpabdmiagnnaaGreatDoorZrRecT
set_option linter.all false
namespace Go.Proofs.YtejpabdmiagnnaaGreatDoor
open Go.RowKit
set_option maxRecDepth 100000
set_option maxHeartbeats 4000000
set_option linter.unusedVariables false
theorem refrestore_ret (g:Grp) (p:UInt64) (hs shs:List (List UInt8)) (n:UInt64) (hg:g.deps.length≤1000000) (hH:(retD g.deps p).holders.length≤1000000) (hl:hs.length≤1000000) (hh:∀i,i<hs.length->(hs.getD i default).length≤1000) (hsh:∀i,i<shs.length->(shs.getD i default).length≤1000):Ret Tryz.prog 19 [.agg (grpC g),aw p,.sl 1 (encA strC hs),.sl 1 (encA bysC shs),aw n] (.tup [.own 1 (bytesA (rstD g p hs shs n)),ai (rstE g p hs shs n)]):=by
 have hll:(encA strC hs).length=hs.length:=by rw [encA_len (e:=1) (fun _=>rfl)];omega
 have hls:(encA bysC shs).length=shs.length:=by rw [encA_len (e:=1) (fun _=>rfl)];omega
 by_cases h1:retE g.deps p=0
 case neg =>
  have e1:rstE g p hs shs n=retE g.deps p:=by unfold rstE;rw [if_pos h1]
  have e2:rstD g p hs shs n= []:=by unfold rstD;rw [if_neg (by omega)]
  refine zO Tryz.func19 145 ?_
  refine zP 2 [{},yH [(2,{av:=some (AV.tup [AV.agg [aw ((retD g.deps p).pub),aw ((retD g.deps p).peer),AV.sl 1 (bytesA (retD g.deps p).box),AV.sl 1 (encA strC (retD g.deps p).holders),AV.sl 1 (wordsA (retD g.deps p).digests),ai ((retD g.deps p).need),aw ((retD g.deps p).target)],ai (retE g.deps p)]),b:=false})]] [.keep [13,12,11,10,5,0,1,2,3,4] [12,5]] [yI (refreturned_ret g p (by assumption)),yL 7 7] ?_
  refine zS ?_
  refine zQ 1 [yH [(1,yV (ao true))]] [yB (ao (retE g.deps p != (0:Int))=ao true) (by simp [h1])] ?_
  refine zT 30 ?_
  refine zP 1 [{}] [.keep [11,10,30,13,12,5,0,1,2,3,4] [12,5]] [] ?_
  refine zR ?_
  refine then_r ?_
  refine zV [yB (bytesA (rstD g p hs shs n)= []) (by rw [e2];rfl),yJ (retE g.deps p) (rstE g p hs shs n) (by rw [e1])]
 by_cases h2:shs.length=hs.length
 case neg =>
  have e1:rstE g p hs shs n=4:=by unfold rstE;rw [if_neg (by omega),if_pos h2]
  have e2:rstD g p hs shs n= []:=by unfold rstD;rw [if_neg (by omega)]
  refine zO Tryz.func19 145 ?_
  refine zP 2 [{},yH [(2,{av:=some (AV.tup [AV.agg [aw ((retD g.deps p).pub),aw ((retD g.deps p).peer),AV.sl 1 (bytesA (retD g.deps p).box),AV.sl 1 (encA strC (retD g.deps p).holders),AV.sl 1 (wordsA (retD g.deps p).digests),ai ((retD g.deps p).need),aw ((retD g.deps p).target)],ai (retE g.deps p)]),b:=false})]] [.keep [13,12,11,10,5,0,1,2,3,4] [12,5]] [yI (refreturned_ret g p (by assumption)),yL 7 7] ?_
  refine zS ?_
  refine zQ 1 [yH [(1,yV (ao false))]] [yB (ao (retE g.deps p != (0:Int))=ao false) (by simp [h1])] ?_
  refine zF 30 ?_
  refine zK ?_
  refine then_n ?_
  refine zS ?_
  refine zP 1 [yH [(1,{k:=(encA strC hs).length}),(3,{k:=(encA bysC shs).length}),(4,yV (ao true))]] [.keep [36,30,13,12,11,10,5,0,1,2,3,4] [12,5]] [yR ((encA strC hs).length),yR ((encA bysC shs).length),yB (ao ((↑(encA strC hs).length:Int) != (↑(encA bysC shs).length:Int))=ao true) (by simp;omega)] ?_
  refine zT 36 ?_
  refine zQ 1 [{}] [] ?_
  refine zR ?_
  refine then_r ?_
  refine zV [yB (bytesA (rstD g p hs shs n)= []) (by rw [e2];rfl),yJ 4 (rstE g p hs shs n) (by rw [e1])]
 refine zO Tryz.func19 145 ?_
 refine zP 2 [{},yH [(2,{av:=some (AV.tup [AV.agg [aw ((retD g.deps p).pub),aw ((retD g.deps p).peer),AV.sl 1 (bytesA (retD g.deps p).box),AV.sl 1 (encA strC (retD g.deps p).holders),AV.sl 1 (wordsA (retD g.deps p).digests),ai ((retD g.deps p).need),aw ((retD g.deps p).target)],ai (retE g.deps p)]),b:=false})]] [.keep [13,12,11,10,5,0,1,2,3,4] [12,5]] [yI (refreturned_ret g p (by assumption)),yL 7 7] ?_
 refine zS ?_
 refine zQ 1 [yH [(1,yV (ao false))]] [yB (ao (retE g.deps p != (0:Int))=ao false) (by simp [h1])] ?_
 refine zF 30 ?_
 refine zK ?_
 refine then_n ?_
 refine zS ?_
 refine zP 1 [yH [(1,{k:=(encA strC hs).length}),(3,{k:=(encA bysC shs).length}),(4,yV (ao false))]] [.keep [36,30,13,12,11,10,5,0,1,2,3,4] [12,5]] [yR ((encA strC hs).length),yR ((encA bysC shs).length),yB (ao ((↑(encA strC hs).length:Int) != (↑(encA bysC shs).length:Int))=ao false) (by simp;omega)] ?_
 refine zF 36 ?_
 refine zK ?_
 refine then_n ?_
 refine zQ 1 [{}] [] ?_
 refine zS ?_
 refine AWP.regsK 1 [{}] (by kernel_rfl) (s':=AS.mk [(15,ai 0),(14,AV.nil),(36,ao false),(30,ao false),(13,ai (retE g.deps p)),(12,AV.addr 12 0),(11,ai 0),(10,AV.nil),(5,AV.addr 5 0),(0,AV.agg [ai g.epoch,aw g.head,ai g.thr,AV.sl 4 (encA memC g.mems),AV.sl 7 (encA depC g.deps)]),(1,aw p),(2,AV.sl 1 (encA strC hs)),(3,AV.sl 1 (encA bysC shs)),(4,aw n)] [(12,Row.mk 1 false true [aw ((retD g.deps p).pub),aw ((retD g.deps p).peer),AV.sl 1 (bytesA (retD g.deps p).box),AV.sl 1 (encA strC (retD g.deps p).holders),AV.sl 1 (wordsA (retD g.deps p).digests),ai ((retD g.deps p).need),aw ((retD g.deps p).target)]),(5,Row.mk 1 false true (List.map (kill0 (12:Nat)) (List.map (kill0 (5:Nat)) (grpC g))))]) (C:=[]) (by kernel_rfl) trivial ?_
 refine zB 0 ?_
 generalize hd:retD g.deps p=d at *
 refine zL (fun (i:Nat)=>(⟨[(36,ao false),(30,ao false),(13,ai (retE g.deps p)),(12,AV.addr 12 0),(5,AV.addr 5 0),(0,AV.agg [ai g.epoch,aw g.head,ai g.thr,AV.sl 4 (encA memC g.mems),AV.sl 7 (encA depC g.deps)]),(1,aw p),(2,AV.sl 1 (encA strC hs)),(3,AV.sl 1 (encA bysC shs)),(4,aw n),(15,ai i),(14,AV.ref 85)],[(12,⟨1,false,true,[aw d.pub,aw d.peer,AV.sl 1 (bytesA d.box),AV.sl 1 (encA strC d.holders),AV.sl 1 (wordsA d.digests),ai d.need,aw d.target]⟩),(5,⟨1,false,true,List.map (kill0 (12:Nat)) (List.map (kill0 (5:Nat)) (grpC g))⟩),(85,⟨2,true,false,encA shareC (pts d hs shs i)⟩)]⟩:AS)) (fun i=>(i≤hs.length∧lpF d hs shs i=0)) (fun i=>(hs.length-i)) (0) ?_ (zW [.nil 14 85 2,.keep [36,30,13,12,5,0,1,2,3,4,15,14] [12,5,85]]) ?_
 ·exact ⟨by omega,rfl⟩
 rintro i ⟨hi,h0⟩
 have hpl:=pts_len d hs shs i
 have hpe:(encA shareC (pts d hs shs i)).length=i*2:=by rw [encA_len (e:=2) (fun _=>rfl),hpl]
 refine zS ?_
 refine zP 1 [yH [(2,{k:=(encA strC hs).length})]] [.keep [40,36,30,13,12,5,0,1,2,3,4,15,14] [12,5,85]] [yR ((encA strC hs).length)] ?_
 refine zD 40 ((↑i:Int)<(↑(encA strC hs).length:Int)) (fun h=>?_) (fun h=>?_)
 ·have hi2:i<hs.length:=by omega
  have hA:=hh i hi2
  have hB:=hsh i (by omega)
  have hat:=strs_at hi2
  have hbt:=bys_at (l:=shs) (i:=i) (by omega)
  by_cases hc:chkD d (hs.getD i default) (shs.getD i default)=0
  case neg =>
   have k1:lpE d hs shs i=chkD d (hs.getD i default) (shs.getD i default):=by unfold lpE;rw [if_pos hc]
   have k2:lpF d hs shs (i+1)=lpE d hs shs i:=by show (if _ then _ else _)=_;rw [if_neg (by omega)]
   have k3:=lpF_stay d hs shs (by omega) k2 hs.length (by omega)
   have e1:rstE g p hs shs n=chkD d (hs.getD i default) (shs.getD i default):=by unfold rstE;rw [if_neg (by omega),if_neg (by omega),hd,if_pos (by omega),k3,k1]
   have e2:rstD g p hs shs n= []:=by unfold rstD;rw [if_neg (by omega)]
   refine zK ?_
   refine then_n ?_
   refine zS ?_
   refine zB 1 ?_
   refine zS ?_
   refine zP 2 [{hs:=[(3,{k:=i}),(4,yV (AV.val (Value.string (ByteArray.mk (hs.getD i default).toArray)))),(7,{k:=i}),(8,yV (AV.sl 1 (bytesA (shs.getD i default)))),(9,yV (ai (chkD d (hs.getD i default) (shs.getD i default))))],T:=9},{}] [.keep [54,16,40,36,30,13,12,5,0,1,2,3,4,15,14] [12,5,85]] [yR (↑i:Int),yO (i<(encA strC hs).length),yB ((encA strC hs)[i]?=some (AV.val (Value.string (ByteArray.mk (hs.getD i default).toArray)))) (by assumption),yR (↑i:Int),yO (i<(encA bysC shs).length),yB ((encA bysC shs)[i]?=some (AV.sl 1 (bytesA (shs.getD i default)))) (by assumption),yI (refcheck_ret d (hs.getD i default) (shs.getD i default) (by assumption) (by assumption) (by assumption))] ?_
   refine zTb 54 (chkD d (hs.getD i default) (shs.getD i default) != (0:Int)) (by simp_all) ?_
   refine zP 1 [{}] [.keep [11,10,54,16,40,36,30,13,12,5,0,1,2,3,4,15,14] [12,5,85]] [] ?_
   refine zR ?_
   refine then_r ?_
   refine inb_r ?_
   refine then_r ?_
   refine round_r ?_
   refine inb_r ?_
   refine then_r ?_
   refine zV [yB (bytesA (rstD g p hs shs n)= []) (by rw [e2];rfl),yJ (chkD d (hs.getD i default) (shs.getD i default)) (rstE g p hs shs n) (by rw [e1])]
  obtain ⟨a,ha,ha2,ha3⟩:=chk_idx hc
  have hsn:=pts_snoc d hs shs i
  refine zK ?_
  refine then_n ?_
  refine zS ?_
  refine zB 1 ?_
  refine zS ?_
  refine zP 2 [{hs:=[(3,{k:=i}),(4,yV (AV.val (Value.string (ByteArray.mk (hs.getD i default).toArray)))),(7,{k:=i}),(8,yV (AV.sl 1 (bytesA (shs.getD i default)))),(9,yV (ai (chkD d (hs.getD i default) (shs.getD i default))))],T:=9},{}] [.keep [54,16,40,36,30,13,12,5,0,1,2,3,4,15,14] [12,5,85]] [yR (↑i:Int),yO (i<(encA strC hs).length),yB ((encA strC hs)[i]?=some (AV.val (Value.string (ByteArray.mk (hs.getD i default).toArray)))) (by assumption),yR (↑i:Int),yO (i<(encA bysC shs).length),yB ((encA bysC shs)[i]?=some (AV.sl 1 (bytesA (shs.getD i default)))) (by assumption),yI (refcheck_ret d (hs.getD i default) (shs.getD i default) (by assumption) (by assumption) (by assumption))] ?_
  refine zFb 54 (chkD d (hs.getD i default) (shs.getD i default) != (0:Int)) (by simp_all) ?_
  refine zK ?_
  refine then_n ?_
  refine zP 1 [{hs:=[(4,{k:=i}),(5,yV (AV.val (Value.string (ByteArray.mk (hs.getD i default).toArray)))),(6,yV (ai (idxS d.holders (hs.getD i default)))),(7,yV (ai (idxS d.holders (hs.getD i default)+1)))],T:=6}] [.keep [17,54,16,40,36,30,13,12,5,0,1,2,3,4,15,14] [12,5,85]] [yR (↑i:Int),yO (i<(encA strC hs).length),yB ((encA strC hs)[i]?=some (AV.val (Value.string (ByteArray.mk (hs.getD i default).toArray)))) (by assumption),yI (holder_ret d.holders (hs.getD i default) (by assumption)),yN (idxS d.holders (hs.getD i default)+1)] ?_
  refine zS ?_
  refine zQ 1 [{}] [] ?_
  refine zB 2 ?_
  refine zL (fun (k:Nat)=>(⟨[(17,ai (idxS d.holders (hs.getD i default)+1)),(54,ao (chkD d (hs.getD i default) (shs.getD i default) != (0:Int))),(16,ai (chkD d (hs.getD i default) (shs.getD i default))),(40,ao (decide ((↑i:Int)<(↑(encA strC hs).length:Int)))),(36,ao false),(30,ao false),(13,ai (retE g.deps p)),(12,AV.addr 12 0),(5,AV.addr 5 0),(0,AV.agg [ai g.epoch,aw g.head,ai g.thr,AV.sl 4 (encA memC g.mems),AV.sl 7 (encA depC g.deps)]),(1,aw p),(2,AV.sl 1 (encA strC hs)),(3,AV.sl 1 (encA bysC shs)),(4,aw n),(15,ai (↑i:Int)),(14,AV.ref 85),(18,ai k)],[(12,⟨1,false,true,[aw d.pub,aw d.peer,AV.sl 1 (bytesA d.box),AV.sl 1 (encA strC d.holders),AV.sl 1 (wordsA d.digests),ai d.need,aw d.target]⟩),(5,⟨1,false,true,List.map (kill0 (12:Nat)) (List.map (kill0 (5:Nat)) (grpC g))⟩),(85,⟨2,true,false,encA shareC (pts d hs shs i)⟩)]⟩:AS)) (fun k=>(k≤i∧ ∀j,j<k->idxS d.holders (hs.getD j default)≠idxS d.holders (hs.getD i default))) (fun k=>(i-k)) (0) ?_ (zW [.keep [17,54,16,40,36,30,13,12,5,0,1,2,3,4,15,14,18] [12,5,85]]) ?_
  ·exact ⟨by omega,by omega⟩
  rintro k ⟨hk,hno⟩
  refine zS ?_
  refine zP 1 [yH [(2,{k:=(pts d hs shs i).length})]] [.keep [67,17,54,16,40,36,30,13,12,5,0,1,2,3,4,15,14,18] [12,5,85]] [yO ((encA shareC (pts d hs shs i)).length=(pts d hs shs i).length*(2:Nat))] ?_
  refine zD 67 ((↑k:Int)<(↑(pts d hs shs i).length:Int)) (fun h4=>?_) (fun h4=>?_)
  ·have hk2:k<i:=by omega
   have hpk:=pts_getD (d:=d) (hs:=hs) (shs:=shs) hk2
   by_cases e:idxS d.holders (hs.getD k default)=idxS d.holders (hs.getD i default)
   ·have hm:=dup_yes hi2 h0 hc hk2 e
    have k1:lpE d hs shs i=10:=by unfold lpE;rw [if_neg (by omega),if_pos hm]
    have k2:lpF d hs shs (i+1)=lpE d hs shs i:=by show (if _ then _ else _)=_;rw [if_neg (by omega)]
    have k3:=lpF_stay d hs shs (by omega) k2 hs.length (by omega)
    have e1:rstE g p hs shs n=10:=by unfold rstE;rw [if_neg (by omega),if_neg (by omega),hd,if_pos (by omega),k3,k1]
    have e2:rstD g p hs shs n= []:=by unfold rstD;rw [if_neg (by omega)]
    refine zK ?_
    refine then_n ?_
    refine zS ?_
    refine zB 3 ?_
    refine zP 1 [yH [(2,{k:=k}),(4,yV (ai (((pts d hs shs i).getD k default).fst))),(6,yV (ao true))]] [.keep [76,67,17,54,16,40,36,30,13,12,5,0,1,2,3,4,15,14,18] [12,5,85]] [yR (↑k:Int),yO (k*(2:Nat)<(encA shareC (pts d hs shs i)).length),yB ((encA shareC (pts d hs shs i))[k*(2:Nat)]?=some (ai (((pts d hs shs i).getD k default).fst))) (encA_at (f:=shareC) (e:=2) (k:=k) (j:=0) (fun _=>rfl) (by omega) rfl),yB (ao (((pts d hs shs i).getD k default).fst == idxS d.holders (hs.getD i default)+1)=ao true) (by simp only [hpk,e];simp)] ?_
    refine zT 76 ?_
    refine zQ 1 [{}] [] ?_
    refine zR ?_
    refine inb_r ?_
    refine then_r ?_
    refine round_r ?_
    refine inb_r ?_
    refine then_r ?_
    refine inb_r ?_
    refine then_r ?_
    refine round_r ?_
    refine inb_r ?_
    refine then_r ?_
    refine zV [yB (bytesA (rstD g p hs shs n)= []) (by rw [e2];rfl),yJ 10 (rstE g p hs shs n) (by rw [e1])]
   ·have e2:¬idxS d.holders (hs.getD k default)+1=idxS d.holders (hs.getD i default)+1:=by omega
    refine zK ?_
    refine then_n ?_
    refine zS ?_
    refine zB 3 ?_
    refine zP 1 [yH [(2,{k:=k}),(4,yV (ai (((pts d hs shs i).getD k default).fst))),(6,yV (ao false))]] [.keep [76,67,17,54,16,40,36,30,13,12,5,0,1,2,3,4,15,14,18] [12,5,85]] [yR (↑k:Int),yO (k*(2:Nat)<(encA shareC (pts d hs shs i)).length),yB ((encA shareC (pts d hs shs i))[k*(2:Nat)]?=some (ai (((pts d hs shs i).getD k default).fst))) (encA_at (f:=shareC) (e:=2) (k:=k) (j:=0) (fun _=>rfl) (by omega) rfl),yB (ao (((pts d hs shs i).getD k default).fst == idxS d.holders (hs.getD i default)+1)=ao false) (by simp only [hpk];simpa using e2)] ?_
    refine zF 76 ?_
    refine zK ?_
    refine inb_n ?_
    refine then_n ?_
    refine zX (yH [(1,yV (ai ((↑k:Int)+1)))]) [yN ((↑k:Int)+1)] ?_
    refine round_n (k+1) ⟨by omega,fun j hj=>by by_cases e3:j=k;(subst e3;exact e);exact hno j (by omega)⟩ (by omega) (zW [.keep [17,54,16,40,36,30,13,12,5,0,1,2,3,4,15,14,18] [12,5,85]])
  ·have hm:=dup_no (d:=d) hi2 (fun j hj=>hno j (by omega))
   have k1:lpE d hs shs i=0:=by unfold lpE;rw [if_neg (by omega),if_neg hm]
   have k2:lpF d hs shs (i+1)=0:=by show (if _ then _ else _)=_;rw [if_neg (by omega),k1]
   refine zE 2 ?_
   refine then_e ?_
   refine round_e ?_
   refine inb_e ?_
   refine then_n ?_
   refine zX (yH [(4,{k:=i}),(5,yV (AV.sl 1 (bytesA (shs.getD i default)))),(8,yV (AV.arr (encA shareC (pts d hs shs (i+(1:Nat))))))]) [yR (↑i:Int),yO (i<(encA bysC shs).length),yB ((encA bysC shs)[i]?=some (AV.sl 1 (bytesA (shs.getD i default)))) (by assumption),yI hsn,yO (((encA shareC (pts d hs shs i)).length+(2:Nat))*(32:Nat)≤(281474976710656:Nat))] ?_
   refine inb_n ?_
   refine then_n ?_
   refine zX (yH [(1,yV (ai ((↑i:Int)+1)))]) [yN ((↑i:Int)+1)] ?_
   refine round_n (i+1) ⟨by omega,k2⟩ (by omega) (zW [.keep [36,30,13,12,5,0,1,2,3,4,15,14] [12,5,85]])
 ·have e:i=hs.length:=by omega
  subst e
  by_cases h3:(hs.length:Int)<d.need
  ·have e1:rstE g p hs shs n=41:=by unfold rstE;rw [if_neg (by omega),if_neg (by omega),hd,if_neg (by omega),if_pos h3]
   have e2:rstD g p hs shs n= []:=by unfold rstD;rw [if_neg (by omega)]
   refine zE 0 ?_
   refine then_e ?_
   refine round_e ?_
   refine inb_e ?_
   refine then_n ?_
   refine zS ?_
   refine zP 1 [yH [(1,{k:=(pts d hs shs hs.length).length})]] [.keep [90,40,36,30,13,12,5,0,1,2,3,4,15,14] [12,5,85]] [yO ((encA shareC (pts d hs shs hs.length)).length=(pts d hs shs hs.length).length*(2:Nat))] ?_
   refine zTd 90 ((↑(pts d hs shs hs.length).length:Int)<d.need) ?_
   refine zQ 1 [{}] [] ?_
   refine zR ?_
   refine then_r ?_
   refine zV [yB (bytesA (rstD g p hs shs n)= []) (by rw [e2];rfl),yJ 41 (rstE g p hs shs n) (by rw [e1])]
  by_cases h4:atE (pts d hs shs hs.length) 0=0
  case neg =>
   have e1:rstE g p hs shs n=4:=by unfold rstE;rw [if_neg (by omega),if_neg (by omega),hd,if_neg (by omega),if_neg h3,if_pos (.inl h4)]
   have e2:rstD g p hs shs n= []:=by unfold rstD;rw [if_neg (by omega)]
   refine zE 0 ?_
   refine then_e ?_
   refine round_e ?_
   refine inb_e ?_
   refine then_n ?_
   refine zS ?_
   refine zP 1 [yH [(1,{k:=(pts d hs shs hs.length).length})]] [.keep [90,40,36,30,13,12,5,0,1,2,3,4,15,14] [12,5,85]] [yO ((encA shareC (pts d hs shs hs.length)).length=(pts d hs shs hs.length).length*(2:Nat))] ?_
   refine zFd 90 ((↑(pts d hs shs hs.length).length:Int)<d.need) ?_
   refine zK ?_
   refine then_n ?_
   refine zP 1 [yH [(1,yV (AV.tup [AV.own 1 (bytesA (atD (pts d hs shs hs.length) (0:Int))),ai (atE (pts d hs shs hs.length) (0:Int))]))]] [.keep [13,19,90,40,36,30,12,5,0,1,2,3,4,15,14] [1093,12,5,85]] [yI (refjoin_ret (pts d hs shs hs.length)),yI (valR_bytes (atD (pts d hs shs hs.length) (0:Int)))] ?_
   refine zS ?_
   refine zP 1 [yH [(1,yV (ao true))]] [.keep [102,13,19,90,40,36,30,12,5,0,1,2,3,4,15,14] [1093,12,5,85]] [yB (ao (atE (pts d hs shs hs.length) (0:Int) != (0:Int))=ao true) (by simp [h4]),yR true,yR true,yR true,yR true] ?_
   refine zT 102 ?_
   refine zQ 1 [{}] [] ?_
   refine zR ?_
   refine then_r ?_
   refine zV [yB (bytesA (rstD g p hs shs n)= []) (by rw [e2];rfl),yJ 4 (rstE g p hs shs n) (by rw [e1])]
  by_cases h5:(atD (pts d hs shs hs.length) 0).length=8
  case neg =>
   have e1:rstE g p hs shs n=4:=by unfold rstE;rw [if_neg (by omega),if_neg (by omega),hd,if_neg (by omega),if_neg h3,if_pos (.inr h5)]
   have e2:rstD g p hs shs n= []:=by unfold rstD;rw [if_neg (by omega)]
   refine zE 0 ?_
   refine then_e ?_
   refine round_e ?_
   refine inb_e ?_
   refine then_n ?_
   refine zS ?_
   refine zP 1 [yH [(1,{k:=(pts d hs shs hs.length).length}),(4,yV (ao false))]] [.keep [90,40,36,30,13,12,5,0,1,2,3,4,15,14] [12,5,85]] [yO ((encA shareC (pts d hs shs hs.length)).length=(pts d hs shs hs.length).length*(2:Nat)),yB (ao (decide ((↑(pts d hs shs hs.length).length:Int)<d.need))=ao false) (by simp;omega)] ?_
   refine zF 90 ?_
   refine zK ?_
   refine then_n ?_
   refine zP 1 [yH [(1,yV (AV.tup [AV.own 1 (bytesA (atD (pts d hs shs hs.length) (0:Int))),ai (atE (pts d hs shs hs.length) (0:Int))]))]] [.keep [13,19,90,40,36,30,12,5,0,1,2,3,4,15,14] [1093,12,5,85]] [yI (refjoin_ret (pts d hs shs hs.length)),yI (valR_bytes (atD (pts d hs shs hs.length) (0:Int)))] ?_
   refine zS ?_
   refine zP 1 [yH [(1,yV (ao false)),(3,{g:=false}),(4,{k:=(atD (pts d hs shs hs.length) (0:Int)).length,g:=false}),(5,{av:=some (ao true),g:=false}),(6,{b:=false})]] [.keep [102,13,19,90,40,36,30,12,5,0,1,2,3,4,15,14] [1093,12,5,85]] [yB (ao (atE (pts d hs shs hs.length) (0:Int) != (0:Int))=ao false) (by simp [h4]),yR false,yR false,yI (bytesA_len (atD (pts d hs shs hs.length) (0:Int))),yR false,yB (ao ((↑(atD (pts d hs shs hs.length) (0:Int)).length:Int) != (8:Int))=ao true) (by simp;omega),yR false] ?_
   refine zT 102 ?_
   refine zQ 1 [{}] [] ?_
   refine zR ?_
   refine then_r ?_
   refine zV [yB (bytesA (rstD g p hs shs n)= []) (by rw [e2];rfl),yJ 4 (rstE g p hs shs n) (by rw [e1])]
  have f1:rstE g p hs shs n=if pubW (wordOf (atD (pts d hs shs hs.length) 0))≠p then 15 else rslE d (wordOf (atD (pts d hs shs hs.length) 0)) n:=by
   unfold rstE
   rw [if_neg (by omega),if_neg (by omega),hd,if_neg (by omega),if_neg h3,if_neg (by rintro (q|q);exact q h4;exact q h5)]
  have f2:rstD g p hs shs n=if rstE g p hs shs n=0 then rslD d (wordOf (atD (pts d hs shs hs.length) 0)) n else []:=by unfold rstD;rw [hd]
  by_cases h6:pubW (wordOf (atD (pts d hs shs hs.length) 0))=p
  case neg =>
   rw [if_pos h6] at f1
   have e2:rstD g p hs shs n= []:=by rw [f2,if_neg (by omega)]
   refine zE 0 ?_
   refine then_e ?_
   refine round_e ?_
   refine inb_e ?_
   refine then_n ?_
   refine zS ?_
   refine zP 1 [yH [(1,{k:=(pts d hs shs hs.length).length}),(4,yV (ao false))]] [.keep [90,40,36,30,13,12,5,0,1,2,3,4,15,14] [12,5,85]] [yO ((encA shareC (pts d hs shs hs.length)).length=(pts d hs shs hs.length).length*(2:Nat)),yB (ao (decide ((↑(pts d hs shs hs.length).length:Int)<d.need))=ao false) (by simp;omega)] ?_
   refine zF 90 ?_
   refine zK ?_
   refine then_n ?_
   refine zP 1 [yH [(1,yV (AV.tup [AV.own 1 (bytesA (atD (pts d hs shs hs.length) (0:Int))),ai (atE (pts d hs shs hs.length) (0:Int))]))]] [.keep [13,19,90,40,36,30,12,5,0,1,2,3,4,15,14] [1093,12,5,85]] [yI (refjoin_ret (pts d hs shs hs.length)),yI (valR_bytes (atD (pts d hs shs hs.length) (0:Int)))] ?_
   refine zS ?_
   refine zP 1 [yH [(1,yV (ao false)),(3,{g:=false}),(4,{k:=(atD (pts d hs shs hs.length) (0:Int)).length,g:=false}),(5,{av:=some (ao false),g:=false}),(6,{b:=false})]] [.keep [102,13,19,90,40,36,30,12,5,0,1,2,3,4,15,14] [1093,12,5,85]] [yB (ao (atE (pts d hs shs hs.length) (0:Int) != (0:Int))=ao false) (by simp [h4]),yR false,yR false,yI (bytesA_len (atD (pts d hs shs hs.length) (0:Int))),yR false,yB (ao ((↑(atD (pts d hs shs hs.length) (0:Int)).length:Int) != (8:Int))=ao false) (by simp;omega),yR false] ?_
   refine zF 102 ?_
   refine zK ?_
   refine then_n ?_
   refine zP 1 [yH [(1,yV (aw (wordOf (atD (pts d hs shs hs.length) (0:Int)))))]] [.keep [20,102,13,19,90,40,36,30,12,5,0,1,2,3,4,15,14] [1093,12,5,85]] [yI (refword_ret (atD (pts d hs shs hs.length) (0:Int)) (by assumption))] ?_
   refine zS ?_
   refine zP 1 [yH [(1,yV (aw (pubW (wordOf (atD (pts d hs shs hs.length) (0:Int)))))),(3,yV (ao (pubW (wordOf (atD (pts d hs shs hs.length) (0:Int))) != p)))]] [.keep [108,20,102,13,19,90,40,36,30,12,5,0,1,2,3,4,15,14] [1093,12,5,85]] [yI (refpubx_ret (wordOf (atD (pts d hs shs hs.length) (0:Int)))),yI (avw_ne (pubW (wordOf (atD (pts d hs shs hs.length) (0:Int)))) p)] ?_
   refine zTb 108 (pubW (wordOf (atD (pts d hs shs hs.length) (0:Int))) != p) (by simp_all) ?_
   refine zQ 1 [{}] [] ?_
   refine zR ?_
   refine then_r ?_
   refine zV [yB (bytesA (rstD g p hs shs n)= []) (by rw [e2];rfl),yJ 15 (rstE g p hs shs n) (by rw [f1])]
  rw [if_neg (by simpa using h6)] at f1
  have e2:rstD g p hs shs n=rslD d (wordOf (atD (pts d hs shs hs.length) 0)) n:=by
   rw [f2,f1]
   split
   ·rfl
   ·rename_i hne;unfold rslD;rw [if_neg hne]
  refine zE 0 ?_
  refine then_e ?_
  refine round_e ?_
  refine inb_e ?_
  refine then_n ?_
  refine zS ?_
  refine zP 1 [yH [(1,{k:=(pts d hs shs hs.length).length}),(4,yV (ao false))]] [.keep [90,40,36,30,13,12,5,0,1,2,3,4,15,14] [12,5,85]] [yO ((encA shareC (pts d hs shs hs.length)).length=(pts d hs shs hs.length).length*(2:Nat)),yB (ao (decide ((↑(pts d hs shs hs.length).length:Int)<d.need))=ao false) (by simp;omega)] ?_
  refine zF 90 ?_
  refine zK ?_
  refine then_n ?_
  refine zP 1 [yH [(1,yV (AV.tup [AV.own 1 (bytesA (atD (pts d hs shs hs.length) (0:Int))),ai (atE (pts d hs shs hs.length) (0:Int))]))]] [.keep [13,19,90,40,36,30,12,5,0,1,2,3,4,15,14] [1093,12,5,85]] [yI (refjoin_ret (pts d hs shs hs.length)),yI (valR_bytes (atD (pts d hs shs hs.length) (0:Int)))] ?_
  refine zS ?_
  refine zP 1 [yH [(1,yV (ao false)),(3,{g:=false}),(4,{k:=(atD (pts d hs shs hs.length) (0:Int)).length,g:=false}),(5,{av:=some (ao false),g:=false}),(6,{b:=false})]] [.keep [102,13,19,90,40,36,30,12,5,0,1,2,3,4,15,14] [1093,12,5,85]] [yB (ao (atE (pts d hs shs hs.length) (0:Int) != (0:Int))=ao false) (by simp [h4]),yR false,yR false,yI (bytesA_len (atD (pts d hs shs hs.length) (0:Int))),yR false,yB (ao ((↑(atD (pts d hs shs hs.length) (0:Int)).length:Int) != (8:Int))=ao false) (by simp;omega),yR false] ?_
  refine zF 102 ?_
  refine zK ?_
  refine then_n ?_
  refine zP 1 [yH [(1,yV (aw (wordOf (atD (pts d hs shs hs.length) (0:Int)))))]] [.keep [20,102,13,19,90,40,36,30,12,5,0,1,2,3,4,15,14] [1093,12,5,85]] [yI (refword_ret (atD (pts d hs shs hs.length) (0:Int)) (by assumption))] ?_
  refine zS ?_
  refine zP 1 [yH [(1,yV (aw (pubW (wordOf (atD (pts d hs shs hs.length) (0:Int)))))),(3,yV (ao false))]] [.keep [108,20,102,13,19,90,40,36,30,12,5,0,1,2,3,4,15,14] [1093,12,5,85]] [yI (refpubx_ret (wordOf (atD (pts d hs shs hs.length) (0:Int)))),yB (ao (wv (pubW (wordOf (atD (pts d hs shs hs.length) (0:Int)))) != wv p)=ao false) (by simp [h6])] ?_
  refine zF 108 ?_
  refine zK ?_
  refine then_n ?_
  refine zP 1 [yH [(3,yV (AV.tup [aw (shK (wordOf (atD (pts d hs shs hs.length) (0:Int))) d.peer),ai (shE d.peer)]))]] [.keep [13,21,108,20,102,19,90,40,36,30,12,5,0,1,2,3,4,15,14] [1093,12,5,85]] [yI (refsharedx_ret (wordOf (atD (pts d hs shs hs.length) (0:Int))) d.peer)] ?_
  refine zS ?_
  refine AWP.regsK 1 [{}] (by kernel_rfl) (s':=AS.mk [(117,ao (shE d.peer != (0:Int))),(116,ai (shE d.peer)),(13,ai (shE d.peer)),(21,aw (shK (wordOf (atD (pts d hs shs hs.length) (0:Int))) d.peer)),(108,ao false),(20,aw (wordOf (atD (pts d hs shs hs.length) (0:Int)))),(102,ao false),(19,AV.ref 1093),(90,ao false),(40,ao (decide ((↑hs.length:Int)<(↑(encA strC hs).length:Int)))),(36,ao false),(30,ao false),(12,AV.addr 12 0),(5,AV.addr 5 0),(0,AV.agg [ai g.epoch,aw g.head,ai g.thr,AV.sl 4 (encA memC g.mems),AV.sl 7 (encA depC g.deps)]),(1,aw p),(2,AV.sl 1 (encA strC hs)),(3,AV.sl 1 (encA bysC shs)),(4,aw n),(15,ai (↑hs.length:Int)),(14,AV.ref 85)] [(1093,Row.mk 1 true false (bytesA (atD (pts d hs shs hs.length) (0:Int)))),(12,Row.mk 1 false true [aw d.pub,aw d.peer,AV.sl 1 (bytesA d.box),AV.sl 1 (encA strC d.holders),AV.sl 1 (wordsA d.digests),ai d.need,aw d.target]),(5,Row.mk 1 false true (List.map (kill0 (1093:Nat)) (List.map (kill0 (12:Nat)) (List.map (kill0 (5:Nat)) (grpC g))))),(85,Row.mk 2 true false (encA shareC (pts d hs shs hs.length)))]) (C:=[]) (by kernel_rfl) trivial ?_
  generalize wordOf (atD (pts d hs shs hs.length) 0)=S at *
  by_cases g1:shE d.peer=0
  case neg =>
   have e3:rslE d S n=shE d.peer:=by unfold rslE;rw [if_pos g1]
   have e4:rslD d S n= []:=by unfold rslD;rw [if_neg (by omega)]
   refine zTb 117 (shE d.peer != (0:Int)) (by simp_all) ?_
   refine zP 1 [{}] [.keep [11,10,117,13,21,108,20,102,19,90,40,36,30,12,5,0,1,2,3,4,15,14] [1093,12,5,85]] [] ?_
   refine zR ?_
   refine then_r ?_
   refine zV [yB (bytesA (rstD g p hs shs n)= []) (by rw [e2,e4];rfl),yJ (shE d.peer) (rstE g p hs shs n) (by rw [f1,e3])]
  by_cases g2:openE (shK S d.peer) [] d.box=0
  case neg =>
   have e3:rslE d S n=openE (shK S d.peer) [] d.box:=by unfold rslE;rw [if_neg (by omega),if_pos g2]
   have e4:rslD d S n= []:=by unfold rslD;rw [if_neg (by omega)]
   refine zFb 117 (shE d.peer != (0:Int)) (by simp_all) ?_
   refine zK ?_
   refine then_n ?_
   refine zP 1 [yH [(3,yV (AV.tup [AV.own 1 (bytesA (openD (shK S d.peer) [] d.box)),ai (openE (shK S d.peer) [] d.box)]))]] [.keep [13,22,117,21,108,20,102,19,90,40,36,30,12,5,0,1,2,3,4,15,14] [1123,1093,12,5,85]] [yI (refopenN_ret (shK S d.peer) d.box),yI (valR_bytes (openD (shK S d.peer) [] d.box))] ?_
   refine zS ?_
   refine zP 1 [yH [(1,yV (ao true))]] [.keep [127,13,22,117,21,108,20,102,19,90,40,36,30,12,5,0,1,2,3,4,15,14] [1123,1093,12,5,85]] [yB (ao (openE (shK S d.peer) [] d.box != (0:Int))=ao true) (by simp [g2])] ?_
   refine zT 127 ?_
   refine zP 1 [{}] [.keep [11,10,127,13,22,117,21,108,20,102,19,90,40,36,30,12,5,0,1,2,3,4,15,14] [1123,1093,12,5,85]] [] ?_
   refine zR ?_
   refine then_r ?_
   refine zV [yB (bytesA (rstD g p hs shs n)= []) (by rw [e2,e4];rfl),yJ (openE (shK S d.peer) [] d.box) (rstE g p hs shs n) (by rw [f1,e3])]
  by_cases g3:shE d.target=0
  case neg =>
   have e3:rslE d S n=shE d.target:=by unfold rslE;rw [if_neg (by omega),if_neg (by omega),if_pos g3]
   have e4:rslD d S n= []:=by unfold rslD;rw [if_neg (by omega)]
   refine zFb 117 (shE d.peer != (0:Int)) (by simp_all) ?_
   refine zK ?_
   refine then_n ?_
   refine zP 1 [yH [(3,yV (AV.tup [AV.own 1 (bytesA (openD (shK S d.peer) [] d.box)),ai (openE (shK S d.peer) [] d.box)]))]] [.keep [13,22,117,21,108,20,102,19,90,40,36,30,12,5,0,1,2,3,4,15,14] [1123,1093,12,5,85]] [yI (refopenN_ret (shK S d.peer) d.box),yI (valR_bytes (openD (shK S d.peer) [] d.box))] ?_
   refine zS ?_
   refine zP 1 [yH [(1,yV (ao false))]] [.keep [127,13,22,117,21,108,20,102,19,90,40,36,30,12,5,0,1,2,3,4,15,14] [1123,1093,12,5,85]] [yB (ao (openE (shK S d.peer) [] d.box != (0:Int))=ao false) (by simp [g2])] ?_
   refine zF 127 ?_
   refine zK ?_
   refine then_n ?_
   refine zP 1 [yH [(3,yV (AV.tup [aw (shK S d.target),ai (shE d.target)]))]] [.keep [13,21,127,22,117,108,20,102,19,90,40,36,30,12,5,0,1,2,3,4,15,14] [1123,1093,12,5,85]] [yI (refsharedx_ret S d.target)] ?_
   refine zS ?_
   refine zQ 1 [yH [(1,yV (ao true))]] [yB (ao (shE d.target != (0:Int))=ao true) (by simp [g3])] ?_
   refine zT 137 ?_
   refine zP 1 [{}] [.keep [11,10,137,13,21,127,22,117,108,20,102,19,90,40,36,30,12,5,0,1,2,3,4,15,14] [1123,1093,12,5,85]] [] ?_
   refine zR ?_
   refine then_r ?_
   refine zV [yB (bytesA (rstD g p hs shs n)= []) (by rw [e2,e4];rfl),yJ (shE d.target) (rstE g p hs shs n) (by rw [f1,e3])]
  have e3:rslE d S n=sealE [] (openD (shK S d.peer) [] d.box):=by unfold rslE;rw [if_neg (by omega),if_neg (by omega),if_neg (by omega)]
  have e4:rslD d S n=sealD (shK S d.target) n [] (openD (shK S d.peer) [] d.box):=by
   unfold rslD
   split
   ·rfl
   ·rename_i hne
    unfold sealD
    rw [if_neg (by rw [←e3];exact hne)]
  refine zFb 117 (shE d.peer != (0:Int)) (by simp_all) ?_
  refine zK ?_
  refine then_n ?_
  refine zP 1 [yH [(3,yV (AV.tup [AV.own 1 (bytesA (openD (shK S d.peer) [] d.box)),ai (openE (shK S d.peer) [] d.box)]))]] [.keep [13,22,117,21,108,20,102,19,90,40,36,30,12,5,0,1,2,3,4,15,14] [1123,1093,12,5,85]] [yI (refopenN_ret (shK S d.peer) d.box),yI (valR_bytes (openD (shK S d.peer) [] d.box))] ?_
  refine zS ?_
  refine zP 1 [yH [(1,yV (ao false))]] [.keep [127,13,22,117,21,108,20,102,19,90,40,36,30,12,5,0,1,2,3,4,15,14] [1123,1093,12,5,85]] [yB (ao (openE (shK S d.peer) [] d.box != (0:Int))=ao false) (by simp [g2])] ?_
  refine zF 127 ?_
  refine zK ?_
  refine then_n ?_
  refine zP 1 [yH [(3,yV (AV.tup [aw (shK S d.target),ai (shE d.target)]))]] [.keep [13,21,127,22,117,108,20,102,19,90,40,36,30,12,5,0,1,2,3,4,15,14] [1123,1093,12,5,85]] [yI (refsharedx_ret S d.target)] ?_
  refine zS ?_
  refine zQ 1 [yH [(1,yV (ao false))]] [yB (ao (shE d.target != (0:Int))=ao false) (by simp [g3])] ?_
  refine zF 137 ?_
  refine zK ?_
  refine then_n ?_
  refine zP 1 [yH [(3,yV (AV.tup [AV.own 1 (bytesA (sealD (shK S d.target) n [] (openD (shK S d.peer) [] d.box))),ai (sealE [] (openD (shK S d.peer) [] d.box))]))]] [.keep [11,10,137,13,21,127,22,117,108,20,102,19,90,40,36,30,12,5,0,1,2,3,4,15,14] [1142,1123,1093,12,5,85]] [yI (refsealN_ret (shK S d.target) n (openD (shK S d.peer) [] d.box)),yI (valR_bytes (sealD (shK S d.target) n [] (openD (shK S d.peer) [] d.box)))] ?_
  refine zR ?_
  refine zV [yB (bytesA (sealD (shK S d.target) n [] (openD (shK S d.peer) [] d.box))=bytesA (rstD g p hs shs n)) (by rw [e2,e4]),yJ (sealE [] (openD (shK S d.peer) [] d.box)) (rstE g p hs shs n) (by rw [f1,e3])]
end Go.Proofs.YtejpabdmiagnnaaGreatDoor
