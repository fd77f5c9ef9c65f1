import Derived.Test.YtejpabdmiagnnaaGreatDoorZrV8
import Derived.Test.YtejpabdmiagnnaaGreatDoorZrRec1
import Derived.Test.YtejpabdmiagnnaaGreatDoorZrSlN
import Derived.Test.YtejpabdmiagnnaaGreatDoorZrEx3
import Derived.Test.YtejpabdmiagnnaaGreatDoorZrSh6
import Derived.Test.YtejpabdmiagnnaaGreatDoorZrRN
set_option linter.all false
namespace Go.Proofs.YtejpabdmiagnnaaGreatDoor
open Go.RowKit
set_option maxRecDepth 100000
set_option maxHeartbeats 4000000
set_option linter.unusedVariables false
def rslE (d:Dep) (s n:UInt64):Int:=if shE d.peer≠0 then shE d.peer else if openE (shK s d.peer) [] d.box≠0 then openE (shK s d.peer) [] d.box else if shE d.target≠0 then shE d.target else sealE [] (openD (shK s d.peer) [] d.box)
def rslD (d:Dep) (s n:UInt64):List UInt8:=if rslE d s n=0 then sealD (shK s d.target) n [] (openD (shK s d.peer) [] d.box) else []
theorem reseal_ret (d:Dep) (s n:UInt64):Ret Tryz.prog 58 [.agg (depC d),aw s,aw n] (.tup [.own 1 (bytesA (rslD d s n)),ai (rslE d s n)]):=by
 by_cases h1:shE d.peer=0
 case neg =>
  have e1:rslE d s n=shE d.peer:=by unfold rslE;rw [if_pos h1]
  have e2:rslD d s n= []:=by unfold rslD;rw [if_neg (by omega)]
  refine zO Tryz.func58 53 ?_
  refine zP 2 [{},yH [(3,yV (AV.tup [aw (shK s d.peer),ai (shE d.peer)]))]] [.keep [9,8,7,6,3,0,1,2] [3]] [yI (sharedx_ret s d.peer)] ?_
  refine zS ?_
  refine zQ 1 [yH [(1,yV (ao true))]] [yB (ao (shE d.peer != (0:Int))=ao true) (by simp [h1])] ?_
  refine zT 20 ?_
  refine zP 1 [{}] [.keep [7,6,20,9,8,3,0,1,2] [3]] [] ?_
  refine zR ?_
  refine then_r ?_
  refine zV [yB (bytesA (rslD d s n)= []) (by rw [e2];rfl),yJ (shE d.peer) (rslE d s n) (by rw [e1])]
 by_cases h2:openE (shK s d.peer) [] d.box=0
 case neg =>
  have e1:rslE d s n=openE (shK s d.peer) [] d.box:=by unfold rslE;rw [if_neg (by omega),if_pos h2]
  have e2:rslD d s n= []:=by unfold rslD;rw [if_neg (by omega)]
  refine zO Tryz.func58 53 ?_
  refine zP 2 [{},yH [(3,yV (AV.tup [aw (shK s d.peer),ai (shE d.peer)]))]] [.keep [9,8,7,6,3,0,1,2] [3]] [yI (sharedx_ret s d.peer)] ?_
  refine zS ?_
  refine zQ 1 [yH [(1,yV (ao false))]] [yB (ao (shE d.peer != (0:Int))=ao false) (by simp [h1])] ?_
  refine zF 20 ?_
  refine zK ?_
  refine then_n ?_
  refine zP 1 [yH [(3,yV (AV.tup [AV.own 1 (bytesA (openD (shK s d.peer) [] d.box)),ai (openE (shK s d.peer) [] d.box)]))]] [.keep [9,10,20,8,7,6,3,0,1,2] [1026,3]] [yI (openN_ret (shK s d.peer) d.box),yI (valR_bytes (openD (shK s d.peer) [] d.box))] ?_
  refine zS ?_
  refine zP 1 [yH [(1,yV (ao true))]] [.keep [30,9,10,20,8,7,6,3,0,1,2] [1026,3]] [yB (ao (openE (shK s d.peer) [] d.box != (0:Int))=ao true) (by simp [h2])] ?_
  refine zT 30 ?_
  refine zP 1 [{}] [.keep [7,6,30,9,10,20,8,3,0,1,2] [1026,3]] [] ?_
  refine zR ?_
  refine then_r ?_
  refine zV [yB (bytesA (rslD d s n)= []) (by rw [e2];rfl),yJ (openE (shK s d.peer) [] d.box) (rslE d s n) (by rw [e1])]
 by_cases h3:shE d.target=0
 case neg =>
  have e1:rslE d s n=shE d.target:=by unfold rslE;rw [if_neg (by omega),if_neg (by omega),if_pos h3]
  have e2:rslD d s n= []:=by unfold rslD;rw [if_neg (by omega)]
  refine zO Tryz.func58 53 ?_
  refine zP 2 [{},yH [(3,yV (AV.tup [aw (shK s d.peer),ai (shE d.peer)]))]] [.keep [9,8,7,6,3,0,1,2] [3]] [yI (sharedx_ret s d.peer)] ?_
  refine zS ?_
  refine zQ 1 [yH [(1,yV (ao false))]] [yB (ao (shE d.peer != (0:Int))=ao false) (by simp [h1])] ?_
  refine zF 20 ?_
  refine zK ?_
  refine then_n ?_
  refine zP 1 [yH [(3,yV (AV.tup [AV.own 1 (bytesA (openD (shK s d.peer) [] d.box)),ai (openE (shK s d.peer) [] d.box)]))]] [.keep [9,10,20,8,7,6,3,0,1,2] [1026,3]] [yI (openN_ret (shK s d.peer) d.box),yI (valR_bytes (openD (shK s d.peer) [] d.box))] ?_
  refine zS ?_
  refine zP 1 [yH [(1,yV (ao false))]] [.keep [30,9,10,20,8,7,6,3,0,1,2] [1026,3]] [yB (ao (openE (shK s d.peer) [] d.box != (0:Int))=ao false) (by simp [h2])] ?_
  refine zF 30 ?_
  refine zK ?_
  refine then_n ?_
  refine zP 1 [yH [(3,yV (AV.tup [aw (shK s d.target),ai (shE d.target)]))]] [.keep [9,8,30,10,20,7,6,3,0,1,2] [1026,3]] [yI (sharedx_ret s d.target)] ?_
  refine zS ?_
  refine zQ 1 [yH [(1,yV (ao true))]] [yB (ao (shE d.target != (0:Int))=ao true) (by simp [h3])] ?_
  refine zT 40 ?_
  refine zP 1 [{}] [.keep [7,6,40,9,8,30,10,20,3,0,1,2] [1026,3]] [] ?_
  refine zR ?_
  refine then_r ?_
  refine zV [yB (bytesA (rslD d s n)= []) (by rw [e2];rfl),yJ (shE d.target) (rslE d s n) (by rw [e1])]
 have e1:rslE d s n=sealE [] (openD (shK s d.peer) [] d.box):=by unfold rslE;rw [if_neg (by omega),if_neg (by omega),if_neg (by omega)]
 by_cases h4:sealE [] (openD (shK s d.peer) [] d.box)=0
 case neg =>
  have e2:rslD d s n= []:=by unfold rslD;rw [if_neg (by omega)]
  refine zO Tryz.func58 53 ?_
  refine zP 2 [{},yH [(3,yV (AV.tup [aw (shK s d.peer),ai (shE d.peer)]))]] [.keep [9,8,7,6,3,0,1,2] [3]] [yI (sharedx_ret s d.peer)] ?_
  refine zS ?_
  refine zQ 1 [yH [(1,yV (ao false))]] [yB (ao (shE d.peer != (0:Int))=ao false) (by simp [h1])] ?_
  refine zF 20 ?_
  refine zK ?_
  refine then_n ?_
  refine zP 1 [yH [(3,yV (AV.tup [AV.own 1 (bytesA (openD (shK s d.peer) [] d.box)),ai (openE (shK s d.peer) [] d.box)]))]] [.keep [9,10,20,8,7,6,3,0,1,2] [1026,3]] [yI (openN_ret (shK s d.peer) d.box),yI (valR_bytes (openD (shK s d.peer) [] d.box))] ?_
  refine zS ?_
  refine zP 1 [yH [(1,yV (ao false))]] [.keep [30,9,10,20,8,7,6,3,0,1,2] [1026,3]] [yB (ao (openE (shK s d.peer) [] d.box != (0:Int))=ao false) (by simp [h2])] ?_
  refine zF 30 ?_
  refine zK ?_
  refine then_n ?_
  refine zP 1 [yH [(3,yV (AV.tup [aw (shK s d.target),ai (shE d.target)]))]] [.keep [9,8,30,10,20,7,6,3,0,1,2] [1026,3]] [yI (sharedx_ret s d.target)] ?_
  refine zS ?_
  refine zQ 1 [yH [(1,yV (ao false))]] [yB (ao (shE d.target != (0:Int))=ao false) (by simp [h3])] ?_
  refine zF 40 ?_
  refine zK ?_
  refine then_n ?_
  refine zP 1 [yH [(3,yV (AV.tup [AV.own 1 (bytesA (sealD (shK s d.target) n [] (openD (shK s d.peer) [] d.box))),ai (sealE [] (openD (shK s d.peer) [] d.box))]))]] [.keep [9,11,40,8,30,10,20,7,6,3,0,1,2] [1046,1026,3]] [yI (sealN_ret (shK s d.target) n (openD (shK s d.peer) [] d.box)),yI (valR_bytes (sealD (shK s d.target) n [] (openD (shK s d.peer) [] d.box)))] ?_
  refine zS ?_
  refine zP 1 [yH [(1,yV (ao true))]] [.keep [50,9,11,40,8,30,10,20,7,6,3,0,1,2] [1046,1026,3]] [yB (ao (sealE [] (openD (shK s d.peer) [] d.box) != (0:Int))=ao true) (by simp [h4])] ?_
  refine zT 50 ?_
  refine zP 1 [{}] [.keep [7,6,50,9,11,40,8,30,10,20,3,0,1,2] [1046,1026,3]] [] ?_
  refine zR ?_
  refine then_r ?_
  refine zV [yB (bytesA (rslD d s n)= []) (by rw [e2];rfl),yJ (sealE [] (openD (shK s d.peer) [] d.box)) (rslE d s n) (by rw [e1])]
 have e2:rslD d s n=sealD (shK s d.target) n [] (openD (shK s d.peer) [] d.box):=by unfold rslD;rw [if_pos (by omega)]
 refine zO Tryz.func58 53 ?_
 refine zP 2 [{},yH [(3,yV (AV.tup [aw (shK s d.peer),ai (shE d.peer)]))]] [.keep [9,8,7,6,3,0,1,2] [3]] [yI (sharedx_ret s d.peer)] ?_
 refine zS ?_
 refine zQ 1 [yH [(1,yV (ao false))]] [yB (ao (shE d.peer != (0:Int))=ao false) (by simp [h1])] ?_
 refine zF 20 ?_
 refine zK ?_
 refine then_n ?_
 refine zP 1 [yH [(3,yV (AV.tup [AV.own 1 (bytesA (openD (shK s d.peer) [] d.box)),ai (openE (shK s d.peer) [] d.box)]))]] [.keep [9,10,20,8,7,6,3,0,1,2] [1026,3]] [yI (openN_ret (shK s d.peer) d.box),yI (valR_bytes (openD (shK s d.peer) [] d.box))] ?_
 refine zS ?_
 refine zP 1 [yH [(1,yV (ao false))]] [.keep [30,9,10,20,8,7,6,3,0,1,2] [1026,3]] [yB (ao (openE (shK s d.peer) [] d.box != (0:Int))=ao false) (by simp [h2])] ?_
 refine zF 30 ?_
 refine zK ?_
 refine then_n ?_
 refine zP 1 [yH [(3,yV (AV.tup [aw (shK s d.target),ai (shE d.target)]))]] [.keep [9,8,30,10,20,7,6,3,0,1,2] [1026,3]] [yI (sharedx_ret s d.target)] ?_
 refine zS ?_
 refine zQ 1 [yH [(1,yV (ao false))]] [yB (ao (shE d.target != (0:Int))=ao false) (by simp [h3])] ?_
 refine zF 40 ?_
 refine zK ?_
 refine then_n ?_
 refine zP 1 [yH [(3,yV (AV.tup [AV.own 1 (bytesA (sealD (shK s d.target) n [] (openD (shK s d.peer) [] d.box))),ai (sealE [] (openD (shK s d.peer) [] d.box))]))]] [.keep [9,11,40,8,30,10,20,7,6,3,0,1,2] [1046,1026,3]] [yI (sealN_ret (shK s d.target) n (openD (shK s d.peer) [] d.box)),yI (valR_bytes (sealD (shK s d.target) n [] (openD (shK s d.peer) [] d.box)))] ?_
 refine zS ?_
 refine zP 1 [yH [(1,yV (ao false))]] [.keep [50,9,11,40,8,30,10,20,7,6,3,0,1,2] [1046,1026,3]] [yB (ao (sealE [] (openD (shK s d.peer) [] d.box) != (0:Int))=ao false) (by simp [h4])] ?_
 refine zF 50 ?_
 refine zK ?_
 refine then_n ?_
 refine zQ 1 [{}] [] ?_
 refine zR ?_
 refine zV [yB (bytesA (sealD (shK s d.target) n [] (openD (shK s d.peer) [] d.box))=bytesA (rslD d s n)) (by rw [e2]),yJ 0 (rslE d s n) (by rw [e1,h4])]
def bysC (r:List UInt8):List AV:=[.sl 1 (bytesA r)]
theorem bys_at {l:List (List UInt8)} {i:Nat} (h:i<l.length):(encA bysC l)[i]?=some (.sl 1 (bytesA (l.getD i default))):=by
 have:=encA_at (f:=bysC) (e:=1) (l:=l) (k:=i) (j:=0) (fun _=>rfl) h (c:=.sl 1 (bytesA (l.getD i default))) rfl
 simpa using this
section
variable (d:Dep) (hs shs:List (List UInt8))
def pts (i:Nat):List Sh:=(List.range i).map fun k=>(idxS d.holders (hs.getD k default)+1,shs.getD k default)
theorem pts_len (i:Nat):(pts d hs shs i).length=i:=by simp [pts]
theorem pts_snoc (i:Nat):encA shareC (pts d hs shs i)++ [ai (idxS d.holders (hs.getD i default)+1),.sl 1 (bytesA (shs.getD i default))]=encA shareC (pts d hs shs (i+1)):=by
 have:pts d hs shs (i+1)=pts d hs shs i++ [(idxS d.holders (hs.getD i default)+1,shs.getD i default)]:=by simp [pts,List.range_succ]
 rw [this,←encA_app];rfl
def lpE (k:Nat):Int:=if chkD d (hs.getD k default) (shs.getD k default)≠0 then chkD d (hs.getD k default) (shs.getD k default) else if hs.getD k default∈hs.take k then 10 else 0
def lpF:Nat->Int
 | 0=>0
 | n+1=>if lpF n≠0 then lpF n else lpE d hs shs n
theorem lpF_stay {m:Nat} {e:Int} (he:e≠0) (h:lpF d hs shs m=e):∀n,m≤n->lpF d hs shs n=e
 | 0,hn=>by
  have:m=0:=by omega
  subst this;exact h
 | n+1,hn=>by
  by_cases hm:m=n+1
  ·subst hm;exact h
  ·have:=lpF_stay he h n (by omega)
   unfold lpF
   rw [this,if_pos he]
end
def rstE (g:Grp) (p:UInt64) (hs shs:List (List UInt8)) (n:UInt64):Int :=
 if retE g.deps p≠0 then retE g.deps p else if shs.length≠hs.length then 4 else if lpF (retD g.deps p) hs shs hs.length≠0 then lpF (retD g.deps p) hs shs hs.length
 else if (hs.length:Int)<(retD g.deps p).need then 41 else if atE (pts (retD g.deps p) hs shs hs.length) 0≠0∨(atD (pts (retD g.deps p) hs shs hs.length) 0).length≠8 then 4
 else if pubW (wordOf (atD (pts (retD g.deps p) hs shs hs.length) 0))≠p then 15 else rslE (retD g.deps p) (wordOf (atD (pts (retD g.deps p) hs shs hs.length) 0)) n
def rstD (g:Grp) (p:UInt64) (hs shs:List (List UInt8)) (n:UInt64):List UInt8:=if rstE g p hs shs n=0 then rslD (retD g.deps p) (wordOf (atD (pts (retD g.deps p) hs shs hs.length) 0)) n else []
theorem restore_ret (g:Grp) (p:UInt64) (hs shs:List (List UInt8)) (n:UInt64) (hg:g.deps.length≤1000000) (hH:(retD g.deps p).holders.length≤1000000) (hl:hs.length≤1000000) (hh:∀i,i<hs.length->(hs.getD i default).length≤1000) (hsh:∀i,i<shs.length->(shs.getD i default).length≤1000):Ret Tryz.prog 18 [.agg (grpC g),aw p,.sl 1 (encA strC hs),.sl 1 (encA bysC shs),aw n] (.tup [.own 1 (bytesA (rstD g p hs shs n)),ai (rstE g p hs shs n)]):=by
 have hll:(encA strC hs).length=hs.length:=by rw [encA_len (e:=1) (fun _=>rfl)];omega
 have hls:(encA bysC shs).length=shs.length:=by rw [encA_len (e:=1) (fun _=>rfl)];omega
 by_cases h1:retE g.deps p=0
 case neg =>
  have e1:rstE g p hs shs n=retE g.deps p:=by unfold rstE;rw [if_pos h1]
  have e2:rstD g p hs shs n= []:=by unfold rstD;rw [if_neg (by omega)]
  refine zO Tryz.func18 116 ?_
  refine zP 2 [{},yH [(2,{av:=some (AV.tup [AV.agg [aw ((retD g.deps p).pub),aw ((retD g.deps p).peer),AV.sl 1 (bytesA (retD g.deps p).box),AV.sl 1 (encA strC (retD g.deps p).holders),AV.sl 1 (wordsA (retD g.deps p).digests),ai ((retD g.deps p).need),aw ((retD g.deps p).target)],ai (retE g.deps p)]),b:=false})]] [.keep [13,12,11,10,5,0,1,2,3,4] [12,5]] [yI (returned_ret g p (by assumption)),yL 7 7] ?_
  refine zS ?_
  refine zQ 1 [yH [(1,yV (ao true))]] [yB (ao (retE g.deps p != (0:Int))=ao true) (by simp [h1])] ?_
  refine zT 30 ?_
  refine zP 1 [{}] [.keep [11,10,30,13,12,5,0,1,2,3,4] [12,5]] [] ?_
  refine zR ?_
  refine then_r ?_
  refine zV [yB (bytesA (rstD g p hs shs n)= []) (by rw [e2];rfl),yJ (retE g.deps p) (rstE g p hs shs n) (by rw [e1])]
 by_cases h2:shs.length=hs.length
 case neg =>
  have e1:rstE g p hs shs n=4:=by unfold rstE;rw [if_neg (by omega),if_pos h2]
  have e2:rstD g p hs shs n= []:=by unfold rstD;rw [if_neg (by omega)]
  refine zO Tryz.func18 116 ?_
  refine zP 2 [{},yH [(2,{av:=some (AV.tup [AV.agg [aw ((retD g.deps p).pub),aw ((retD g.deps p).peer),AV.sl 1 (bytesA (retD g.deps p).box),AV.sl 1 (encA strC (retD g.deps p).holders),AV.sl 1 (wordsA (retD g.deps p).digests),ai ((retD g.deps p).need),aw ((retD g.deps p).target)],ai (retE g.deps p)]),b:=false})]] [.keep [13,12,11,10,5,0,1,2,3,4] [12,5]] [yI (returned_ret g p (by assumption)),yL 7 7] ?_
  refine zS ?_
  refine zQ 1 [yH [(1,yV (ao false))]] [yB (ao (retE g.deps p != (0:Int))=ao false) (by simp [h1])] ?_
  refine zF 30 ?_
  refine zK ?_
  refine then_n ?_
  refine zS ?_
  refine zP 1 [yH [(1,{k:=(encA bysC shs).length}),(3,{k:=(encA strC hs).length}),(4,yV (ao true))]] [.keep [36,30,13,12,11,10,5,0,1,2,3,4] [12,5]] [yR ((encA bysC shs).length),yR ((encA strC hs).length),yB (ao ((↑(encA bysC shs).length:Int) != (↑(encA strC hs).length:Int))=ao true) (by simp;omega)] ?_
  refine zT 36 ?_
  refine zQ 1 [{}] [] ?_
  refine zR ?_
  refine then_r ?_
  refine zV [yB (bytesA (rstD g p hs shs n)= []) (by rw [e2];rfl),yJ 4 (rstE g p hs shs n) (by rw [e1])]
 refine zO Tryz.func18 116 ?_
 refine zP 2 [{},yH [(2,{av:=some (AV.tup [AV.agg [aw ((retD g.deps p).pub),aw ((retD g.deps p).peer),AV.sl 1 (bytesA (retD g.deps p).box),AV.sl 1 (encA strC (retD g.deps p).holders),AV.sl 1 (wordsA (retD g.deps p).digests),ai ((retD g.deps p).need),aw ((retD g.deps p).target)],ai (retE g.deps p)]),b:=false})]] [.keep [13,12,11,10,5,0,1,2,3,4] [12,5]] [yI (returned_ret g p (by assumption)),yL 7 7] ?_
 refine zS ?_
 refine zQ 1 [yH [(1,yV (ao false))]] [yB (ao (retE g.deps p != (0:Int))=ao false) (by simp [h1])] ?_
 refine zF 30 ?_
 refine zK ?_
 refine then_n ?_
 refine zS ?_
 refine zP 1 [yH [(1,{k:=(encA bysC shs).length}),(3,{k:=(encA strC hs).length}),(4,yV (ao false))]] [.keep [36,30,13,12,11,10,5,0,1,2,3,4] [12,5]] [yR ((encA bysC shs).length),yR ((encA strC hs).length),yB (ao ((↑(encA bysC shs).length:Int) != (↑(encA strC hs).length:Int))=ao false) (by simp;omega)] ?_
 refine zF 36 ?_
 refine zK ?_
 refine then_n ?_
 refine AWP.regsP 1 [{hs:=[(1,{k:=(encA bysC shs).length}),(2,{k:=0,m:=(encA bysC shs).length})]}] [.keep [14,36,30,13,12,11,10,5,0,1,2,3,4] [39,12,5]] (by kernel_rfl) (s':=AS.mk [(14,AV.ref 39),(36,ao false),(30,ao false),(13,ai (retE g.deps p)),(12,AV.addr 12 0),(11,ai 0),(10,AV.nil),(5,AV.addr 5 0),(0,AV.agg [ai g.epoch,aw g.head,ai g.thr,AV.sl 4 (encA memC g.mems),AV.sl 7 (encA depC g.deps)]),(1,aw p),(2,AV.sl 1 (encA strC hs)),(3,AV.sl 1 (encA bysC shs)),(4,aw n)] [(39,Row.mk 2 true false (List.replicate (0:Nat) [ai 0,AV.nil]).flatten),(12,Row.mk 1 false true [aw ((retD g.deps p).pub),aw ((retD g.deps p).peer),AV.sl 1 (bytesA (retD g.deps p).box),AV.sl 1 (encA strC (retD g.deps p).holders),AV.sl 1 (wordsA (retD g.deps p).digests),ai ((retD g.deps p).need),aw ((retD g.deps p).target)]),(5,Row.mk 1 false true (List.map (kill0 (39:Nat)) (List.map (kill0 (12:Nat)) (List.map (kill0 (5:Nat)) (grpC g)))))]) (C:=[(encA bysC shs).length=(encA bysC shs).length,(0:Int)=(↑(0:Nat):Int),(↑(encA bysC shs).length:Int)=(↑(encA bysC shs).length:Int),(0:Nat)≤(encA bysC shs).length,(32:Nat)*(encA bysC shs).length≤(281474976710656:Nat),(encA bysC shs).length≤maxLen]) (by kernel_rfl) ⟨(by simp [h1]),(by simp [h1]),(by simp [h1]),(by simp [h1]),(by omega),(by unfold maxLen;omega),trivial⟩ ?_
 refine AWP.mkMap (t:=102) (d:=40) (e:=15) (by kernel_rfl) (by kernel_rfl) (by kernel_rfl) (by kernel_rfl) fun mg=>?_
 generalize hd:retD g.deps p=d at *
 refine AWPm.seq (by kernel_rfl) ?_
 refine AWPm.reg1 (by kernel_rfl) ?_
 refine zX (yH [(1,{k:=(encA strC hs).length})]) [yR ((encA strC hs).length)] ?_
 refine thenM_n ?_
 refine AWPm.block (id:=0) (by kernel_rfl) ?_
 refine AWPm.loop (fun (i:Nat)=>(⟨[(14,AV.ref 39),(12,AV.addr 12 0),(11,ai 0),(10,AV.nil),(1,aw p),(2,AV.sl 1 (encA strC hs)),(3,AV.sl 1 (encA bysC shs)),(4,aw n),(15,AV.val (.map (some mg))),(41,AV.sl 1 (encA strC hs)),(42,ai (encA strC hs).length),(43,ai i)],[(39,⟨2,true,false,encA shareC (pts d hs shs i)⟩),(12,⟨1,false,true,depC d⟩)]⟩:AS)) (fun i=>hs.take i) (fun i=>i≤hs.length∧lpF d hs shs i=0) (fun i=>hs.length-i) (by kernel_rfl) 0 ⟨by omega,rfl⟩ rfl (zW [.keep [14,12,11,10,1,2,3,4,15,41,42,43] [39,12]]) ?_
 rintro i ⟨hi,h0⟩
 refine AWPm.reg1 (by kernel_rfl) ?_
 refine zX {} [] ?_
 refine thenM_n ?_
 refine AWPm.seq (by kernel_rfl) ?_
 refine AWPm.cond (x:=.tmp 44) (b:=decide ((i:Int)<(encA strC hs).length)) (by kernel_rfl) (by kernel_rfl) (fun h=>?_) (fun h=>?_)
 ·have h:=of_decide_eq_true h
  have hi2:i<hs.length:=by omega
  have hA:=hh i hi2
  have hB:=hsh i (by omega)
  have hat:=strs_at hi2
  have hbt:=bys_at (l:=shs) (i:=i) (by omega)
  refine AWPm.skip (by kernel_rfl) ?_
  refine thenM_n ?_
  refine AWPm.seq (by kernel_rfl) ?_
  refine AWPm.block (id:=1) (by kernel_rfl) ?_
  refine AWPm.reg1 (by kernel_rfl) ?_
  refine zX (yH [(1,{k:=i}),(2,yV (AV.val (Value.string (ByteArray.mk (hs.getD i default).toArray))))]) [yR (↑i:Int),yO (i<(encA strC hs).length),yB ((encA strC hs)[i]?=some (AV.val (Value.string (ByteArray.mk (hs.getD i default).toArray)))) (by assumption)] ?_
  refine thenM_n ?_
  refine AWPm.reg1 (by kernel_rfl) ?_
  by_cases hc:chkD d (hs.getD i default) (shs.getD i default)=0
  case neg =>
   have k1:lpE d hs shs i=chkD d (hs.getD i default) (shs.getD i default):=by unfold lpE;rw [if_pos hc]
   have k2:lpF d hs shs (i+1)=lpE d hs shs i:=by show (if _ then _ else _)=_;rw [if_neg (by omega)]
   have k3:=lpF_stay d hs shs (by omega) k2 hs.length (by omega)
   have e1:rstE g p hs shs n=chkD d (hs.getD i default) (shs.getD i default):=by unfold rstE;rw [if_neg (by omega),if_neg (by omega),hd,if_pos (by omega),k3,k1]
   have e2:rstD g p hs shs n= []:=by unfold rstD;rw [if_neg (by omega)]
   refine zP 2 [{hs:=[(4,{k:=i}),(5,yV (AV.sl 1 (bytesA (shs.getD i default)))),(6,yV (ai (chkD d (hs.getD i default) (shs.getD i default))))],T:=6},{}] [.keep [56,18,17,16,44,14,12,11,10,1,2,3,4,15,41,42,43] [39,12]] [yR (↑i:Int),yO (i<(encA bysC shs).length),yB ((encA bysC shs)[i]?=some (AV.sl 1 (bytesA (shs.getD i default)))) (by assumption),yI (rcheck_ret d (hs.getD i default) (shs.getD i default) (by assumption) (by assumption))] ?_
   refine zTb 56 (chkD d (hs.getD i default) (shs.getD i default) != (0:Int)) (by simp_all) ?_
   refine zP 1 [{}] [.keep [11,10,56,18,17,16,44,14,12,1,2,3,4,15,41,42,43] [39,12]] [] ?_
   refine zR ?_
   refine thenM_r (inbM_r (thenM_r (thenM_r (inbM_r (thenM_r ?_)))))
   refine zV [yB (bytesA (rstD g p hs shs n)= []) (by rw [e2];rfl),yJ (chkD d (hs.getD i default) (shs.getD i default)) (rstE g p hs shs n) (by rw [e1])]
  refine zP 2 [{hs:=[(4,{k:=i}),(5,yV (AV.sl 1 (bytesA (shs.getD i default)))),(6,yV (ai (chkD d (hs.getD i default) (shs.getD i default))))],T:=6},{}] [.keep [56,18,17,16,44,14,12,11,10,1,2,3,4,15,41,42,43] [39,12]] [yR (↑i:Int),yO (i<(encA bysC shs).length),yB ((encA bysC shs)[i]?=some (AV.sl 1 (bytesA (shs.getD i default)))) (by assumption),yI (rcheck_ret d (hs.getD i default) (shs.getD i default) (by assumption) (by assumption))] ?_
  refine zFb 56 (chkD d (hs.getD i default) (shs.getD i default) != (0:Int)) (by simp_all) ?_
  refine zK ?_
  refine thenM_n ?_
  refine AWPm.seq (by kernel_rfl) ?_
  refine AWPm.look (t:=102) (kt:=9) (et:=4) (m:=15) (k:=17) (d1:=58) (d2:=59) (d3:=60) (x:=hs.getD i default) (by kernel_rfl) (by kernel_rfl) (by kernel_rfl) (by kernel_rfl) (by kernel_rfl) Tryz.underlying102 Tryz.underlying9 Tryz.zeroValue4 (by kernel_rfl) (by kernel_rfl) ?_
  refine AWPm.cond (x:=.tmp 60) (b:=decide (hs.getD i default∈hs.take i)) (by kernel_rfl) (by kernel_rfl) (fun hm=>?_) (fun hm=>?_)
  ·have hm:=of_decide_eq_true hm
   have k1:lpE d hs shs i=10:=by unfold lpE;rw [if_neg (by omega),if_pos hm]
   have k2:lpF d hs shs (i+1)=lpE d hs shs i:=by show (if _ then _ else _)=_;rw [if_neg (by omega)]
   have k3:=lpF_stay d hs shs (by omega) k2 hs.length (by omega)
   have e1:rstE g p hs shs n=10:=by unfold rstE;rw [if_neg (by omega),if_neg (by omega),hd,if_pos (by omega),k3,k1]
   have e2:rstD g p hs shs n= []:=by unfold rstD;rw [if_neg (by omega)]
   refine AWPm.plain ?_
   refine zP 1 [{}] [.keep [11,10,60,56,18,17,16,44,14,12,1,2,3,4,15,41,42,43] [39,12]] [] ?_
   refine zR ?_
   refine thenM_r (inbM_r (thenM_r (thenM_r (inbM_r (thenM_r ?_)))))
   refine zV [yB (bytesA (rstD g p hs shs n)= []) (by rw [e2];rfl),yJ 10 (rstE g p hs shs n) (by rw [e1])]
  have hm:=of_decide_eq_false hm
  have k1:lpE d hs shs i=0:=by unfold lpE;rw [if_neg (by omega),if_neg hm]
  have k2:lpF d hs shs (i+1)=0:=by show (if _ then _ else _)=_;rw [if_neg (by omega),k1]
  have hix:0≤idxS d.holders (hs.getD i default)∧idxS d.holders (hs.getD i default)<1000000:=by
   rcases idx_cases d.holders (hs.getD i default) with q|⟨j,q,hj,_⟩
   ·exact absurd hc (by unfold chkD;rw [if_pos (by omega)];omega)
   ·omega
  have hpl:=pts_len d hs shs i
  have hpe:(encA shareC (pts d hs shs i)).length=i*2:=by rw [encA_len (e:=2) (fun _=>rfl),hpl]
  have hsn:=pts_snoc d hs shs i
  refine AWPm.skip (by kernel_rfl) ?_
  refine thenM_n ?_
  refine AWPm.upd (t:=102) (kt:=9) (et:=4) (m:=15) (k:=17) (d1:=61) (d2:=62) (x:=hs.getD i default) (by kernel_rfl) (by kernel_rfl) (by kernel_rfl) (by kernel_rfl) Tryz.underlying102 Tryz.underlying9 (by kernel_rfl) (by kernel_rfl) hm ?_
  refine AWPm.plain ?_
  refine zX ({hs:=[(4,yV (ai (idxS d.holders (hs.getD i default)))),(5,yV (ai (idxS d.holders (hs.getD i default)+1))),(8,{k:=i}),(9,yV (AV.sl 1 (bytesA (shs.getD i default)))),(12,yV (AV.arr (encA shareC (pts d hs shs (i+(1:Nat))))))],T:=12}) [yI (sidx_ret d.holders (hs.getD i default)),yN (idxS d.holders (hs.getD i default)+1),yR (↑i:Int),yO (i<(encA bysC shs).length),yB ((encA bysC shs)[i]?=some (AV.sl 1 (bytesA (shs.getD i default)))) (by assumption),yI hsn,yO (((encA shareC (pts d hs shs i)).length+(2:Nat))*(32:Nat)≤(281474976710656:Nat))] ?_
  refine inbM_n ?_
  refine thenM_n ?_
  refine AWPm.round ?_
  refine zX (yH [(0,yV (ai ((↑i:Int)+1)))]) [yN ((↑i:Int)+1)] ?_
  refine round_n (i+1) ⟨⟨by omega,k2⟩,by rw [List.take_succ_eq_append_getElem hi2,List.getD_eq_getElem?_getD,List.getElem?_eq_getElem hi2];rfl⟩ (by omega) (zW [.ren 75 39,.keep [14,12,11,10,1,2,3,4,15,41,42,43] [39,12]])
 ·have e:i=hs.length:=by have:=of_decide_eq_false h;omega
  subst e
  refine AWPm.exit (id:=0) (by kernel_rfl) ?_
  refine thenM_x ?_
  refine thenM_x ?_
  refine inbM_x ?_
  refine thenM_n ?_
  refine AWPm.done ?_
  by_cases h3:(hs.length:Int)<d.need
  ·have e1:rstE g p hs shs n=41:=by unfold rstE;rw [if_neg (by omega),if_neg (by omega),hd,if_neg (by omega),if_pos h3]
   have e2:rstD g p hs shs n= []:=by unfold rstD;rw [if_neg (by omega)]
   refine zS ?_
   refine zP 1 [yH [(1,{k:=(encA strC hs).length})]] [.keep [81,44,14,12,11,10,1,2,3,4,15,41,42,43] [39,12]] [yR ((encA strC hs).length)] ?_
   refine zTd 81 ((↑(encA strC hs).length:Int)<d.need) ?_
   refine zQ 1 [{}] [] ?_
   refine zR ?_
   refine then_r ?_
   refine zV [yB (bytesA (rstD g p hs shs n)= []) (by rw [e2];rfl),yJ 41 (rstE g p hs shs n) (by rw [e1])]
  by_cases h4:atE (pts d hs shs hs.length) 0=0
  case neg =>
   have e1:rstE g p hs shs n=4:=by unfold rstE;rw [if_neg (by omega),if_neg (by omega),hd,if_neg (by omega),if_neg h3,if_pos (.inl h4)]
   have e2:rstD g p hs shs n= []:=by unfold rstD;rw [if_neg (by omega)]
   refine zS ?_
   refine zP 1 [yH [(1,{k:=(encA strC hs).length})]] [.keep [81,44,14,12,11,10,1,2,3,4,15,41,42,43] [39,12]] [yR ((encA strC hs).length)] ?_
   refine zFd 81 ((↑(encA strC hs).length:Int)<d.need) ?_
   refine zK ?_
   refine then_n ?_
   refine zP 1 [yH [(1,yV (AV.tup [AV.own 1 (bytesA (atD (pts d hs shs hs.length) (0:Int))),ai (atE (pts d hs shs hs.length) (0:Int))]))]] [.keep [13,19,81,44,14,12,11,10,1,2,3,4,15,41,42,43] [1084,39,12]] [yI (join_ret (pts d hs shs hs.length)),yI (valR_bytes (atD (pts d hs shs hs.length) (0:Int)))] ?_
   refine zS ?_
   refine zP 1 [yH [(1,yV (ao true))]] [.keep [93,13,19,81,44,14,12,11,10,1,2,3,4,15,41,42,43] [1084,39,12]] [yB (ao (atE (pts d hs shs hs.length) (0:Int) != (0:Int))=ao true) (by simp [h4]),yR true,yR true,yR true,yR true] ?_
   refine zT 93 ?_
   refine zQ 1 [{}] [] ?_
   refine zR ?_
   refine then_r ?_
   refine zV [yB (bytesA (rstD g p hs shs n)= []) (by rw [e2];rfl),yJ 4 (rstE g p hs shs n) (by rw [e1])]
  by_cases h5:(atD (pts d hs shs hs.length) 0).length=8
  case neg =>
   have e1:rstE g p hs shs n=4:=by unfold rstE;rw [if_neg (by omega),if_neg (by omega),hd,if_neg (by omega),if_neg h3,if_pos (.inr h5)]
   have e2:rstD g p hs shs n= []:=by unfold rstD;rw [if_neg (by omega)]
   refine zS ?_
   refine zP 1 [yH [(1,{k:=(encA strC hs).length}),(4,yV (ao false))]] [.keep [81,44,14,12,11,10,1,2,3,4,15,41,42,43] [39,12]] [yR ((encA strC hs).length),yB (ao (decide ((↑(encA strC hs).length:Int)<d.need))=ao false) (by simp;omega)] ?_
   refine zF 81 ?_
   refine zK ?_
   refine then_n ?_
   refine zP 1 [yH [(1,yV (AV.tup [AV.own 1 (bytesA (atD (pts d hs shs hs.length) (0:Int))),ai (atE (pts d hs shs hs.length) (0:Int))]))]] [.keep [13,19,81,44,14,12,11,10,1,2,3,4,15,41,42,43] [1084,39,12]] [yI (join_ret (pts d hs shs hs.length)),yI (valR_bytes (atD (pts d hs shs hs.length) (0:Int)))] ?_
   refine zS ?_
   refine zP 1 [yH [(1,yV (ao false)),(3,{g:=false}),(4,{k:=(atD (pts d hs shs hs.length) (0:Int)).length,g:=false}),(5,{av:=some (ao true),g:=false}),(6,{b:=false})]] [.keep [93,13,19,81,44,14,12,11,10,1,2,3,4,15,41,42,43] [1084,39,12]] [yB (ao (atE (pts d hs shs hs.length) (0:Int) != (0:Int))=ao false) (by simp [h4]),yR false,yR false,yI (bytesA_len (atD (pts d hs shs hs.length) (0:Int))),yR false,yB (ao ((↑(atD (pts d hs shs hs.length) (0:Int)).length:Int) != (8:Int))=ao true) (by simp;omega),yR false] ?_
   refine zT 93 ?_
   refine zQ 1 [{}] [] ?_
   refine zR ?_
   refine then_r ?_
   refine zV [yB (bytesA (rstD g p hs shs n)= []) (by rw [e2];rfl),yJ 4 (rstE g p hs shs n) (by rw [e1])]
  have f1:rstE g p hs shs n=if pubW (wordOf (atD (pts d hs shs hs.length) 0))≠p then 15 else rslE d (wordOf (atD (pts d hs shs hs.length) 0)) n:=by
   unfold rstE
   rw [if_neg (by omega),if_neg (by omega),hd,if_neg (by omega),if_neg h3,if_neg (by rintro (q|q);exact q h4;exact q h5)]
  have f2:rstD g p hs shs n=if rstE g p hs shs n=0 then rslD d (wordOf (atD (pts d hs shs hs.length) 0)) n else []:=by unfold rstD;rw [hd]
  refine zS ?_
  refine zP 1 [yH [(1,{k:=(encA strC hs).length}),(4,yV (ao false))]] [.keep [81,44,14,12,11,10,1,2,3,4,15,41,42,43] [39,12]] [yR ((encA strC hs).length),yB (ao (decide ((↑(encA strC hs).length:Int)<d.need))=ao false) (by simp;omega)] ?_
  refine zF 81 ?_
  refine zK ?_
  refine then_n ?_
  refine zP 1 [yH [(1,yV (AV.tup [AV.own 1 (bytesA (atD (pts d hs shs hs.length) (0:Int))),ai (atE (pts d hs shs hs.length) (0:Int))]))]] [.keep [13,19,81,44,14,12,11,10,1,2,3,4,15,41,42,43] [1084,39,12]] [yI (join_ret (pts d hs shs hs.length)),yI (valR_bytes (atD (pts d hs shs hs.length) (0:Int)))] ?_
  refine zS ?_
  refine zP 1 [yH [(1,yV (ao false)),(3,{g:=false}),(4,{k:=(atD (pts d hs shs hs.length) (0:Int)).length,g:=false}),(5,{av:=some (ao false),g:=false}),(6,{b:=false})]] [.keep [93,13,19,81,44,14,12,11,10,1,2,3,4,15,41,42,43] [1084,39,12]] [yB (ao (atE (pts d hs shs hs.length) (0:Int) != (0:Int))=ao false) (by simp [h4]),yR false,yR false,yI (bytesA_len (atD (pts d hs shs hs.length) (0:Int))),yR false,yB (ao ((↑(atD (pts d hs shs hs.length) (0:Int)).length:Int) != (8:Int))=ao false) (by simp;omega),yR false] ?_
  refine zF 93 ?_
  refine zK ?_
  refine then_n ?_
  refine zQ 1 [{}] [] ?_
  refine zS ?_
  refine AWP.regsK 1 [{hs:=[(1,{k:=(atD (pts d hs shs hs.length) (0:Int)).length})]}] (by kernel_rfl) (s':=AS.mk [(96,ai 0),(95,ai (↑(atD (pts d hs shs hs.length) (0:Int)).length:Int)),(94,AV.ref 1084),(20,au0),(93,ao false),(13,ai (atE (pts d hs shs hs.length) (0:Int))),(19,AV.ref 1084),(81,ao false),(44,ao (decide ((↑hs.length:Int)<(↑(encA strC hs).length:Int)))),(14,AV.ref 39),(12,AV.addr 12 0),(11,ai 0),(10,AV.nil),(1,aw p),(2,AV.sl 1 (encA strC hs)),(3,AV.sl 1 (encA bysC shs)),(4,aw n),(15,AV.val (Value.map (some mg))),(41,AV.sl 1 (encA strC hs)),(42,ai (↑(encA strC hs).length:Int)),(43,ai (↑hs.length:Int))] [(1084,Row.mk 1 true false (bytesA (atD (pts d hs shs hs.length) (0:Int)))),(39,Row.mk 2 true false (encA shareC (pts d hs shs hs.length))),(12,Row.mk 1 false true (List.map (kill0 (1084:Nat)) (depC d)))]) (C:=[(bytesA (atD (pts d hs shs hs.length) (0:Int))).length=(atD (pts d hs shs hs.length) (0:Int)).length]) (by kernel_rfl) ⟨(bytesA_len _),trivial⟩ ?_
  refine zB 2 ?_
  generalize hB:atD (pts d hs shs hs.length) 0=B at *
  refine zL (fun (i:Nat)=>(⟨[(95,ai (↑B.length:Int)),(94,AV.ref 1084),(93,ao false),(13,ai (atE (pts d hs shs hs.length) (0:Int))),(19,AV.ref 1084),(81,ao false),(44,ao (decide ((↑hs.length:Int)<(↑(encA strC hs).length:Int)))),(14,AV.ref 39),(12,AV.addr 12 0),(11,ai 0),(10,AV.nil),(1,aw p),(2,AV.sl 1 (encA strC hs)),(3,AV.sl 1 (encA bysC shs)),(4,aw n),(15,AV.val (Value.map (some mg))),(41,AV.sl 1 (encA strC hs)),(42,ai (↑(encA strC hs).length:Int)),(43,ai (↑hs.length:Int)),(96,ai i),(20,aw (wordOf (B.take i)))],[(1084,⟨1,true,false,bytesA B⟩),(39,⟨2,true,false,encA shareC (pts d hs shs hs.length)⟩),(12,⟨1,false,true,List.map (kill0 (1084:Nat)) (depC d)⟩)]⟩:AS)) (fun i=>(i≤8)) (fun i=>(8-i)) (0) ?_ (zW [.keep [95,94,93,13,19,81,44,14,12,11,10,1,2,3,4,15,41,42,43,96,20] [1084,39,12]]) ?_
  ·omega
  intro i hi
  refine zQ 1 [{}] [] ?_
  refine zS ?_
  refine zD 97 ((↑i:Int)<(↑B.length:Int)) (fun q=>?_) (fun q=>?_)
  ·have hw:=wordOf_take (b:=B) (i:=i) (by omega)
   refine zK ?_
   refine then_n ?_
   refine zS ?_
   refine zB 3 ?_
   refine zP 1 [yH [(0,{k:=i}),(1,yV (ab (B.getD i 0)))]] [.keep [22,97,95,94,93,13,19,81,44,14,12,11,10,1,2,3,4,15,41,42,43,96,20] [1084,39,12]] [yR (↑i:Int),yB (i<(bytesA B).length) (by simp only [bytesA_len];omega),yB ((bytesA B)[i]?=some (ab (B.getD i 0))) (bytesA_at (by omega))] ?_
   refine zX (yH [(1,yV (aw (wordOf (List.take i B)<<<(8:UInt64)))),(3,yV (aw ((B.getD i 0).toUInt64))),(4,yV (aw (wordOf (List.take i B)<<<(8:UInt64)|||(B.getD i 0).toUInt64)))]) [yI (avw_shl (wordOf (List.take i B)) ((8:Int)) (by omega) (by omega)),yO ((0:Int)≤8),yI (avw_bv (B.getD i 0)),yI (avw_or (wordOf (List.take i B)<<<(8:UInt64)) ((B.getD i 0).toUInt64))] ?_
   refine inb_n ?_
   refine then_n ?_
   refine zX (yH [(0,yV (ai ((↑i:Int)+1)))]) [yN ((↑i:Int)+1)] ?_
   refine round_n (i+1) (by omega) (by omega) (Weaks.of [.keep [95,94,93,13,19,81,44,14,12,11,10,1,2,3,4,15,41,42,43,96,20] [1084,39,12]] (s1:=AS.mk [(95,ai (↑B.length:Int)),(94,AV.ref 1084),(93,ao false),(13,ai (atE (pts d hs shs hs.length) (0:Int))),(19,AV.ref 1084),(81,ao false),(44,ao (decide ((↑hs.length:Int)<(↑(encA strC hs).length:Int)))),(14,AV.ref 39),(12,AV.addr 12 0),(11,ai 0),(10,AV.nil),(1,aw p),(2,AV.sl 1 (encA strC hs)),(3,AV.sl 1 (encA bysC shs)),(4,aw n),(15,AV.val (Value.map (some mg))),(41,AV.sl 1 (encA strC hs)),(42,ai (↑(encA strC hs).length:Int)),(43,ai (↑hs.length:Int)),(96,ai ((↑i:Int)+1)),(20,aw (wordOf (List.take i B)<<<(8:UInt64)|||(B.getD i 0).toUInt64))] [(1084,Row.mk 1 true false (bytesA B)),(39,Row.mk 2 true false (encA shareC (pts d hs shs hs.length))),(12,Row.mk 1 false true (List.map (kill0 (1084:Nat)) (depC d)))]) (by kernel_rfl) (as_eq (f_cons rfl (f_cons rfl (f_cons rfl (f_cons rfl (f_cons rfl (f_cons rfl (f_cons rfl (f_cons rfl (f_cons rfl (f_cons rfl (f_cons rfl (f_cons rfl (f_cons rfl (f_cons rfl (f_cons rfl (f_cons rfl (f_cons rfl (f_cons rfl (f_cons rfl (f_cons rfl (f_cons (congrArg aw hw) rfl))))))))))))))))))))) (h_cons rfl (h_cons rfl (h_cons rfl rfl)))))
  ·have e:i=8:=by omega
   subst e
   have e8:B.take 8=B:=List.take_of_length_le (by omega)
   by_cases h6:pubW (wordOf B)=p
   ·rw [if_neg (by simpa using h6)] at f1
    have e2:rstD g p hs shs n=rslD d (wordOf B) n:=by
     rw [f2,f1]
     split
     ·rfl
     ·rename_i hne;unfold rslD;rw [if_neg hne]
    refine zE 2 ?_
    refine then_e ?_
    refine round_e ?_
    refine inb_e ?_
    refine then_n ?_
    refine zS ?_
    refine zP 1 [yH [(1,yV (aw (pubW (wordOf (List.take 8 B))))),(3,yV (ao (pubW (wordOf (List.take 8 B)) != p)))]] [.keep [109,97,95,94,93,13,19,81,44,14,12,11,10,1,2,3,4,15,41,42,43,96,20] [1084,39,12]] [yI (pubx_ret (wordOf (List.take 8 B))),yI (avw_ne (pubW (wordOf (List.take 8 B))) p)] ?_
    refine zFb 109 (pubW (wordOf (List.take 8 B)) != p) (by simp_all) ?_
    refine zK ?_
    refine then_n ?_
    refine zP 1 [yH [(3,yV (AV.tup [AV.own 1 (bytesA (rslD d (wordOf (List.take 8 B)) n)),ai (rslE d (wordOf (List.take 8 B)) n)]))]] [.keep [11,10,109,97,95,94,93,13,19,81,44,14,12,1,2,3,4,15,41,42,43,96,20] [1113,1084,39,12]] [yI (reseal_ret d (wordOf (List.take 8 B)) n),yI (valR_bytes (rslD d (wordOf (List.take 8 B)) n))] ?_
    refine zR ?_
    refine zV [yB (bytesA (rslD d (wordOf (List.take 8 B)) n)=bytesA (rstD g p hs shs n)) (by rw [e2,e8]),yJ (rslE d (wordOf (List.take 8 B)) n) (rstE g p hs shs n) (by rw [f1,e8])]
   ·rw [if_pos h6] at f1
    have e2:rstD g p hs shs n= []:=by rw [f2,if_neg (by omega)]
    refine zE 2 ?_
    refine then_e ?_
    refine round_e ?_
    refine inb_e ?_
    refine then_n ?_
    refine zS ?_
    refine zP 1 [yH [(1,yV (aw (pubW (wordOf (List.take 8 B))))),(3,yV (ao (pubW (wordOf (List.take 8 B)) != p)))]] [.keep [109,97,95,94,93,13,19,81,44,14,12,11,10,1,2,3,4,15,41,42,43,96,20] [1084,39,12]] [yI (pubx_ret (wordOf (List.take 8 B))),yI (avw_ne (pubW (wordOf (List.take 8 B))) p)] ?_
    refine zTb 109 (pubW (wordOf (List.take 8 B)) != p) (by simp_all) ?_
    refine zQ 1 [{}] [] ?_
    refine zR ?_
    refine then_r ?_
    refine zV [yB (bytesA (rstD g p hs shs n)= []) (by rw [e2];rfl),yJ 15 (rstE g p hs shs n) (by rw [f1])]
end Go.Proofs.YtejpabdmiagnnaaGreatDoor
