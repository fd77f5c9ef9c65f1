import Derived.Test.YtjgbhhnghedgdaaGreatDoorZsV8
import Derived.Test.YtjgbhhnghedgdaaGreatDoorZsGrow
import Derived.Test.YtjgbhhnghedgdaaGreatDoorZsCl
import Derived.Test.YtjgbhhnghedgdaaGreatDoorZsGr2
import Derived.Test.YtjgbhhnghedgdaaGreatDoorZsTk7
import Derived.Test.YtjgbhhnghedgdaaGreatDoorZsRQ
set_option linter.all false
namespace Go.Proofs.YtjgbhhnghedgdaaGreatDoor
open Go.RowKit
set_option maxRecDepth 100000
set_option maxHeartbeats 4000000
set_option linter.unusedVariables false
def memI (l:List Mem) (h:List UInt8):Int:=if (∃m∈l,m.name=h) then (l.findIdx (fun m=>m.name == h):Int) else -1
theorem memI_no {l:List Mem} {h:List UInt8} (hn:∀j,j<l.length->(l.getD j default).name≠h):memI l h= -1:=by
 unfold memI
 rw [if_neg]
 rintro ⟨m,hm,e⟩
 obtain ⟨j,hj,e2⟩:=List.getElem_of_mem hm
 exact hn j hj (by rw [List.getD_eq_getElem?_getD,List.getElem?_eq_getElem hj];show l[j].name=h;rw [e2];exact e)
theorem memI_at {l:List Mem} {h:List UInt8} {i:Nat} (hi:i<l.length) (hn:∀j,j<i->(l.getD j default).name≠h) (e:(l.getD i default).name=h):memI l h=i:=by
 rw [List.getD_eq_getElem?_getD,List.getElem?_eq_getElem hi] at e
 have e:l[i].name=h:=e
 unfold memI
 rw [if_pos ⟨l[i],List.getElem_mem hi,e⟩]
 have:l.findIdx (fun m=>m.name == h)=i:=(List.findIdx_eq hi).2 ⟨by simpa using e,fun j hj=>by
  have:=hn j hj
  rw [List.getD_eq_getElem?_getD,List.getElem?_eq_getElem (by omega)] at this
  simpa using this⟩
 rw [this]
end Go.Proofs.YtjgbhhnghedgdaaGreatDoor
namespace Go.Proofs.YtjgbhhnghedgdaaGreatDoor
open Go.RowKit
set_option maxRecDepth 100000
set_option maxHeartbeats 4000000
set_option linter.unusedVariables false
theorem gname1_ret (m:Mem) (h:List UInt8):Ret Tryz.prog 111 [.agg (memC m),.ptr [as_ h] 0] (ao (m.name == h)):=by
 refine zO Tryz.func111 8 ?_
 refine zP 2 [{},yH [(3,yV (ao (m.name == h)))]] [.keep [3,2,0,1] [2]] [yB (ao ((ByteArray.mk m.name.toArray).toList == (ByteArray.mk h.toArray).toList)=ao (m.name == h)) (str_eq (m.name) (h))] ?_
 refine zR ?_
 refine zV [yR (Value.bool (m.name == h))]
theorem gindex_ret (l:List Mem) (h:List UInt8) (hl0:l.length≤1000000):Ret Tryz.prog 110 [.sl 4 (encA memC l),.clo 111 [.ptr [as_ h] 0]] (ai (memI l h)):=by
 have hl:(encA memC l).length=l.length*4:=encA_len (e:=4) (fun _=>rfl) ..
 refine zO Tryz.func110 19 ?_
 refine zQ 1 [{}] [] ?_
 refine zS ?_
 refine zQ 1 [yH [(1,{k:=l.length})]] [yB ((encA memC l).length=l.length*(4:Nat)) (by assumption)] ?_
 refine zB 0 ?_
 refine zL (fun (i:Nat)=>(⟨[(7,ai (↑l.length:Int)),(0,AV.sl 4 (encA memC l)),(1,AV.clo (111:Nat) [AV.ptr [as_ h] (0:Nat)]),(8,ai i)],[]⟩:AS)) (fun i=>(i≤l.length∧ ∀j,j<i->(l.getD j default).name≠h)) (fun i=>(l.length-i)) (0) ?_ (zW [.keep [7,0,1,8] []]) ?_
 ·exact ⟨by omega,by omega⟩
 rintro i ⟨hi,hno⟩
 refine zQ 1 [{}] [] ?_
 refine zS ?_
 refine zD 9 ((↑i:Int)<(↑l.length:Int)) (fun g=>?_) (fun g=>?_)
 ·have hi2:i<l.length:=by omega
  have hc:=gname1_ret (l.getD i default) h
  by_cases e:(l.getD i default).name=h
  ·have hf:=memI_at hi2 hno e
   refine zK ?_
   refine then_n ?_
   refine zS ?_
   refine zB 1 ?_
   refine zP 2 [{},yH [(3,{k:=i}),(4,yV (AV.agg [AV.val (Value.string (ByteArray.mk (l.getD i default).name.toArray)),ai ((l.getD i default).h),aw ((l.getD i default).r),aw ((l.getD i default).used)])),(5,yV (ao ((l.getD i default).name == h)))]] [.keep [16,5,9,7,0,1,8] []] [yR (↑i:Int),yO (i*(4:Nat)<(encA memC l).length),yB (List.take 4 (List.drop (i*(4:Nat)) (encA memC l))= [AV.val (Value.string (ByteArray.mk (l.getD i default).name.toArray)),ai ((l.getD i default).h),aw ((l.getD i default).r),aw ((l.getD i default).used)]) (encA_sub (f:=memC) (e:=4) (k:=i) (j:=0) (fun _=>rfl) (by omega) (by decide) rfl),yB ([AV.val (Value.string (ByteArray.mk (l.getD i default).name.toArray)),ai ((l.getD i default).h),aw ((l.getD i default).r),aw ((l.getD i default).used)].length=(4:Nat)) (by simp [e]),yI (gname1_ret (l.getD i default) h)] ?_
   refine zTb 16 ((l.getD i default).name == h) (by simp_all) ?_
   refine zQ 1 [{}] [] ?_
   refine zR ?_
   refine inb_r ?_
   refine then_r ?_
   refine round_r ?_
   refine inb_r ?_
   refine then_r ?_
   refine zV [yJ (↑i:Int) (memI l h) (by rw [hf])]
  ·skip
   refine zK ?_
   refine then_n ?_
   refine zS ?_
   refine zB 1 ?_
   refine zP 2 [{},yH [(3,{k:=i}),(4,yV (AV.agg [AV.val (Value.string (ByteArray.mk (l.getD i default).name.toArray)),ai ((l.getD i default).h),aw ((l.getD i default).r),aw ((l.getD i default).used)])),(5,yV (ao ((l.getD i default).name == h)))]] [.keep [16,5,9,7,0,1,8] []] [yR (↑i:Int),yO (i*(4:Nat)<(encA memC l).length),yB (List.take 4 (List.drop (i*(4:Nat)) (encA memC l))= [AV.val (Value.string (ByteArray.mk (l.getD i default).name.toArray)),ai ((l.getD i default).h),aw ((l.getD i default).r),aw ((l.getD i default).used)]) (encA_sub (f:=memC) (e:=4) (k:=i) (j:=0) (fun _=>rfl) (by omega) (by decide) rfl),yB ([AV.val (Value.string (ByteArray.mk (l.getD i default).name.toArray)),ai ((l.getD i default).h),aw ((l.getD i default).r),aw ((l.getD i default).used)].length=(4:Nat)) (by simp [e]),yI (gname1_ret (l.getD i default) h)] ?_
   refine zFb 16 ((l.getD i default).name == h) (by simp_all) ?_
   refine zK ?_
   refine inb_n ?_
   refine then_n ?_
   refine zX (yH [(0,yV (ai ((↑i:Int)+1)))]) [yN ((↑i:Int)+1)] ?_
   refine round_n (i+1) ⟨by omega,fun j hj=>by by_cases e2:j=i;(subst e2;exact e);exact hno j (by omega)⟩ (by omega) (zW [.keep [7,0,1,8] []])
 ·have hf:=memI_no (l:=l) (h:=h) (fun j hj=>hno j (by omega))
  refine zE 0 ?_
  refine then_e ?_
  refine round_e ?_
  refine inb_e ?_
  refine then_n ?_
  refine zQ 1 [{}] [] ?_
  refine zR ?_
  refine zV [yJ (-1:Int) (memI l h) (by rw [hf])]
theorem gmem_ret (g:Grp) (h:List UInt8) (hl0:g.mems.length≤1000000):Ret Tryz.prog 61 [.agg (grpC g),as_ h] (ai (memI g.mems h)):=by
 refine zO Tryz.func61 9 ?_
 refine zP 2 [{},yH [(3,yV (ai (memI g.mems h)))]] [.keep [4,3,2,0,1] [2]] [yI (gindex_ret g.mems h (by assumption))] ?_
 refine zR ?_
 refine zV [yR (Value.int .i64 (memI g.mems h))]
structure Votes (g:Grp) (w:UInt64) (v:Vot) (k:Nat):Prop where
 at_:memI g.mems v.name=k
 lt:k<g.mems.length
 ver:verE (g.mems.getD k default).h (g.mems.getD k default).r w v.leaf v.chains v.path=0
 l0:0≤v.leaf
 l1:v.leaf<64
 used:(g.mems.getD k default).used&&&((1:UInt64)<<<UInt64.ofNat v.leaf.toNat)=0
def quoE (n:Nat) (g:Grp):Int:=if (n:Int)<g.thr then 41 else 0
theorem chkv0_ret (g:Grp) (w:UInt64) (V:List Vot) (hV:V= []):Ret Tryz.prog 58 [.agg (grpC g),.sl 4 (encA votC V),aw w] (ai (quoE 0 g)):=by
 have hvl:(encA votC V).length=0:=by rw [hV];rfl
 have hv0:V.length=0:=by rw [hV];rfl
 refine zO Tryz.func58 68 ?_
 refine zQ 1 [{}] [] ?_
 refine zS ?_
 refine zQ 1 [yH [(1,{k:=V.length})]] [yO ((encA votC V).length=V.length*(4:Nat))] ?_
 refine zB 0 ?_
 refine zL (fun (i:Nat)=>(⟨[(12,ai (↑V.length:Int)),(11,AV.sl 4 (encA votC V)),(3,AV.addr 3 0),(0,AV.agg [ai g.epoch,aw g.head,ai g.thr,AV.sl 4 (encA memC g.mems),AV.sl 7 (encA depC g.deps)]),(1,AV.sl 4 (encA votC V)),(2,aw w),(13,ai i)],[(3,⟨1,false,true,List.map (kill0 (3:Nat)) (grpC g)⟩)]⟩:AS)) (fun i=>(i=0)) (fun i=>0) (0) ?_ (zW [.keep [12,11,3,0,1,2,13] [3]]) ?_
 ·rfl
 rintro i rfl
 refine zQ 1 [{}] [] ?_
 refine zS ?_
 refine zFd 14 ((↑(0:Nat):Int)<(↑V.length:Int)) ?_
 refine zE 0 ?_
 refine then_e ?_
 refine round_e ?_
 refine inb_e ?_
 refine then_n ?_
 refine zS ?_
 refine zP 1 [yH [(1,{k:=V.length})]] [.keep [67,14,12,11,3,0,1,2,13] [3]] [yO ((encA votC V).length=V.length*(4:Nat))] ?_
 refine zD 67 ((↑V.length:Int)<g.thr) (fun q=>?_) (fun q=>?_)
 ·skip
  refine zQ 1 [{}] [] ?_
  refine zR ?_
  refine then_r ?_
  refine zV [yJ 41 (quoE (0:Nat) g) (by unfold quoE;rw [if_pos (by omega)])]
 ·skip
  refine zK ?_
  refine then_n ?_
  refine zQ 1 [{}] [] ?_
  refine zR ?_
  refine zV [yJ 0 (quoE (0:Nat) g) (by unfold quoE;rw [if_neg (by omega)])]
theorem chkv1_ret (g:Grp) (w:UInt64) (v:Vot) (k:Nat) (h:Votes g w v k) (hm:g.mems.length≤1000):Ret Tryz.prog 58 [.agg (grpC g),.sl 4 (encA votC [v]),aw w] (ai (quoE 1 g)):=by
 have hvl:(encA votC [v]).length=4:=rfl
 have hml:(encA memC g.mems).length=g.mems.length*4:=encA_len (e:=4) (fun _=>rfl) ..
 obtain ⟨h1,h2,h3,h4,h5,h6⟩:=h
 have hg:=gmem_ret g v.name (by omega)
 rw [h1] at hg
 have hve:=verify_ret (g.mems.getD k default).h (g.mems.getD k default).r w v.leaf v.chains v.path
 rw [h3] at hve
 refine zO Tryz.func58 68 ?_
 refine zQ 1 [{}] [] ?_
 refine zS ?_
 refine zQ 1 [yH [(1,{k:=1})]] [yR ((1:Nat)*(4:Nat))] ?_
 refine zB 0 ?_
 refine zL (fun (i:Nat)=>(⟨[(12,ai (↑(1:Nat):Int)),(11,AV.sl 4 (encA votC [v])),(3,AV.addr 3 0),(0,AV.agg [ai g.epoch,aw g.head,ai g.thr,AV.sl 4 (encA memC g.mems),AV.sl 7 (encA depC g.deps)]),(1,AV.sl 4 (encA votC [v])),(2,aw w),(13,ai i)],[(3,⟨1,false,true,List.map (kill0 (3:Nat)) (grpC g)⟩)]⟩:AS)) (fun i=>(i≤1)) (fun i=>(1-i)) (0) ?_ (zW [.keep [12,11,3,0,1,2,13] [3]]) ?_
 ·omega
 intro i hi
 refine zQ 1 [{}] [] ?_
 refine zS ?_
 refine zD 14 ((↑i:Int)<(↑(1:Nat):Int)) (fun q=>?_) (fun q=>?_)
 ·have e:i=0:=by omega
  subst e
  refine zK ?_
  refine then_n ?_
  refine zS ?_
  refine zB 1 ?_
  refine zP 1 [yH [(1,{k:=0})]] [.keep [7,8,14,12,11,3,0,1,2,13] [8,3]] [yR (↑(0:Nat):Int),yO ((0:Nat)<(encA votC [v]).length),yL 4 4] ?_
  refine zS ?_
  refine zP 1 [{hs:=[(3,{g:=false}),(4,{g:=false}),(5,{g:=false}),(6,{g:=false}),(7,{g:=false}),(8,{g:=false}),(9,{g:=false}),(10,{g:=false}),(11,{g:=false}),(12,{b:=false})],T:=11}] [.keep [30,7,8,14,12,11,3,0,1,2,13] [8,3]] [yF ((↑(0:Nat):Int)>0),yF ((↑(0:Nat):Int)>0),yF ((↑(0:Nat):Int)>0),yF ((↑(0:Nat):Int)>0),yF ((↑(0:Nat):Int)>0),yF ((↑(0:Nat):Int)>0),yF ((↑(0:Nat):Int)>0),yF ((↑(0:Nat):Int)>0),yF ((↑(0:Nat):Int)>0),yF ((↑(0:Nat):Int)>0)] ?_
  refine zF 30 ?_
  refine zK ?_
  refine then_n ?_
  refine zP 1 [yH [(3,yV (ai (↑k:Int)))]] [.keep [9,30,7,8,14,12,11,3,0,1,2,13] [8,3]] [yB (Ret Tryz.prog (61:Nat) [AV.agg [ai g.epoch,aw g.head,ai g.thr,AV.sl 4 (encA memC g.mems),AV.sl 7 (encA depC g.deps)],AV.val (Value.string (ByteArray.mk v.name.toArray))] (ai (↑k:Int))) (hg)] ?_
  refine zS ?_
  refine zQ 1 [{}] [] ?_
  refine zFd 36 ((↑k:Int)<0) ?_
  refine zK ?_
  refine then_n ?_
  refine zS ?_
  refine zP 2 [{hs:=[(3,{k:=k}),(5,yV (AV.agg [ai ((g.mems.getD k default).h),aw ((g.mems.getD k default).r)])),(9,yV (ai 0))],T:=9},{}] [.keep [48,10,36,9,30,7,8,14,12,11,3,0,1,2,13] [8,3]] [yR (↑k:Int),yO (k*(4:Nat)<(encA memC g.mems).length),yB (List.take 2 (List.drop (k*(4:Nat)+(1:Nat)) (encA memC g.mems))= [ai ((g.mems.getD k default).h),aw ((g.mems.getD k default).r)]) (encA_sub (f:=memC) (e:=4) (k:=k) (j:=1) (fun _=>rfl) (by omega) (by decide) rfl),yR (2:Nat),yB (Ret Tryz.prog (104:Nat) [AV.agg [ai ((g.mems.getD k default).h),aw ((g.mems.getD k default).r)],aw w,AV.agg [ai v.leaf,AV.sl 1 (wordsA v.chains),AV.sl 1 (wordsA v.path)]] (ai 0)) (hve)] ?_
  refine zFb 48 ((0:Int) != (0:Int)) rfl ?_
  refine zK ?_
  refine then_n ?_
  refine zP 1 [{hs:=[(3,{k:=k}),(5,yV (aw ((g.mems.getD k default).used))),(9,yV (aw ((1:UInt64)<<<UInt64.ofNat v.leaf.toNat))),(10,yV (aw ((g.mems.getD k default).used&&&(1:UInt64)<<<UInt64.ofNat v.leaf.toNat))),(11,yV (ao ((g.mems.getD k default).used&&&(1:UInt64)<<<UInt64.ofNat v.leaf.toNat != 0)))],T:=10}] [.keep [61,48,10,36,9,30,7,8,14,12,11,3,0,1,2,13] [8,3]] [yR (↑k:Int),yO (k*(4:Nat)<(encA memC g.mems).length),yB ((encA memC g.mems)[k*(4:Nat)+(3:Nat)]?=some (aw ((g.mems.getD k default).used))) (encA_at (f:=memC) (e:=4) (k:=k) (j:=3) (fun _=>rfl) (by omega) rfl),yB (AV.val (Value.int .u64 (IntKind.u64.wrap ((1:Int)*(2:Int)^min v.leaf.toNat IntKind.u64.bits)))=aw ((1:UInt64)<<<UInt64.ofNat v.leaf.toNat)) (avw_shl 1 _ h4 h5),yB ((0:Int)≤v.leaf) (by assumption),yI (avw_and ((g.mems.getD k default).used) ((1:UInt64)<<<UInt64.ofNat v.leaf.toNat)),yI (avw_ne ((g.mems.getD k default).used&&&(1:UInt64)<<<UInt64.ofNat v.leaf.toNat) 0)] ?_
  refine zFb 61 ((g.mems.getD k default).used&&&(1:UInt64)<<<UInt64.ofNat v.leaf.toNat != 0) (by simp_all) ?_
  refine zK ?_
  refine inb_n ?_
  refine then_n ?_
  refine zX (yH [(0,yV (ai ((↑(0:Nat):Int)+1)))]) [yN ((↑(0:Nat):Int)+1)] ?_
  refine round_n 1 (by omega) (by omega) (zW [.keep [12,11,3,0,1,2,13] [3]])
 ·skip
  refine zE 0 ?_
  refine then_e ?_
  refine round_e ?_
  refine inb_e ?_
  refine then_n ?_
  refine zS ?_
  refine zP 1 [yH [(1,{k:=1})]] [.keep [67,14,12,11,3,0,1,2,13] [3]] [yR ((1:Nat)*(4:Nat))] ?_
  refine zD 67 ((↑(1:Nat):Int)<g.thr) (fun q2=>?_) (fun q2=>?_)
  ·skip
   refine zQ 1 [{}] [] ?_
   refine zR ?_
   refine then_r ?_
   refine zV [yJ 41 (quoE (1:Nat) g) (by unfold quoE;rw [if_pos (by omega)])]
  ·skip
   refine zK ?_
   refine then_n ?_
   refine zQ 1 [{}] [] ?_
   refine zR ?_
   refine zV [yJ 0 (quoE (1:Nat) g) (by unfold quoE;rw [if_neg (by omega)])]
end Go.Proofs.YtjgbhhnghedgdaaGreatDoor
namespace Go.Proofs.YtjgbhhnghedgdaaGreatDoor
open Go.RowKit
def regL:Code->Option (List Oper)
 | .region _ ⟨l⟩ false=>some l
 | _=>none
theorem AWP.nilReg {P:Program} {n:Nat} {c:Code} {Q:Exit->AS->Prop} {s:AS} {o1 o2:Oper} {t t' el:TypeId} {x:Operand} {d1 d2 e:Nat} {row:List AV} (hc:regL c=some [o1,o2]) (h1:o1.op= .move x) (g1:o1.guard=none) (k1:o1.dst=some d1)
  (h2:o2.op= .binOp .eql t (.tmp d1) (.const (.slice none 0 0)) t') (g2:o2.guard=none) (k2:o2.dst=some d2) (hu:P.underlying t=some (.slice el)) (hd1:Nat.blt d1 n=true) (hd2:Nat.blt d2 n=true) (hx:opd s x= .sl e row)
  (h:∀b:Bool,(b=true->row= [])->Q .normal (setF (setF s d1 (.sl e row)) d2 (.val (.bool b)))):AWP P n c Q s:=by
 intro S0 w0 a w ⟨φ,hs⟩
 have hd1:d1<n:=by simpa [Nat.blt_eq] using hd1
 have hd2:d2<n:=by simpa [Nat.blt_eq] using hd2
 unfold regL at hc
 split at hc
 ·rename_i id l
  injection hc with hc;subst hc
  show wpList P _ _ [o1,o2] a w
  have hv:=hs.opd x
  rw [hx] at hv
  have hw1:Region.wanted o1 (yielded #[o1,o2] a.tmps)=true:=by unfold Region.wanted;rw [g1]
  unfold wpList
  rw [if_pos hw1]
  left
  refine wp_of_run (v:=a.eval x) (w':=w) (by unfold execOp;simp [h1]) ?_
  have hs1:SimO S0 w0 n [] (setF s d1 (.sl e row)) (a.put o1.dst (a.eval x)) w φ:=by rw [k1];exact hs.put hd1 hv
  generalize a.put o1.dst (a.eval x)=a1 at *
  have hv1:=hs1.opd (.tmp d1)
  have e1:opd (setF s d1 (.sl e row)) (.tmp d1)= .sl e row:=by
   show getF _ d1=_
   unfold getF
   rw [look_setF,if_pos rfl]
  rw [e1] at hv1
  have hsl:∃A l cc,a1.eval (.tmp d1)= .slice A l cc∧(A.isNone=true->row= []):=by
   generalize a1.eval (.tmp d1)=v at hv1
   cases hv1 with
   | rep hr=>cases hr with
    | sl A m cc e us row hl hn hc hm ha hr =>
     refine ⟨A,m,cc,rfl,fun hA=>?_⟩
     cases A with
     | some ad=>cases hA
     | none =>
      apply Classical.byContradiction
      intro hne
      have h0:0<row.length:=List.length_pos_iff.2 hne
      obtain ⟨ad,h0,-⟩:=ha h0
      cases h0
  obtain ⟨A,l,cc,hval,hA⟩:=hsl
  have hw2:Region.wanted o2 (yielded #[o1,o2] a1.tmps)=true:=by unfold Region.wanted;rw [g2]
  unfold wpList
  rw [if_pos hw2]
  left
  refine wp_of_run (v:=.bool A.isNone) (w':=w) ?_ ?_
  ·have ec:a1.eval (.const (.slice none 0 0))= .slice none 0 0:=rfl
   unfold execOp
   simp only [h2,hval,ec]
   simp [eqGuard,run_nil_eq hu]
  ·exact ⟨_,h A.isNone hA,Sim.one ⟨φ,by rw [k2];exact hs1.put hd2 (.rep (.val _))⟩⟩
 ·cases hc
def nil1 (c:Code):Oper:=((regL c).getD []).headD default
def nil2 (c:Code):Oper:=(((regL c).getD []).drop 1).headD default
theorem AWP.isNil {P:Program} {n:Nat} {c:Code} {Q:Exit->AS->Prop} {s:AS} {t el:TypeId} {x:Operand} {d1 d2 e:Nat} {row:List AV} (hc:regL c=some [nil1 c,nil2 c]) (h1:(nil1 c).op= .move x) (g1:(nil1 c).guard=none) (k1:(nil1 c).dst=some d1)
  (h2:(nil2 c).op= .binOp .eql t (.tmp d1) (.const (.slice none 0 0)) t) (g2:(nil2 c).guard=none) (k2:(nil2 c).dst=some d2) (hu:P.underlying t=some (.slice el)) (hd1:Nat.blt d1 n=true) (hd2:Nat.blt d2 n=true) (hx:opd s x= .sl e row)
  (h:∀b:Bool,(b=true->row= [])->Q .normal (setF (setF s d1 (.sl e row)) d2 (.val (.bool b)))):AWP P n c Q s:=AWP.nilReg hc h1 g1 k1 h2 g2 k2 hu hd1 hd2 hx h
end Go.Proofs.YtjgbhhnghedgdaaGreatDoor
namespace Go.Proofs.YtjgbhhnghedgdaaGreatDoor
open Go.RowKit
set_option maxRecDepth 100000
set_option maxHeartbeats 4000000
set_option linter.unusedVariables false
theorem wclone_ret (l:List UInt64) (hl:l.length≤1000000):Ret Tryz.prog 52 [.sl 1 (wordsA l)] (.own 1 (wordsA l)):=by
 have hll:(wordsA l).length=l.length:=wordsA_len l
 refine zO Tryz.func52 8 ?_
 refine zQ 1 [{}] [] ?_
 refine zS ?_
 refine zS ?_
 refine AWP.isNil (t:=27) (el:=22) (x:=.tmp 0) (d1:=3) (d2:=4) (e:=1) (row:=wordsA l) (by kernel_rfl) (by kernel_rfl) (by kernel_rfl) (by kernel_rfl) (by kernel_rfl) (by kernel_rfl) (by kernel_rfl) Tryz.underlying27 (by kernel_rfl) (by kernel_rfl) (by kernel_rfl) fun b hb=>?_
 refine then_n ?_
 cases b with
 | true =>
  have e:=hb rfl
  refine zT 4 ?_
  refine zQ 1 [{}] [] ?_
  refine zR ?_
  refine then_r ?_
  refine zV [yB (wordsA l= []) (by rw [e])]
 | false =>
  refine zF 4 ?_
  refine zK ?_
  refine then_n ?_
  refine zP 1 [yH [(2,{b:=false})]] [.keep [2,4,0] [7]] [yB (plainR (wordsA l)) (plainR_words _),yO (((0:Nat)+(wordsA l).length)*(8:Nat)≤(140737488355328:Nat))] ?_
  refine zR ?_
  refine zV [yR (wordsA l)]
theorem mclone_ret (l:List Mem) (hl:l.length≤1000000):Ret Tryz.prog 60 [.sl 4 (encA memC l)] (.own 4 (encA memC l)):=by
 have hll:(encA memC l).length=l.length*4:=encA_len (e:=4) (fun _=>rfl) ..
 refine zO Tryz.func60 8 ?_
 refine zQ 1 [{}] [] ?_
 refine zS ?_
 refine zS ?_
 refine AWP.isNil (t:=38) (el:=51) (x:=.tmp 0) (d1:=3) (d2:=4) (e:=4) (row:=encA memC l) (by kernel_rfl) (by kernel_rfl) (by kernel_rfl) (by kernel_rfl) (by kernel_rfl) (by kernel_rfl) (by kernel_rfl) Tryz.underlying38 (by kernel_rfl) (by kernel_rfl) (by kernel_rfl) fun b hb=>?_
 refine then_n ?_
 cases b with
 | true =>
  have e:=hb rfl
  refine zT 4 ?_
  refine zQ 1 [{}] [] ?_
  refine zR ?_
  refine then_r ?_
  refine zV [yB (encA memC l= []) (by rw [e])]
 | false =>
  refine zF 4 ?_
  refine zK ?_
  refine then_n ?_
  refine zP 1 [yH [(2,{b:=false})]] [.keep [2,4,0] [7]] [yB (plainR (encA memC l)) (encA_plain (fun x=>plainR_of rfl) _),yO (((0:Nat)+(encA memC l).length)*(40:Nat)≤(562949953421312:Nat))] ?_
  refine zR ?_
  refine zV [yR (encA memC l)]
theorem copydep_ret (d:Dep) (h1:d.box.length≤1000000) (h2:d.holders.length≤1000000) (h3:d.digests.length≤1000000):Ret Tryz.prog 54 [.agg (depC d)] (.agg (depO d)):=by
 have hc:=sclone_ret d.holders h2
 refine zO Tryz.func54 16 ?_
 refine zP 5 [{},yH [(2,yV (AV.own 1 (bytesA d.box)))],yH [(2,{av:=some (AV.own 1 (encA (fun s↦ [as_ s]) d.holders)),b:=false})],yH [(2,yV (AV.own 1 (wordsA d.digests)))],{}] [.keep [2,1,0] [2,1,13,9,5]] [yI (clone_ret d.box (by omega)),yI (valR_bytes d.box),yB ((3:Nat)≤(List.map (kill0 (5:Nat)) (List.map (kill0 (2:Nat)) (List.map (kill0 (1:Nat)) (depC d)))).length) (Nat.le_of_ble_eq_true rfl),yI (sclone_ret d.holders (by assumption)),yB ((4:Nat)≤(List.map (kill0 (9:Nat)) ((List.map (kill0 (5:Nat)) (List.map (kill0 (2:Nat)) (List.map (kill0 (1:Nat)) (depC d)))).set (2:Nat) (opd (AS.mk [(6,AV.addr 1 2),(5,AV.ref 5),(4,AV.sl 1 (bytesA d.box)),(3,AV.addr 1 2),(2,AV.addr 2 0),(1,AV.addr 1 0),(0,AV.agg [aw d.pub,aw d.peer,AV.sl 1 (bytesA d.box),AV.sl 1 (encA strC d.holders),AV.sl 1 (wordsA d.digests),ai d.need,aw d.target])] [(5,Row.mk 1 true false (bytesA d.box)),(2,Row.mk 1 false true [au0,au0,AV.nil,AV.nil,AV.nil,ai 0,au0]),(1,Row.mk 1 false true (List.map (kill0 (5:Nat)) (List.map (kill0 (2:Nat)) (List.map (kill0 (1:Nat)) (depC d)))))]) (Operand.tmp (5:Nat))))).length) (Nat.le_of_ble_eq_true rfl),yI (wclone_ret d.digests (by assumption)),yB (valR (wordsA d.digests)) (valR_words _),yB ((5:Nat)≤(List.map (kill0 (13:Nat)) ((List.map (kill0 (9:Nat)) ((List.map (kill0 (5:Nat)) (List.map (kill0 (2:Nat)) (List.map (kill0 (1:Nat)) (depC d)))).set (2:Nat) (opd (AS.mk [(6,AV.addr 1 2),(5,AV.ref 5),(4,AV.sl 1 (bytesA d.box)),(3,AV.addr 1 2),(2,AV.addr 2 0),(1,AV.addr 1 0),(0,AV.agg [aw d.pub,aw d.peer,AV.sl 1 (bytesA d.box),AV.sl 1 (encA strC d.holders),AV.sl 1 (wordsA d.digests),ai d.need,aw d.target])] [(5,Row.mk 1 true false (bytesA d.box)),(2,Row.mk 1 false true [au0,au0,AV.nil,AV.nil,AV.nil,ai 0,au0]),(1,Row.mk 1 false true (List.map (kill0 (5:Nat)) (List.map (kill0 (2:Nat)) (List.map (kill0 (1:Nat)) (depC d)))))]) (Operand.tmp (5:Nat))))).set (3:Nat) (opd (AS.mk [(10,AV.addr 1 3),(9,AV.ref 9),(8,AV.sl 1 (encA strC d.holders)),(7,AV.addr 1 3),(6,AV.addr 1 2),(5,AV.ref 5),(4,AV.sl 1 (bytesA d.box)),(3,AV.addr 1 2),(2,AV.addr 2 0),(1,AV.addr 1 0),(0,AV.agg [aw d.pub,aw d.peer,AV.sl 1 (bytesA d.box),AV.sl 1 (encA strC d.holders),AV.sl 1 (wordsA d.digests),ai d.need,aw d.target])] [(9,Row.mk 1 true false (encA (fun s↦ [as_ s]) d.holders)),(1,Row.mk 1 false true (List.map (kill0 (9:Nat)) ((List.map (kill0 (5:Nat)) (List.map (kill0 (2:Nat)) (List.map (kill0 (1:Nat)) (depC d)))).set (2:Nat) (opd (AS.mk [(6,AV.addr 1 2),(5,AV.ref 5),(4,AV.sl 1 (bytesA d.box)),(3,AV.addr 1 2),(2,AV.addr 2 0),(1,AV.addr 1 0),(0,AV.agg [aw d.pub,aw d.peer,AV.sl 1 (bytesA d.box),AV.sl 1 (encA strC d.holders),AV.sl 1 (wordsA d.digests),ai d.need,aw d.target])] [(5,Row.mk 1 true false (bytesA d.box)),(2,Row.mk 1 false true [au0,au0,AV.nil,AV.nil,AV.nil,ai 0,au0]),(1,Row.mk 1 false true (List.map (kill0 (5:Nat)) (List.map (kill0 (2:Nat)) (List.map (kill0 (1:Nat)) (depC d)))))]) (Operand.tmp (5:Nat)))))),(5,Row.mk 1 true false (bytesA d.box)),(2,Row.mk 1 false true [au0,au0,AV.nil,AV.nil,AV.nil,ai 0,au0])]) (Operand.tmp (9:Nat))))).length) (Nat.le_of_ble_eq_true rfl),yL 7 7] ?_
 refine zR ?_
 refine zV [yR (Value.int .u64 (wv d.pub)),yR (Value.int .u64 (wv d.peer)),yR (bytesA d.box),yR (encA strC d.holders),yR (wordsA d.digests),yR (Value.int .i64 d.need),yR (Value.int .u64 (wv d.target))]
theorem insert_retm (l:List Vot) (v:Vot) (hl:l.length≤1000):RetM Tryz.prog 53 [.ref 5,ai l.length,.sl 4 (encA votC [v])] [(5,⟨4,true,false,encA votC l⟩)] (.own 4 (encA votC (l++ [v]))) [(5,⟨4,true,false,encA votC []⟩)]:=by
 have hll:(encA votC l).length=l.length*4:=encA_len (e:=4) (fun _=>rfl) ..
 have hv4:(encA votC [v]).length=4:=rfl
 refine RetM.of_fn Tryz.func53 (by kernel_rfl) 95 (by kernel_rfl) (by kernel_rfl) ?_
 refine AWP.wkX [.ren 5 77] (by kernel_rfl) ?_
 refine AWP.weak (Weaks.add 5 4 (by kernel_rfl)) ?_
 refine zP 3 [{},yH [(2,{k:=l.length})],yH [(1,{k:=1})]] [.keep [7,6,0,1,2] [5,77]] [yR (↑l.length:Int),yO (l.length*(4:Nat)≤(encA votC l).length),yR ((1:Nat)*(4:Nat))] ?_
 refine zS ?_
 refine zQ 1 [{}] [] ?_
 refine zFb 16 ((↑(1:Nat):Int) == (0:Int)) (decide_eq_false (by omega)) ?_
 refine zK ?_
 refine then_n ?_
 refine zP 1 [yH [(1,{k:=l.length})]] [.keep [8,16,7,6,0,1,2] [5,77]] [yB ((encA votC l).length=l.length*(4:Nat)) (by assumption)] ?_
 refine zS ?_
 refine zP 1 [{}] [.keep [22,8,16,7,6,0,1,2] [5,77]] [] ?_
 refine zTb 22 ((↑l.length:Int) == (↑l.length:Int)) (decide_eq_true (by omega)) ?_
 refine zQ 1 [{}] [yO (((encA votC l).length+(encA votC [v]).length)*(72:Nat)≤(562949953421312:Nat))] ?_
 refine zR ?_
 refine then_r ?_
 refine DoneM.ret_ [] (s2:=AS.mk [(6,AV.ref 25),(25,AV.ref 25),(24,AV.sl 4 (encA votC [v])),(23,AV.dead),(22,ao ((↑l.length:Int) == (↑l.length:Int))),(8,ai (↑l.length:Int)),(16,ao ((↑(1:Nat):Int) == (0:Int))),(7,ai (↑(1:Nat):Int)),(0,AV.dead),(1,ai (↑l.length:Int)),(2,AV.sl 4 (encA votC [v]))] [(25,Row.mk 4 true false (encA votC l++encA votC [v])),(5,Row.mk 4 true false [])]) (by kernel_rfl) (C:=[encA votC l++encA votC [v]=encA votC (l++ [v]),[]=encA votC []]) (by kernel_rfl) ⟨(encA_app _ _),rfl,trivial⟩
end Go.Proofs.YtjgbhhnghedgdaaGreatDoor
