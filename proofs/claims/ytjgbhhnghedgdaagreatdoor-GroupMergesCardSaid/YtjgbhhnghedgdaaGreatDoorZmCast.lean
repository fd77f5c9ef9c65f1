import Derived.Test.YtjgbhhnghedgdaaGreatDoorZmDR
import Derived.Lib.AppendZerosOnto
import Derived.Lib.SliceRun
import Derived.KernelRfl
import Derived.Lib.Mul64
set_option linter.all false
namespace Go.Proofs.YtjgbhhnghedgdaaGreatDoor
open Go.RowKit
set_option maxRecDepth 100000
set_option maxHeartbeats 4000000
def fL (v n:Int):Nat:=((v%18446744073709551616)%n).toNat
theorem tj (v:Int) {n:Int} (h:1≤n):(fL v n:Int)<n:=by
 have:=Int.emod_lt_of_pos (v%18446744073709551616) (ah:0<n)
 have:=Int.emod_nonneg (v%18446744073709551616) (ah:n≠0)
 unfold fL;omega
theorem qT (v:Int):wv (u64 v)=v%18446744073709551616:=by rw [←Ac,IntKind.wrap_u64]
theorem ti (v n:Int) (h1:1≤n) (h2:n≤9223372036854775807):bC Tryz.prog 23 [ai v,ai n] (ai (fL v n)):=by
 have hn:wv (u64 n)=n:=by rw [qT];omega
 have hm:=tj v h1
 have e:(wv (u64 v)).tmod (wv (u64 n))=fL v n:=by
  have h0:0≤v%18446744073709551616:=Int.emod_nonneg _ (by decide)
  have:=Int.emod_nonneg (v%18446744073709551616) (ah:n≠0)
  rw [hn,qT,Int.tmod_eq_emod_of_nonneg h0];unfold fL;omega
 have e2:IntKind.i64.wrap (wv (u64 v%u64 n))=fL v n:=by
  have h:=L3 (u64 v) (u64 n)
  rw [e] at h
  have h2:(fL v n:Int)=wv (u64 v%u64 n):=by injection h with h;injection h
  rw [←h2,IntKind.wrap_i64];omega
 refine zO Tryz.func23 11<|zP 2 [{},yH [(1,yV (aw (u64 v))),(3,yV (aw (u64 n))),(4,yV (aw (u64 v%u64 n)))]] [.aa [4,0,1] []] [yI (ba v),yI (ba n),yR (aw (u64 v%u64 n)),yO (wv (u64 n)≠(0:Int))]<|zR (zV [yJ (IntKind.i64.wrap (wv (u64 v%u64 n))) (↑(fL v n):Int) (by rw [e2])])
def L0 (key db:UInt64) (i:Nat):List UInt8:=words [z1 key 5 (words [db,u64 i])]
def pW (key db:UInt64):Nat->List UInt8
 | 0=>[]
 | k+1=>pW key db k++L0 key db k
theorem LZ (key db:UInt64) (i:Nat):(L0 key db i).length=8:=by rw [L0,dW];rfl
theorem tT (key db:UInt64):∀k,(pW key db k).length=8*k
 | 0=>rfl
 | k+1=>by rw [pW,List.length_append,tT key db k,LZ];omega
def iL (n:Int):Nat:=(min (max n 0) 1024).toNat
def stream (key db:UInt64) (n:Int):List UInt8:=(pW key db ((iL n+7)/8)).take (iL n)
theorem tU (key db:UInt64) (n:Int):(stream key db n).length=iL n:=by
 rw [stream,List.length_take,tT];omega
theorem oS (key db:UInt64) (n:Int):bC Tryz.prog 118 [aw key,aw db,ai n] (.own 1 (ag (stream key db n))):=by
 generalize hm:iL n=m
 have hv:(if 1024<if 0>n then 0 else n then 1024 else if 0>n then 0 else n)=(m:Int):=by
  rw [←hm];unfold iL;split<;>split at* <;> omega
 have IY:m≤1024:=by rw [←hm];unfold iL;omega
 refine zO Tryz.func118 32<|zP 3 [{},yH [(2,yV (ai ↑m))],{}] [.aa [7,2,6,0,1] []] [yI (yc hv)]<|zS<|zq<|zB 0 (zL (fun (k:Nat)=>(⟨[(2,ai ↑m),(6,AV.nil),(0,aw key),(1,aw db),(8,ai k),(7,AV.ref 28)],[(28,⟨1,true,false,ag (pW key db k)⟩)]⟩:AS)) (fun k=>(8*k<m+8)) (fun k=>(m+8-8*k)) (0) ?_ (zW [.nil 7 28 1,.aa [2,6,0,1,8,7] [28]]) ?_)
 ·omega
 intro k hk
 have hl:=tT key db k
 refine zS<|zP 1 [yH [(1,{k:=(pW key db k).length})]] [.aa [15,2,6,0,1,8,7] [28]] [yI (aD (pW key db k))] (zD 15 ((↑(pW key db k).length:Int)<(↑m:Int)) (fun h1=>?_) (fun h1=>?_))
 ·skip
  refine aW<|zS<|zB 1<|zX (yH [(4,yV (aw (u64 (↑k:Int)))),(5,yV (AV.arr (aj [db,u64 (↑k:Int)]))),(6,yV (AV.own 1 (ag (words [db,u64 (↑k:Int)])))),(7,yV (aw (z1 key (5:Int) (words [db,u64 (↑k:Int)])))),(8,yV (AV.arr (aj [z1 key (5:Int) (words [db,u64 (↑k:Int)])]))),(9,yV (AV.own 1 (ag (words [z1 key (5:Int) (words [db,u64 (↑k:Int)])])))),(10,yV (AV.arr (ag (pW key db k++words [z1 key (5:Int) (words [db,u64 (↑k:Int)])]))))]) [yI (ba ((↑k:Int))),yR (aj [db,u64 (↑k:Int)]),yI (dA [db,u64 (↑k:Int)] (by simp only [List.length_cons,List.length_nil];omega)),yI (aP (words [db,u64 (↑k:Int)])),yI (ph key ((5:Int)) (words [db,u64 (↑k:Int)]) (by simp only [List.length_cons,List.length_nil,dW];omega)),yR [aw (z1 key (5:Int) (words [db,u64 (↑k:Int)]))],yI (dA [z1 key (5:Int) (words [db,u64 (↑k:Int)])] (by simp only [List.length_cons,List.length_nil];omega)),yI (aP (words [z1 key (5:Int) (words [db,u64 (↑k:Int)])])),yB (ag (pW key db k)++ag (words [z1 key (5:Int) (words [db,u64 (↑k:Int)])])=ag (pW key db k++words [z1 key (5:Int) (words [db,u64 (↑k:Int)])])) (da _ _),yB (((ag (pW key db k)).length+8)*1≤140737488355328) (by simp only [aD];omega)]<|aM<|ak<|zX (yH [(1,yV (ai ((↑k:Int)+1)))]) [yN ((↑k:Int)+1)] (aH (k+1) ah ah (zW [.aa [2,6,0,1,8,7] [28]]))
 ·have e:k=(m+7)/8:=ah
  refine zE 0<|aS<|aK<|bg<|ak<|zP 1 [yH [(2,{m:=m})]] [.aa [6,15,2,0,1,8,7] [28]] [yR (↑m:Int),yB (m≤(ag (pW key db k)).length) (by simp only [aD];omega)]<|zR (zV [yB (List.take m (ag (pW key db k))=ag (stream key db n)) (by rw [sK,stream,hm,←e])])
theorem GY (seed n:Int):bC Tryz.prog 72 [ai seed,ai n] (.own 1 (ag (stream (u64 seed+1) 7 n))):=by
 have hs:iL (if 0>if 1024<n then 1024 else n then 0 else if 1024<n then 1024 else n)=iL n:=by
  unfold iL;split<;>split at* <;> omega
 refine zO Tryz.func72 12<|zP 2 [{},yH [(1,yV (aw (u64 seed))),(2,yV (aw (u64 seed+1))),(6,yV (AV.own 1 (ag (stream (u64 seed+1) 7 (if (0:Int)>if (1024:Int)<n then (1024:Int) else n then (0:Int) else if (1024:Int)<n then (1024:Int) else n)))))]] [.aa [4,0,1] [11]] [yI (ba seed),yR (aw (u64 seed+1)),yI (oS (u64 seed+1) 7 (if (0:Int)>if (1024:Int)<n then (1024:Int) else n then (0:Int) else if (1024:Int)<n then (1024:Int) else n)),yI (aP (stream (u64 seed+1) 7 (if (0:Int)>if (1024:Int)<n then (1024:Int) else n then (0:Int) else if (1024:Int)<n then (1024:Int) else n)))]<|zR (zV [yB (ag (stream (u64 seed+1) 7 (if (0:Int)>if (1024:Int)<n then (1024:Int) else n then (0:Int) else if (1024:Int)<n then (1024:Int) else n))=ag (stream (u64 seed+1) 7 n)) (by rw [stream,stream,hs])])
structure fJ where
 kind:Int
 num:UInt64
 cI:List UInt8
def aY (x:fJ):List AV:=[ai x.kind,aw x.num,cQ x.cI]
def bA (k:Int):List AV:=[ao false,ai k,.nil]
def Cg (fr:List Int) (c:Nat):List (Nat×Row):=[(1000000000000,⟨1,false,true,[.ref 5,ai c]⟩),(5,⟨3,true,false,ae bA fr⟩)]
theorem gi (fr:List Int) (c:Nat) (hf:fr.length≤1000000):gm Tryz.prog 163 [.addr 1000000000000 0] (Cg fr c) (ao (decide (0<c∧fr.length=0))) (Cg fr c):=by
 have hl:(ae bA fr).length=fr.length*3:=aE (e:=3) (fun _=>rfl) ..
 by_cases h:0<c
 ·by_cases h2:fr.length=0
  ·rw [decide_eq_true (⟨h,h2⟩:0<c∧fr.length=0)]
   refine nj Tryz.func163 16<|zP 2 [{},yH [(10,{k:=fr.length})]] [.aa [2,0] [1000000000000,5]] (yM 5 (yT ((↑c:Int)>0))++ [yI hl]++yM 2 (yT ((↑c:Int)>0)))<|zR (zG [] [yB (Value.bool ((↑fr.length:Int) == (0:Int))=Value.bool true) (by simp [h2]),yR [AV.ref 5,ai ↑c],yR (ae bA fr)])
  ·rw [decide_eq_false (fun q:0<c∧fr.length=0=>h2 q.2)]
   refine nj Tryz.func163 16<|zP 2 [{},yH [(10,{k:=fr.length})]] [.aa [2,0] [1000000000000,5]] (yM 5 (yT ((↑c:Int)>0))++ [yI hl]++yM 2 (yT ((↑c:Int)>0)))<|zR (zG [] [yB (Value.bool ((↑fr.length:Int) == (0:Int))=Value.bool false) (congrArg Value.bool (beq_eq_false_iff_ne.2 ah)),yR [AV.ref 5,ai ↑c],yR (ae bA fr)])
 ·rw [decide_eq_false (fun q:0<c∧fr.length=0=>h q.1)]
  refine nj Tryz.func163 16<|zP 2 [{},yH ([(12,{b:=false})]++yg [6,7,8,9,10,11])] [.aa [2,0] [1000000000000,5]] (yM 7 (yF ((↑c:Int)>0)))<|zR (zG [] [yR (Value.bool false),yR [AV.ref 5,ai ↑c],yR (ae bA fr)])
theorem mV (fr:List Int) (c:Nat) (hf:fr.length≤1000000):gm Tryz.prog 174 [.addr 1000000000000 0] (Cg fr c) (ao false) (Cg fr c):=by
 have hl:(ae bA fr).length=fr.length*3:=aE (e:=3) (fun _=>rfl) ..
 by_cases h:0<fr.length
 ·obtain ⟨n,hn⟩:∃n,fr.length=n+1:=⟨fr.length-1,ah⟩
  refine nj Tryz.func174 35 ?_
  have w:IntKind.i64.wrap ((fr.length:Int)-1)=n:=by rw [IntKind.wrap_i64];omega
  have h2:n*3<(ae bA fr).length:=ah
  have h3:(ae bA fr)[n*3]?=some (ao false):=mS (f:=bA) (e:=3) (l:=fr) (k:=n) (j:=0) (fun _=>rfl) ah rfl
  refine zP 3 [{},yH [(4,{k:=fr.length})],yH ([(8,yV (ai ↑n)),(9,{k:=n}),(11,yV (ao false)),(25,{b:=false})]++yg [14,15,16,17,18,19,20,21,22,23,24])] [.aa [2,3,0] [1000000000000,5]] ([yI hl]++yM 6 (yT ((↑fr.length:Int)>0))++ [yI (yc w),yT ((↑fr.length:Int)>0),yR (↑n:Int),yI h2]++yM 2 (yT ((↑fr.length:Int)>0))++ [yI h3,yT ((↑fr.length:Int)>0)]++yM 12 (yR false))<|zR (zG [] [yR (Value.bool false),yR [AV.ref 5,ai ↑c],yR (ae bA fr)])
 ·refine nj Tryz.func174 35<|zP 3 [{},yH [(4,{k:=fr.length})],yH ([(12,{b:=false}),(25,{b:=false})]++yg [3,4,5,6,7,8,9,10,11,14,15,16,17,18,19,20,21,22,23,24])] [.aa [2,3,0] [1000000000000,5]] ([yI hl]++yM 10 (yF ((↑fr.length:Int)>0))++yM 12 (yR false))<|zR (zG [] [yR (Value.bool false),yR [AV.ref 5,ai ↑c],yR (ae bA fr)])
def fc (c n:Nat) (k:Int):Int:=if 512≤c then 8 else if k<1∨8<k then 3 else if 8<n then 5 else 0
theorem iw (fr:List Int) (c:Nat) (k:Int) (hf:fr.length≤1000000):gm Tryz.prog 171 [.addr 1000000000000 0,ai k] (Cg fr c) (ai (fc c fr.length k)) (Cg fr c):=by
 have hl:(ae bA fr).length=fr.length*3:=aE (e:=3) (fun _=>rfl) ..
 by_cases h1:512≤c
 ·have e:fc c fr.length k=8:=if_pos h1
  refine nj Tryz.func171 36<|zq<|zS<|zP 1 [{}] [.aa [9,4,0,1] [1000000000000,5]] []<|gN 9 ((↑c:Int)≥512)<|zq<|dd (zG [] [yJ 8 (fc c fr.length k) (by rw [e]),yR [AV.ref 5,ai ↑c],yR (ae bA fr)])
 by_cases h2:k<1
 ·have e:fc c fr.length k=3:=by unfold fc;rw [if_neg h1,if_pos (.inl h2)]
  refine nj Tryz.func171 36<|zq<|zS<|zP 1 [{}] [.aa [9,4,0,1] [1000000000000,5]] []<|dq 9 ((↑c:Int)≥512)<|aW<|zS<|zP 1 [{}] [.aa [15,9,4,0,1] [1000000000000,5]] (yM 3 (yT (k<1)))<|zT 15<|zq<|dd (zG [] [yJ 3 (fc c fr.length k) (by rw [e]),yR [AV.ref 5,ai ↑c],yR (ae bA fr)])
 by_cases h3:8<k
 ·have e:fc c fr.length k=3:=by unfold fc;rw [if_neg h1,if_pos (.inr h3)]
  refine nj Tryz.func171 36<|zq<|zS<|zP 1 [{}] [.aa [9,4,0,1] [1000000000000,5]] []<|dq 9 ((↑c:Int)≥512)<|aW<|zS<|zP 1 [yH ([(5,{b:=false})]++yg [3,4])] [.aa [15,9,4,0,1] [1000000000000,5]] (yM 3 (yF (k<1)))<|gN 15 (k>8)<|zq<|dd (zG [] [yJ 3 (fc c fr.length k) (by rw [e]),yR [AV.ref 5,ai ↑c],yR (ae bA fr)])
 by_cases h4:8<fr.length
 ·have e:fc c fr.length k=5:=by unfold fc;rw [if_neg h1,if_neg ah,if_pos h4]
  refine nj Tryz.func171 36<|zq<|zS<|zP 1 [{}] [.aa [9,4,0,1] [1000000000000,5]] []<|dq 9 ((↑c:Int)≥512)<|aW<|zS<|zP 1 [yH ([(5,{b:=false})]++yg [3,4])] [.aa [15,9,4,0,1] [1000000000000,5]] (yM 3 (yF (k<1)))<|dq 15 (k>8)<|aW<|zS<|zP 1 [yH ([(1,{av:=some (ao false),ln:=[(1000000000000,1000000000000),(5,5)],ho:=[(1000000000000,Row.mk 1 false true [AV.ref 5,ai ↑c]),(5,Row.mk 3 true false (ae bA fr))]}),(5,{b:=false}),(9,{b:=false}),(13,{b:=false})]++yg [3,4,7,8,11,12])] [.aa [29,15,9,4,0,1] [1000000000000,5]] ([yI (mV fr c hf),yB ([AV.ref 5,ai ↑c].length= [AV.ref 5,ai ↑c].length∧0< [AV.ref 5,ai ↑c].length) ⟨rfl,Nat.succ_pos _⟩]++yM 9 (yR false))<|zF 29<|aW<|zS<|zP 1 [yH [(4,{k:=fr.length})]] [.aa [35,29,15,9,4,0,1] [1000000000000,5]] [yI hl]<|gN 35 ((↑fr.length:Int)>8)<|zq<|dd (zG [] [yJ 5 (fc c fr.length k) (by rw [e]),yR [AV.ref 5,ai ↑c],yR (ae bA fr)])
 ·have e:fc c fr.length k=0:=by unfold fc;rw [if_neg h1,if_neg ah,if_neg h4]
  refine nj Tryz.func171 36<|zq<|zS<|zP 1 [{}] [.aa [9,4,0,1] [1000000000000,5]] []<|dq 9 ((↑c:Int)≥512)<|aW<|zS<|zP 1 [yH ([(5,{b:=false})]++yg [3,4])] [.aa [15,9,4,0,1] [1000000000000,5]] (yM 3 (yF (k<1)))<|dq 15 (k>8)<|aW<|zS<|zP 1 [yH ([(1,{av:=some (ao false),ln:=[(1000000000000,1000000000000),(5,5)],ho:=[(1000000000000,Row.mk 1 false true [AV.ref 5,ai ↑c]),(5,Row.mk 3 true false (ae bA fr))]}),(5,{b:=false}),(9,{b:=false}),(13,{b:=false})]++yg [3,4,7,8,11,12])] [.aa [29,15,9,4,0,1] [1000000000000,5]] ([yI (mV fr c hf),yB ([AV.ref 5,ai ↑c].length= [AV.ref 5,ai ↑c].length∧0< [AV.ref 5,ai ↑c].length) ⟨rfl,Nat.succ_pos _⟩]++yM 9 (yR false))<|zF 29<|aW<|zS<|zP 1 [yH [(4,{k:=fr.length})]] [.aa [35,29,15,9,4,0,1] [1000000000000,5]] [yI hl]<|dq 35 ((↑fr.length:Int)>8)<|aW<|zq<|zR (zG [] [yJ 0 (fc c fr.length k) (by rw [e]),yR [AV.ref 5,ai ↑c],yR (ae bA fr)])
def mT (fr:List Int):List Int:=if fr.length=0 then fr else fr.set (fr.length-1) (fr.getD (fr.length-1) 0-1)
def lF (x:fJ) (fr:List Int):List Int:=if x.kind=5∧0<wv x.num then fr++ [wv x.num] else fr
def lG (l:List Int):Nat->Nat
 | 0=>0
 | n+1=>if l.getD n 0=0 then lG l n else n+1
def pn (l:List Int):List Int:=l.take (lG l l.length)
def lW (fr:List Int) (x:fJ):List Int:=pn (lF x (mT fr))
theorem Ew:∀(l:List Int) (n:Nat) (v:Int),n<l.length->(ae bA l).set (n*3+1) (ai v)=ae bA (l.set n v)
 | [],n,v,h=>by simp at h
 | k::l,0,v,h=>rfl
 | k::l,n+1,v,h=>by
  have ih:=Ew l n v (by simpa using h)
  rw [show (n+1)*3+1=n*3+1+1+1+1 by omega]
  show ao false::ai k:: .nil::(ae bA l).set (n*3+1) (ai v)=_
  rw [ih];rfl
theorem BO {l:List Int} {n:Nat} (h:n<l.length):(ae bA l)[n*3+1]?=some (ai (l.getD n 0)):=mS (f:=bA) (e:=3) (l:=l) (k:=n) (j:=1) (fun _=>rfl) h rfl
theorem KP {ι:Type} {I:ι->AS} {Inv:ι->Prop} {m:ι->Nat} {Q:Exit->AS->Prop} {x:ι} {s s':AS} (hw:bU s s') (h:Round I Inv m Q x .normal s'):Round I Inv m Q x .normal s:=by
 obtain ⟨y,h1,h2,h3⟩:=h
 exact ⟨y,h1,h2,fun S0 w0 n a w hs=>h3 S0 w0 n a w (hw S0 w0 n a w hs)⟩
theorem B2 (fr:List Int):(mT fr).length=fr.length:=by unfold mT;split<;>simp
theorem A3 (x:fJ) (fr:List Int):(lF x fr).length≤fr.length+1:=by unfold lF;split<;>simp
theorem FI (fr:List Int) (c:Nat) (x:fJ) (hk:x.kind≠6) (hx:x.kind=5->wv x.num≤512) (hf:fr.length≤1000) (gJ:∀k∈fr,-1000≤k∧k≤1000) (hc:c≤1000000):gm Tryz.prog 176 [.addr 1000000000000 0,.agg (aY x)] (Cg fr c) (.bk []) (Cg (lW fr x) (c+1)):=by
 have hl:(ae bA fr).length=fr.length*3:=aE (e:=3) (fun _=>rfl) ..
 refine nj Tryz.func176 106<|zP 2 [{},yH [(4,yV (ai (↑(c+1):Int)))]] [.aa [3,0,1] [1000000000000,3,5]] [yB (ai (IntKind.i64.wrap ((↑c:Int)+1))=ai (↑(c+1):Int)) (dE ah ah),yL 2 2] (bf.nJ (fun (u:Unit)=>(⟨[(3,AV.addr 3 0),(1,AV.agg (aY x)),(0,AV.addr 1000000000000 0)],[(3,⟨1,false,true,List.map (aB 3) (aY x)⟩),(1000000000000,⟨1,false,true,[.ref 5,ai (c+1:Nat)]⟩),(5,⟨3,true,false,ae bA (mT fr)⟩)]⟩:AS)) (fun u=>(True)) bt ?_ ?_)
 ·by_cases h:0<fr.length
  ·obtain ⟨n,hn⟩:∃n,fr.length=n+1:=⟨fr.length-1,ah⟩
   have hb:=gJ (fr.getD n default) (by rw [List.getD_eq_getElem?_getD,List.getElem?_eq_getElem ah];exact List.getElem_mem ah)
   have w:IntKind.i64.wrap ((fr.length:Int)-1)=n:=by rw [IntKind.wrap_i64];omega
   have w2:IntKind.i64.wrap (fr.getD n default-1)=fr.getD n default-1:=by rw [IntKind.wrap_i64];omega
   have h3:=BO (l:=fr) (n:=n) ah
   have e1:mT fr=fr.set n (fr.getD n default-1):=by unfold mT;rw [if_neg ah,show fr.length-1=n by omega];rfl
   have e2:=Ew fr n (fr.getD n default-1) ah
   refine zP 2 [yH [(4,{k:=fr.length})],{}] [.aa [19,4,3,0,1] [1000000000000,3,5]] [yI hl]<|gN 19 ((↑fr.length:Int)>0)<|zX (yH [(5,yV (ai ↑n)),(6,{k:=n}),(8,yV (ai (fr.getD n default))),(9,yV (ai (fr.getD n default-1))),(10,{k:=n})]) [yI (yc w),yR (↑n:Int),yO (n*3<(ae bA fr).length),yA bA fr n 1,yN (fr.getD n default-1),yR (↑n:Int),yO (n*3<(ae bA fr).length),yO (n*3+1+1≤(ae bA fr).length)]<|ak (⟨(),trivial,(eu [.aa [3,1,0] [3,1000000000000,5]] [] [5] [yB ((ae bA fr).set (n*3+1) (ai (fr.getD n default-1))=ae bA (mT fr)) (by rw [e1];exact e2)])⟩)
  ·have e1:mT fr=fr:=by unfold mT;rw [if_pos ah]
   refine zP 2 [yH [(4,{k:=fr.length})],{}] [.aa [19,4,3,0,1] [1000000000000,3,5]] [yI hl]<|dq 19 ((↑fr.length:Int)>0)<|aW (⟨(),trivial,(eu [.aa [3,1,0] [3,1000000000000,5]] [] [5] [yB (ae bA fr=ae bA (mT fr)) (by rw [e1])])⟩)
 rintro u -
 generalize hg:mT fr=f at *
 have tp:f.length≤1000:=by rw [←hg,B2];exact hf
 have Bq:(ae bA f).length=f.length*3:=aE (e:=3) (fun _=>rfl) ..
 refine bf.nJ (fun (u:Unit)=>(⟨[(3,AV.addr 3 0),(1,AV.agg (aY x)),(0,AV.addr 1000000000000 0)],[(3,⟨1,false,true,List.map (aB 3) (aY x)⟩),(1000000000000,⟨1,false,true,[.ref 5,ai (c+1:Nat)]⟩),(5,⟨3,true,false,ae bA (lF x f)⟩)]⟩:AS)) (fun u=>(True)) bt ?_ ?_
 ·by_cases h:x.kind=5
  ·have hx:=hx h
   by_cases h2:0<wv x.num
   ·have e1:lF x f=f++ [wv x.num]:=if_pos ⟨h,h2⟩
    refine zP 1 [{}] [.aa [39,3,1,0] [3,1000000000000,5]] (yM 4 (yB ((x.kind == (5:Int))=true) eg))<|gN 39 (wv x.num>0)<|wz 11 [10] [(7,yV (ai (wv x.num)))] [yN (wv x.num),yO (((ae bA f).length+3)*40≤422212465065984),yR (AV.addr 1000000000000 0),yL 1 2]<|ak (⟨(),trivial,(eu [.vK 50 5,.aa [3,1,0] [3,1000000000000,5]] [] [5] [yB (ae bA f++ [ao false,ai (wv x.num),AV.nil]=ae bA (lF x f)) (by rw [e1,←fG];rfl)])⟩)
   ·have e1:lF x f=f:=if_neg (fun q=>h2 q.2)
    refine zP 1 [{}] [.aa [39,3,1,0] [3,1000000000000,5]] (yM 4 (yB ((x.kind == (5:Int))=true) eg))<|dq 39 (wv x.num>0)<|aW (⟨(),trivial,(eu [.aa [3,1,0] [3,1000000000000,5]] [] [5] [yB (ae bA f=ae bA (lF x f)) (by rw [e1])])⟩)
  ·have e1:lF x f=f:=if_neg (fun q=>h q.1)
   refine zP 1 [yH ([(7,{b:=false})]++yg [4,5,6])] [.aa [39,3,1,0] [3,1000000000000,5]] (yM 4 (yB ((x.kind == (5:Int))=false) bD))<|zF 39<|aW (⟨(),trivial,(eu [.aa [3,1,0] [3,1000000000000,5]] [] [5] [yB (ae bA f=ae bA (lF x f)) (by rw [e1])])⟩)
 rintro u -
 have dC:lW fr x=pn (lF x f):=by unfold lW;rw [hg]
 have Nz:(lF x f).length≤1001:=by have:=A3 x f;omega
 generalize lF x f=g at *
 have Sp:(ae bA g).length=g.length*3:=aE (e:=3) (fun _=>rfl) ..
 refine zS<|zP 1 [yH ([(7,{b:=false})]++yg [4,5,6])] [.aa [60,3,1,0] [3,1000000000000,5]] (yM 4 (yB ((x.kind == (6:Int))=false) bD))<|zF 60<|aW<|zP 1 [yH [(4,{k:=g.length})]] [.aa [5,60,3,1,0] [3,1000000000000,5]] [yI Sp]<|zB 0 (zL (fun (q:Nat)=>(⟨[(60,ao false),(3,AV.addr 3 0),(1,AV.agg (aY x)),(5,ai q),(0,AV.addr 1000000000000 0)],[(3,⟨1,false,true,List.map (aB 3) (aY x)⟩),(1000000000000,⟨1,false,true,[.ref 5,ai (c+1:Nat)]⟩),(5,⟨3,true,false,ae bA (g.take q)⟩)]⟩:AS)) (fun q=>(q≤g.length∧lG g q=lG g g.length)) (fun q=>q) (g.length) ?_ (eu [.aa [60,3,1,5,0] [3,1000000000000,5]] [] [5] [yB (ae bA g=ae bA (List.take g.length g)) (by rw [List.take_length])]) ?_)
 ·exact ⟨Nat.le_refl _,rfl⟩
 rintro q ⟨hq,hp⟩
 have So:(ae bA (g.take q)).length=q*3:=by rw [aE (e:=3) (fun _=>rfl),List.length_take];omega
 cases q with
 | zero =>
  refine zS<|zP 1 [yH ([(13,{b:=false})]++yg [3,4,5,6,7,8,9,10,11,12])] [.aa [93,60,3,1,5,0] [3,1000000000000,5]] (yM 11 (yR false))<|zF 93<|zE 0<|aS<|aK<|bg (lq.tg [] (s2:=AS.mk [(93,ao false),(60,ao false),(3,AV.addr 3 0),(1,AV.agg (aY x)),(5,ai (↑(0:Nat):Int)),(0,AV.addr 1000000000000 0)] [(3,Row.mk 1 false true (List.map (aB 3) (aY x))),(1000000000000,Row.mk 1 false true [AV.ref 5,ai (↑(c+1):Int)]),(5,Row.mk 3 true false (ae bA (List.take 0 g)))]) bt (C:=[[AV.ref 5,ai (↑(c+1):Int)]= [AV.ref 5,ai (↑(c+1):Int)],ae bA (List.take 0 g)=ae bA (lW fr x)]) bt ⟨rfl,(by rw [dC,pn,←hp];rfl),trivial⟩)
 | succ m =>
  have w:IntKind.i64.wrap ((m+1:Nat)-1:Int)=m:=by rw [IntKind.wrap_i64];omega
  have h3:=BO (l:=g.take (m+1)) (n:=m) (by rw [List.length_take];omega)
  have gz:(List.take (m+1) g).getD m default=g.getD m 0:=by
   rw [List.getD_eq_getElem?_getD,List.getElem?_take,if_pos ah,←List.getD_eq_getElem?_getD];rfl
  by_cases h:g.getD m 0=0
  ·have e1:lG g (m+1)=lG g m:=by show (if _ then _ else _)=_;rw [if_pos h]
   refine zS<|zP 1 [yH [(8,yV (ai ((↑(m+1):Int)-1))),(9,{k:=m+1-1}),(11,yV (ai ((List.take (m+1) g).getD (m+1-1) default))),(12,yV (ao true))]] [.aa [93,60,3,1,5,0] [3,1000000000000,5]] (yM 6 (yT ((↑(m+1):Int)>0))++ [yN ((↑(m+1):Int)-1),yT ((↑(m+1):Int)>0),yO ((↑(m+1):Int)-1=(↑(m+1-1):Int)),yO ((m+1-1)*3<(ae bA (List.take (m+1) g)).length)]++yM 2 (yT ((↑(m+1):Int)>0))++ [yB ((ae bA (List.take (m+1) g))[(m+1-1)*3+1]?=some (ai ((List.take (m+1) g).getD (m+1-1) default))) (by assumption),yT ((↑(m+1):Int)>0),yB (ao ((List.take (m+1) g).getD (m+1-1) default == (0:Int))=ao true) (by simp only [Nat.add_sub_cancel,gz,h];rfl),yT ((↑(m+1):Int)>0)])<|zT 93<|aW<|zS<|zB 1<|zX (yH [(6,yV (ai ↑m)),(7,{m:=m})]) [yI (yc w),yR (↑m:Int),yO (m*3≤(ae bA (List.take (m+1) g)).length),yL 1 2]<|aM<|ak<|zX (yH [(1,yV (ai ((↑(m+1):Int)-1)))]) [yN ((↑(m+1):Int)-1)] ?_
   have ht:((ae bA (g.take (m+1))).take (m*3))=ae bA (g.take m):=by rw [oy (e:=3) (fun _=>rfl),List.take_take,Nat.min_eq_left ah]
   refine KP (bU.cut 5 (m*3) (r:=⟨3,true,false,ae bA (g.take (m+1))⟩) bt rfl (by show m*3≤(ae bA _).length;rw [So];omega)) (aH m ⟨ah,by rw [←hp,e1]⟩ ah (eu [.aa [60,3,1,5,0] [3,1000000000000,5]] [5] [1000000000000,5] [yB (ai ((↑(m+1):Int)-1)=ai ↑m) (congrArg (fun n=>AV.val (.int .i64 n)) ah),yB ([pI 5 (m*3) (AV.pre 5 (m*3)),ai (↑(c+1):Int)]= [AV.ref 5,ai (↑(c+1):Int)]) (by rw [JV]),yI ht]))
  ·have e1:lG g (m+1)=m+1:=by show (if _ then _ else _)=_;rw [if_neg h]
   refine zS<|zP 1 [yH [(8,yV (ai ((↑(m+1):Int)-1))),(9,{k:=m+1-1}),(11,yV (ai ((List.take (m+1) g).getD (m+1-1) default))),(12,yV (ao false))]] [.aa [93,60,3,1,5,0] [3,1000000000000,5]] (yM 6 (yT ((↑(m+1):Int)>0))++ [yN ((↑(m+1):Int)-1),yT ((↑(m+1):Int)>0),yO ((↑(m+1):Int)-1=(↑(m+1-1):Int)),yO ((m+1-1)*3<(ae bA (List.take (m+1) g)).length)]++yM 2 (yT ((↑(m+1):Int)>0))++ [yB ((ae bA (List.take (m+1) g))[(m+1-1)*3+1]?=some (ai ((List.take (m+1) g).getD (m+1-1) default))) (by assumption),yT ((↑(m+1):Int)>0),yB (ao ((List.take (m+1) g).getD (m+1-1) default == (0:Int))=ao false) (by simp only [Nat.add_sub_cancel,gz];rw [beq_eq_false_iff_ne.2 h]),yT ((↑(m+1):Int)>0)])<|zF 93<|zE 0<|aS<|aK<|bg (lq.tg [] (s2:=AS.mk [(93,ao false),(60,ao false),(3,AV.addr 3 0),(1,AV.agg (aY x)),(5,ai (↑(m+1):Int)),(0,AV.addr 1000000000000 0)] [(3,Row.mk 1 false true (List.map (aB 3) (aY x))),(1000000000000,Row.mk 1 false true [AV.ref 5,ai (↑(c+1):Int)]),(5,Row.mk 3 true false (ae bA (List.take (m+1) g)))]) bt (C:=[[AV.ref 5,ai (↑(c+1):Int)]= [AV.ref 5,ai (↑(c+1):Int)],ae bA (List.take (m+1) g)=ae bA (lW fr x)]) bt ⟨rfl,(by rw [dC,pn,←hp,e1]),trivial⟩)
set_option maxHeartbeats 4000000 in
theorem Jf (n:Nat) (w:World) (h0:0<n) (hn:n≤70368744177664) :
  Calls Tryz.prog 90 #[.slice none 0 0,.int .i64 n] w fun e w'=>qP w e w' []:=by
 obtain ⟨i0,OV,RT,lP,Uf⟩:∃i:TypeInfo,Tryz.prog.info? 5=some i∧i.zero=some (.int .u8 0)∧i.size=1∧i.bytes=1:=by
  have h:=Mk
  cases hp:Tryz.prog.info? 5 with
  | none=>rw [hp] at h;cases h
  | some i=>rw [hp] at h;simp at h;exact ⟨i,rfl,h⟩
 have hold:(Builtin.firstCells i0.size 0 (.slice none 0 0)).run Tryz.prog w.drew= .ok (([]:List Value)).toArray w.drew:=run_firstCells_none w.drew i0.size 0 0 0
 have TU:∀ty,(Builtin.append_ #[25,3] ty #[.slice none 0 0,.int .i64 n]).run Tryz.prog w =
   .ok (.slice (some ⟨w.heap.size,0,none⟩) n (grownCap w n 0 5)) (w.drew.alloc (.cells (#[]++Builtin.zeroCells (Value.int .u8 0).cells n++Builtin.zeroCells (Value.int .u8 0).cells (grownCap w n 0 5-n)) 5)):=fun ty=>by
  have h:=Lib.run_append_grow_zeros w 25 3 ty 5 i0 (.int .u8 0) .i64 .i64 Tryz.underlying25 Tryz.underlying3 OV RT none 0 0 [] hold n h0 ah ah ah (by rw [Uf];omega)
   (by have:=growslice_fits (bytes:=i0.bytes) (ah:0<0+n) (by rw [Uf];omega);exact this)
  simpa using h
 have VN:n≤grownCap w n 0 5:=grownCap_ge w _ _ _
 obtain ⟨G,hG⟩:∃G,G=grownCap w n 0 5:=⟨_,rfl⟩
 rw [←hG] at TU VN
 have VO:G≤9223372036854775807:=by
  have:=grownCap_le_maxLen w n 0 5 (by unfold maxLen;omega)
  rw [←hG] at this
  unfold maxLen at this
  omega
 clear hold hG
 have h1:¬((n:Int)<0):=ah
 have h3:wrap64 ((n:Int)-0)=(n:Int):=by unfold wrap64;omega
 have h4:(n:Int)>0:=ah
 go_enter Tryz.func90,Tryz.ntmps90
 go_wp2_with (at_builtin;refine Lib.wpList_append_run _ rfl _ _ _ _ rfl _ _ rfl rfl _ _ (TU _) ?_)
 all_goals (go_ret;exact ⟨_,rfl,.inr ⟨w.heap.size,G,_,_,(0,0),rfl,Nat.le_refl _,heap_alloc_new w.drew _,by simp [sM],by unfold maxLen;omega,by simp [Builtin.zeroCells];omega,by simp [sM],by simp⟩,rfl,rfl,rfl,by simp,fun b hb=>Below.heap_alloc w.drew _ b hb⟩)
theorem Gp (w:World) :
  Calls Tryz.prog 90 #[.slice none 0 0,.int .i64 0] w fun e w'=>qP w e w' []:=by
 go_enter Tryz.func90,Tryz.ntmps90
 go_wp2
 go_ret
 exact ⟨_,rfl,.inl ⟨rfl,rfl⟩,Below.refl _ _⟩
theorem Je (n:Nat) (hn:n≤70368744177664):bC Tryz.prog 90 [.nil,ai n] (.own 1 (ag [])):=by
 refine bC.A7 fun w vs hl hr=>?_
 obtain ⟨a,b,rfl⟩:=QP hl rfl
 have h0:=hr 0 a _ rfl rfl
 have ha:a= .slice none 0 0:=by cases h0;rfl
 rw [ha,KR (hr 1 b _ rfl rfl)]
 by_cases h:n=0
 ·subst h;exact Gp w
 ·exact Jf n w ah hn
def eM (b:List UInt8):List AV:=[.sl 1 (ag b)]
def fv (l:List (List UInt8)):Nat:=(l.map List.length).foldr (· + ·) 0
theorem sv (l:List (List UInt8)) (i:Nat) (h:i<l.length):fv (l.take (i+1))=fv (l.take i)+(l.getD i default).length:=by
 induction l generalizing i with
 | nil=>simp at h
 | cons a l ih =>
  cases i with
  | zero=>simp [fv]
  | succ i =>
   have:=ih i (by simpa using h)
   simp [fv] at this ⊢
   omega
theorem oi (l:List (List UInt8)) (i:Nat):fv (l.take i)≤fv l:=by
 induction l generalizing i with
 | nil=>simp [fv]
 | cons a l ih =>
  cases i with
  | zero=>simp [fv]
  | succ i=>have:=ih i;simp [fv] at this ⊢;omega
theorem Gu (l:List (List UInt8)) (i:Nat) (h:i<l.length):(l.take i).flatten++l.getD i default=(l.take (i+1)).flatten:=by
 rw [List.take_add_one,List.flatten_append]
 simp [h]
theorem Jn (l:List (List UInt8)):l.flatten.length=fv l:=by
 induction l with
 | nil=>rfl
 | cons a l ih=>simp [fv,ih]
theorem D5 (l:List (List UInt8)) (h:fv l≤70368744177664) (h2:l.length≤1000):bC Tryz.prog 45 [.sl 1 (ae eM l)] (.own 1 (ag l.flatten)):=by
 have hl:(ae eM l).length=l.length:=by rw [aE (e:=1) (fun _=>rfl),Nat.mul_one]
 have gh:∀i,i<l.length->(ae eM l)[i]?=some (.sl 1 (ag (l.getD i default))):=fun i hi=>by
  have:=mS (f:=eM) (e:=1) (fun _=>rfl) (j:=0) hi rfl
  rwa [Nat.mul_one,Nat.add_zero] at this
 have ht:l.take l.length=l:=List.take_of_length_le (Nat.le_refl _)
 refine zO Tryz.func45 36<|zQ 2 [{},{}] []<|zS<|zQ 1 [yH [(1,{k:=(ae eM l).length})]] [yR ((ae eM l).length)]<|zB 0 (zL (fun (i:Nat)=>(⟨[(10,ai (↑(ae eM l).length:Int)),(9,AV.sl 1 (ae eM l)),(2,AV.nil),(0,AV.sl 1 (ae eM l)),(11,ai i),(3,ai (fv (l.take i)))],[]⟩:AS)) (fun i=>(i≤l.length)) (fun i=>(l.length-i)) (0) ?_ (zW [.aa [10,9,2,0,11,3] []]) ?_)
 ·omega
 intro i hi
 have hle:=oi l i
 have Sn:=oi l (i+1)
 refine zq<|zS (zD 12 ((↑i:Int)<(↑(ae eM l).length:Int)) (fun h3=>?_) (fun h3=>?_))
 ·have ji:i<l.length:=ah
  have h4:=sv l i ji
  refine aW<|zS<|zB 1<|zP 3 [yH [(0,{k:=i}),(1,yV (AV.sl 1 (ag (l.getD i default))))],yH [(2,{k:=(l.getD i default).length}),(3,yV (ai ((↑(fv (List.take i l)):Int)+(↑(l.getD i default).length:Int))))],{}] [.aa [20,3,5,12,10,9,2,0,11] []] [yR (↑i:Int),yO (i<(ae eM l).length),yB ((ae eM l)[i]?=some (AV.sl 1 (ag (l.getD i default)))) (gh i ah),yI (aD (l.getD i default)),yN ((↑(fv (List.take i l)):Int)+(↑(l.getD i default).length:Int))]<|dq 20 ((↑(fv (List.take i l)):Int)+(↑(l.getD i default).length:Int)<0)<|zK<|aM<|ak<|zX (yH [(0,yV (ai ((↑i:Int)+1)))]) [yN ((↑i:Int)+1)] (aH (i+1) (by assumption) ah (eu [.aa [10,9,2,0,11,3] []] [3] [] [yB (ai ((↑(fv (List.take i l)):Int)+(↑(l.getD i default).length:Int))=ai (↑(fv (List.take (i+1) l)):Int)) (congrArg (fun n=>AV.val (.int .i64 n)) ah)]))
 ·have e:i=l.length:=ah
  subst e
  rw [ht]
  refine zE 0<|aS<|aK<|bg<|ak<|zP 1 [yH [(1,yV (AV.own 1 (ag [])))]] [.aa [6,12,10,9,2,0,11,3] [24]] [yI (Je (fv l) h),yI (aP [])]<|zS<|zQ 1 [yH [(1,{k:=(ae eM l).length})]] [yR ((ae eM l).length)]<|zB 2 (zL (fun (i:Nat)=>(⟨[(26,ai (↑(ae eM l).length:Int)),(25,AV.sl 1 (ae eM l)),(12,ao (decide ((↑l.length:Int)<(↑(ae eM l).length:Int)))),(10,ai (↑(ae eM l).length:Int)),(9,AV.sl 1 (ae eM l)),(2,AV.nil),(0,AV.sl 1 (ae eM l)),(11,ai (↑l.length:Int)),(3,ai (↑(fv l):Int)),(27,ai i),(6,AV.ref 33)],[(33,⟨1,true,false,ag (l.take i).flatten⟩)]⟩:AS)) (fun i=>(i≤l.length)) (fun i=>(l.length-i)) (0) ?_ (zW [.vK 24 33,.aa [26,25,12,10,9,2,0,11,3,27,6] [33]]) ?_)
  ·omega
  intro i hi
  have hle:=oi l i
  have Sn:=oi l (i+1)
  have tp:=Jn (l.take i)
  refine zq<|zS (zD 28 ((↑i:Int)<(↑(ae eM l).length:Int)) (fun h3=>?_) (fun h3=>?_))
  ·have ji:i<l.length:=ah
   have h4:=sv l i ji
   have h5:=Gu l i ji
   refine aW<|zS<|zB 3<|zP 1 [yH [(0,{k:=i}),(1,yV (AV.sl 1 (ag (l.getD i default))))]] [.aa [8,28,26,25,12,10,9,2,0,11,3,27,6] [33]] [yR (↑i:Int),yO (i<(ae eM l).length),yB ((ae eM l)[i]?=some (AV.sl 1 (ag (l.getD i default)))) (gh i ah)]<|zX (yH [(2,{av:=some (AV.arr (ag ((List.take i l).flatten++l.getD i default))),b:=false})]) [yB (ag (List.take i l).flatten++ag (l.getD i default)=ag ((List.take i l).flatten++l.getD i default)) (da _ _),yB (cE (ag (l.getD i default))) (fW _),yB (((ag (List.take i l).flatten).length+(ag (l.getD i default)).length)*1≤140737488355328) (by simp only [aD];omega)]<|aM<|ak<|zX (yH [(0,yV (ai ((↑i:Int)+1)))]) [yN ((↑i:Int)+1)] (aH (i+1) (by assumption) ah (eu [.aa [26,25,12,10,9,2,0,11,3,27,6] [33]] [] [33] [yB (ag ((List.take i l).flatten++l.getD i default)=ag (List.take (i+1) l).flatten) (congrArg ag h5)]))
  ·have e:i=l.length:=ah
   subst e
   refine zE 2<|aS<|aK<|bg<|ak<|zq<|zR (zV [yB (ag (List.take l.length l).flatten=ag l.flatten) (by rw [ht])])
structure MS where
 a:UInt8
 b:UInt8
 p:UInt8
def uB (s:MS):MS:=⟨if s.a&&&128≠0 then (s.a<<<1)^^^27 else s.a<<<1,s.b>>>1,if s.b&&&1≠0 then s.p^^^s.a else s.p⟩
def bS (s:MS):Nat->MS
 | 0=>s
 | k+1=>uB (bS s k)
def eF (a b:UInt8):UInt8:=(bS ⟨a,b,0⟩ 8).p
structure RS where
 x:UInt64
 p:UInt8
def uc (b:UInt8) (k:Nat) (s:RS):RS:=⟨if (s.x<<<1)&&&256≠0 then (s.x<<<1)^^^283 else s.x<<<1,if (b>>>UInt8.ofNat k)&&&1=1 then s.p^^^s.x.toUInt8 else s.p⟩
def gA (a b:UInt8):Nat->RS
 | 0=>⟨a.toUInt64,0⟩
 | k+1=>uc b k (gA a b k)
def kI (a b:UInt8):UInt8:=(gA a b 8).p
theorem uj (a b:UInt8):bC Tryz.prog 158 [ab a,ab b] (ab (kI a b)):=by
 refine zO Tryz.func158 31<|zP 3 [{},{},yH [(1,yV (aw a.toUInt64))]] [.aa [6,5,4,0,1] []] [yI (Eb a)]<|zS<|zq<|zB 0 (zL (fun (k:Nat)=>(⟨[(1,ab b),(5,ab (gA a b k).p),(6,aw (gA a b k).x),(7,AV.val (.int .u64 k))],[]⟩:AS)) (fun k=>(k≤8)) (fun k=>(8-k)) (0) ?_ (zW [.aa [1,5,6,7] []]) ?_)
 ·omega
 intro k hk
 generalize hm:gA a b k=s
 refine zS<|zq (zD 11 ((↑k:Int)<8) (fun hc=>?_) (fun hc=>?_))
 ·skip
  refine aW<|zS<|zB 1 (bf.join (⟨[(1,ab b),(5,ab (if (b>>>UInt8.ofNat k)&&&1=1 then s.p^^^s.x.toUInt8 else s.p)),(6,aw s.x),(7,AV.val (Value.int .u64 (↑k:Int)))],[]⟩:AS) bt ?_ ?_)
  ·refine zP 1 [yH [(2,yV (ab (b>>>UInt8.ofNat (↑k:Int).toNat))),(3,yV (ab (b>>>UInt8.ofNat (↑k:Int).toNat&&&(1:UInt8)))),(4,yV (ao (b>>>UInt8.ofNat (↑k:Int).toNat&&&(1:UInt8) == 1)))]] [.aa [18,11,1,5,6,7] []] [yI (L4 b ((↑k:Int)) ah ah),yO ((0:Int)≤(↑k:Int)),yI (L6 (b>>>UInt8.ofNat (↑k:Int).toNat) 1),yI (Ox (b>>>UInt8.ofNat (↑k:Int).toNat&&&(1:UInt8)) 1)] (bf.JZ (x:=.tmp 18) (u:=b>>>UInt8.ofNat (↑k:Int).toNat&&&(1:UInt8)) (v:=1) bt bt (fun hc=>?_) (fun hc=>?_))
   ·skip
    refine zX (yH [(2,yV (ab s.x.toUInt8)),(3,yV (ab (s.p^^^s.x.toUInt8)))]) [yR (ab s.x.toUInt8),yI (Fp s.p s.x.toUInt8)]<|ak ?_
    exact (eu [.aa [1,5,6,7] []] [5] [] [yB (ab (s.p^^^s.x.toUInt8)=ab (if b>>>UInt8.ofNat k&&&(1:UInt8)=1 then s.p^^^s.x.toUInt8 else s.p)) (by rw [if_pos (by simpa using hc)])])
   ·skip
    refine aW ?_
    exact (eu [.aa [1,5,6,7] []] [5] [] [yB (ab s.p=ab (if b>>>UInt8.ofNat k&&&(1:UInt8)=1 then s.p^^^s.x.toUInt8 else s.p)) (by rw [if_neg (by simpa using hc)])])
  refine zP 2 [yH [(1,yV (aw (s.x<<<(1:UInt64))))],yH [(1,yV (aw (s.x<<<(1:UInt64)&&&(256:UInt64)))),(2,yV (ao (s.x<<<(1:UInt64)&&&(256:UInt64) != 0)))]] [.aa [27,6,1,5,7] []] [yI (jD s.x ((1:Int)) ah ah),yO ((0:Int)≤1),yI (iZ (s.x<<<(1:UInt64)) 256),yI (cJ (s.x<<<(1:UInt64)&&&(256:UInt64)) 0)] (zN 27 (s.x<<<(1:UInt64)&&&(256:UInt64)) 0 (fun h2=>?_) (fun h2=>?_))
  ·refine zX (yH [(1,yV (aw (s.x<<<(1:UInt64)^^^(283:UInt64))))]) [yI (cM (s.x<<<(1:UInt64)) 283)]<|aM<|ak<|zX (yH [(1,yV (AV.val (Value.int .u64 ((↑k:Int)+1))))]) [yB (AV.val (Value.int .u64 (IntKind.u64.wrap ((↑k:Int)+1)))=AV.val (Value.int .u64 ((↑k:Int)+1))) (rW ah ah)] (aH (k+1) ah ah (eu [.aa [1,5,6,7] []] [5,6] [] [yB (ab (if b>>>UInt8.ofNat k&&&(1:UInt8)=1 then s.p^^^s.x.toUInt8 else s.p)=ab ((gA a b (k+1)).p)) (by simp only [gA,hm,uc]<;>rw [if_pos (by simpa using h2)]),yB (aw (s.x<<<(1:UInt64)^^^(283:UInt64))=aw ((gA a b (k+1)).x)) (by simp only [gA,hm,uc]<;>rw [if_pos (by simpa using h2)])]))
  ·refine zK<|aM<|ak<|zX (yH [(1,yV (AV.val (Value.int .u64 ((↑k:Int)+1))))]) [yB (AV.val (Value.int .u64 (IntKind.u64.wrap ((↑k:Int)+1)))=AV.val (Value.int .u64 ((↑k:Int)+1))) (rW ah ah)] (aH (k+1) ah ah (eu [.aa [1,5,6,7] []] [5,6] [] [yB (ab (if b>>>UInt8.ofNat k&&&(1:UInt8)=1 then s.p^^^s.x.toUInt8 else s.p)=ab ((gA a b (k+1)).p)) (by simp only [gA,hm,uc]<;>rw [if_neg (by simpa using h2)]),yB (aw (s.x<<<(1:UInt64))=aw ((gA a b (k+1)).x)) (by simp only [gA,hm,uc]<;>rw [if_neg (by simpa using h2)])]))
 ·have e8:k=8:=ah
  subst e8
  refine zE 0<|aS<|aK<|bg<|ak<|zP 1 [{}] [.aa [4,11,1,5,6,7] []] []<|zR (zV [yB (Value.int .u8 (bv s.p)=Value.int .u8 (bv (kI a b))) (by rw [←hm];rfl)])
def yU (a:UInt8):Nat->UInt8
 | 0=>1
 | k+1=>kI (yU a k) a
def dS (p:Int×List UInt8):List AV:=[ai p.1,.sl 1 (ag p.2)]
def dC (aV:List UInt8) (L j:Nat) (x:UInt8) (need:Nat):Nat->UInt8
 | 0=>0
 | m+1=>eF (dC aV L j x need m^^^aV.getD ((need-1-m-1)*L+j) 0) x
def dr (ar aV:List UInt8) (need n:Int):Int :=
 if 64<ar.length then 8 else if need<1∨n<need∨255<n then 9 else if (aV.length:Int)<(need-1)*ar.length then 1 else 0
def Cu (ar aV:List UInt8) (need:Nat) (x:UInt8) (j:Nat):UInt8:=dC aV ar.length j x need (need-1)^^^ar.getD j 0
def xJ (ar aV:List UInt8) (need:Nat) (x:UInt8):List UInt8:=(List.range ar.length).map (Cu ar aV need x)
def HB (ar aV:List UInt8) (need:Nat) (i:Nat):Int×List UInt8:=((i:Int)+1,xJ ar aV need (u8 ((i:Int)+1)))
def iM (ar aV:List UInt8) (need n:Int):List (Int×List UInt8):=if dr ar aV need n=0 then (List.range n.toNat).map (HB ar aV need.toNat) else []
abbrev Sh:=Int×List UInt8
def ax (s:List UInt8):List AV:=[cQ s]
structure np where
 bY:UInt64
 peer:UInt64
 box:List UInt8
 af:List (List UInt8)
 ay:List UInt64
 need:Int
 target:UInt64
def a_ (d:np):List AV:=[aw d.bY,aw d.peer,.sl 1 (ag d.box),.sl 1 (ae ax d.af),.sl 1 (aj d.ay),ai d.need,aw d.target]
def oM (h s:List UInt8):UInt64:=hash 22 (h++ [0]++s)
theorem qV (h:List UInt8) (hh:h.length≤1000):(⟨h.toArray⟩:ByteArray).size≤maxLen:=by
 show h.toArray.size≤_
 unfold maxLen
 simp;omega
theorem ie {l:List (List UInt8)} {i:Nat} (h:i<l.length):(ae ax l)[i]?=some (cQ (l.getD i default)):=by
 have:=mS (f:=ax) (e:=1) (l:=l) (k:=i) (j:=0) (fun _=>rfl) h (c:=cQ (l.getD i default)) rfl
 simpa using this
theorem vY (h s:List UInt8) (hh:h.length≤1000) (hs:s.length≤1000):bC Tryz.prog 121 [cQ h,.sl 1 (ag s)] (aw (oM h s)):=by
 have hz:=qV h hh
 refine zO Tryz.func121 12<|zP 2 [{},yH [(2,yV (AV.arr (ag [0]))),(3,yV (AV.arr (ag (h.toArray.toList++ [0])))),(5,{av:=some (AV.arr (ag (h.toArray.toList++ [0]++s))),b:=false}),(6,yV (aw (hash (22:Int) (h.toArray.toList++ [0]++s))))]] [.aa [4,0,1] []] [yI hz,yR (ag [0]),yB (ag h.toArray.toList++ag [0]=ag (h.toArray.toList++ [0])) (da _ _),yB (((ag h.toArray.toList).length+1)*1≤140737488355328) (by simp only [aD];omega),yB (ag (h.toArray.toList++ [0])++ag s=ag (h.toArray.toList++ [0]++s)) (da _ _),yB (cE (ag s)) (fW _),yB (((ag (h.toArray.toList++ [0])).length+(ag s).length)*1≤140737488355328) (by simp only [aD,List.length_append,List.length_cons,List.length_nil];omega),yI (iA ((22:Int)) (h.toArray.toList++ [0]++s) (by simp only [List.length_append,List.length_cons,List.length_nil];omega))]<|zR (bL)
structure Mem where
 name:List UInt8
 h:Int
 r:UInt64
 used:UInt64
def aG (m:Mem):List AV:=[cQ m.name,ai m.h,aw m.r,aw m.used]
structure gp where
 aA:Int
 head:UInt64
 br:Int
 al:List Mem
 aL:List np
def bo (g:gp):List AV:=[ai g.aA,aw g.head,ai g.br,.sl 4 (ae aG g.al),.sl 7 (ae a_ g.aL)]
instance:Inhabited np:=⟨⟨0,0,[],[],[],0,0⟩⟩
instance:Inhabited Mem:=⟨⟨[],0,0,0⟩⟩
def vP (l:List np) (p:UInt64):Nat:=l.findIdx (fun d=>d.bY == p)
theorem Jl {l:List np} {p:UInt64} (h:∀j,j<l.length->(l.getD j default).bY≠p):vP l p=l.length:=by
 unfold vP
 apply List.findIdx_eq_length.2
 intro d hd
 obtain ⟨j,hj,e⟩:=List.getElem_of_mem hd
 have:=h j hj
 rw [List.getD_eq_getElem?_getD,List.getElem?_eq_getElem hj] at this
 simpa [←e] using this
theorem Jm {l:List np} {p:UInt64} {i:Nat} (hi:i<l.length) (h:∀j,j<i->(l.getD j default).bY≠p) (e:(l.getD i default).bY=p):vP l p=i:=by
 unfold vP
 rw [List.getD_eq_getElem?_getD,List.getElem?_eq_getElem hi] at e
 refine (List.findIdx_eq hi).2 ⟨by simpa using e,fun j hj=>?_⟩
 have:=h j hj
 rw [List.getD_eq_getElem?_getD,List.getElem?_eq_getElem ah] at this
 simpa using this
def kr (U u:UInt64):UInt64:=UInt64.ofNat ((U.toNat*4294967296+u.toNat)%18446744073709551608)
def mq (n:Nat):UInt64:=UInt64.ofNat (n%2305843009213693951)
theorem uC (n:Nat):(mq n).toNat=n%2305843009213693951:=by
 rw [mq,UInt64.toNat_ofNat',Nat.mod_eq_of_lt];omega
theorem Ie {n m:Nat} (h:n%2305843009213693951=m%2305843009213693951):mq n=mq m:=by rw [mq,mq,h]
theorem qh (x:UInt64):(x%2305843009213693951).toNat=x.toNat%2305843009213693951:=by rw [UInt64.toNat_mod];rfl
theorem Ka (x:UInt64):(x&&&1).toNat=x.toNat%2:=by
 rw [UInt64.toNat_and];exact Nat.and_two_pow_sub_one_eq_mod x.toNat 1
theorem qL (x:UInt64):x&&&1=1↔x.toNat%2=1:=by
 rw [←Ka];exact ⟨fun h=>by rw [h];rfl,fun h=>UInt64.toNat_inj.1 h⟩
theorem HG (t:UInt64) (j:Nat) (h0:0<j) (hj:j≤64):(t>>>UInt64.ofNat ((j:Int)-1).toNat).toNat=t.toNat/2^(j-1):=by
 rw [show ((j:Int)-1).toNat=j-1 by omega,UInt64.toNat_shiftRight,Nat.shiftRight_eq_div_pow,UInt64.toNat_ofNat',Nat.mod_eq_of_lt (a:=j-1) ah,Nat.mod_eq_of_lt ah]
theorem Fa (T j:Nat) (h0:0<j):T/2^(j-1)=2*(T/2^j)+T/2^(j-1)%2:=by
 have e:T/2^j=T/2^(j-1)/2:=by rw [Nat.div_div_eq_div_mul,←Nat.pow_succ];congr 2;omega
 omega
theorem nA (a b:UInt64):bC Tryz.prog 170 [aw a,aw b] (aw (mq (a.toNat*b.toNat))):=by
 have hb:=qh b
 have ha:=qh a
 refine zO Tryz.func170 29<|zP 3 [{},yH [(1,yV (aw (a%2305843009213693951))),(3,yV (aw (b%2305843009213693951)))],{}] [.aa [5,1,0,4] []] [yR (aw (a%2305843009213693951)),yO ((2305843009213693951:Int)≠(0:Int)),yR (aw (b%2305843009213693951)),yO ((2305843009213693951:Int)≠(0:Int))]<|zS<|zq<|zB 0 (zL (fun (j:Nat)=>(⟨[(1,aw (b%2305843009213693951)),(0,aw (a%2305843009213693951)),(4,AV.val (Value.int .u64 0)),(6,ai ((j:Int)-1)),(5,aw (mq (a.toNat*((b%2305843009213693951).toNat/2^j))))],[]⟩:AS)) (fun j=>(j≤61)) (fun j=>(j)) (61) ?_ (eu [.aa [1,0,4,6,5] []] [5] [] [yB (AV.val (Value.int .u64 0)=aw (mq (a.toNat*((b%2305843009213693951).toNat/(2:Nat)^61)))) (congrArg aw (show 0=mq _ by rw [Nat.div_eq_of_lt ah,Nat.mul_zero];rfl))]) ?_)
 ·omega
 intro j hj
 by_cases h0:0<j
 ·have hs:=HG (b%2305843009213693951) j h0 ah
  have hh:=Fa (b%2305843009213693951).toNat j h0
  have OQ:=uC (a.toNat*((b%2305843009213693951).toNat/2^j))
  have e0:(mq (a.toNat*((b%2305843009213693951).toNat/2^j))*2%2305843009213693951).toNat=2*(a.toNat*((b%2305843009213693951).toNat/2^j))%2305843009213693951:=by
   rw [qh,UInt64.toNat_mul,OQ]
   generalize a.toNat*((b%2305843009213693951).toNat/2^j)=X
   show X%_*2%18446744073709551616%_=_
   rw [Nat.mod_eq_of_lt (b:=18446744073709551616) ah,Nat.mul_comm,Nat.mul_mod,Nat.mod_mod,←Nat.mul_mod]
  by_cases h1:(b%2305843009213693951)>>>UInt64.ofNat ((j:Int)-1).toNat&&&1=1
  ·have Jc:=(qL _).1 h1
   rw [hs] at Jc
   have e1:(mq (a.toNat*((b%2305843009213693951).toNat/2^j))*2%2305843009213693951+a%2305843009213693951)%2305843009213693951=mq (a.toNat*((b%2305843009213693951).toNat/2^(j-1))):=by
    apply UInt64.toNat_inj.1
    have e2:a.toNat*(2*((b%2305843009213693951).toNat/2^j)+1)=2*(a.toNat*((b%2305843009213693951).toNat/2^j))+a.toNat:=by rw [Nat.mul_add,Nat.mul_left_comm,Nat.mul_one]
    rw [qh,UInt64.toNat_add,e0,ha,uC,hh,Jc,e2]
    generalize a.toNat*((b%2305843009213693951).toNat/2^j)=X
    show (2*X%_+_)%18446744073709551616%_=_
    rw [Nat.mod_eq_of_lt (b:=18446744073709551616) ah,←Nat.add_mod]
   refine zS<|zq<|gN 12 ((↑j:Int)-1≥0)<|aW<|zS<|zB 1<|zP 2 [yH [(1,yV (aw (mq (a.toNat*((b%2305843009213693951).toNat/(2:Nat)^j))*2))),(2,yV (aw (mq (a.toNat*((b%2305843009213693951).toNat/(2:Nat)^j))*2%2305843009213693951)))],yH [(2,yV (AV.val (Value.int .u64 ((↑j:Int)-1)))),(3,yV (aw ((b%2305843009213693951)>>>UInt64.ofNat ((↑j:Int)-1).toNat))),(4,yV (aw ((b%2305843009213693951)>>>UInt64.ofNat ((↑j:Int)-1).toNat&&&(1:UInt64)))),(5,yV (ao ((b%2305843009213693951)>>>UInt64.ofNat ((↑j:Int)-1).toNat&&&(1:UInt64) == 1)))]] [.aa [23,5,12,1,0,4,6] []] [yR (aw (mq (a.toNat*((b%2305843009213693951).toNat/(2:Nat)^j))*2)),yR (aw (mq (a.toNat*((b%2305843009213693951).toNat/(2:Nat)^j))*2%2305843009213693951)),yO ((2305843009213693951:Int)≠(0:Int)),yB (AV.val (Value.int .u64 (IntKind.u64.wrap ((↑j:Int)-1)))=AV.val (Value.int .u64 ((↑j:Int)-1))) (rW ah ah),yI (fq (b%2305843009213693951) ((↑j:Int)-1) ah ah),yO ((0:Int)≤(↑j:Int)-1),yI (iZ ((b%2305843009213693951)>>>UInt64.ofNat ((↑j:Int)-1).toNat) 1),yI (fw ((b%2305843009213693951)>>>UInt64.ofNat ((↑j:Int)-1).toNat&&&(1:UInt64)) 1)]<|dm 23 ((b%2305843009213693951)>>>UInt64.ofNat ((↑j:Int)-1).toNat&&&(1:UInt64) == 1) eg<|zX (yH [(2,yV (aw (mq (a.toNat*((b%2305843009213693951).toNat/(2:Nat)^j))*2%2305843009213693951+a%2305843009213693951))),(3,yV (aw ((mq (a.toNat*((b%2305843009213693951).toNat/(2:Nat)^j))*2%2305843009213693951+a%2305843009213693951)%2305843009213693951)))]) [yR (aw (mq (a.toNat*((b%2305843009213693951).toNat/(2:Nat)^j))*2%2305843009213693951+a%2305843009213693951)),yR (aw ((mq (a.toNat*((b%2305843009213693951).toNat/(2:Nat)^j))*2%2305843009213693951+a%2305843009213693951)%2305843009213693951)),yO ((2305843009213693951:Int)≠(0:Int))]<|aM<|ak<|zX (yH [(1,yV (ai ((↑j:Int)-1-1)))]) [yN ((↑j:Int)-1-1)] (aH (j-1) ah ah (eu [.aa [1,0,4,6,5] []] [6,5] [] [yB (ai ((↑j:Int)-1-1)=ai ((↑(j-1):Int)-1)) (congrArg ai ah),yB (aw ((mq (a.toNat*((b%2305843009213693951).toNat/(2:Nat)^j))*2%2305843009213693951+a%2305843009213693951)%2305843009213693951)=aw (mq (a.toNat*((b%2305843009213693951).toNat/(2:Nat)^(j-1))))) (congrArg aw e1)]))
  ·have Jc:¬(b%2305843009213693951).toNat/2^(j-1)%2=1:=fun e=>h1 ((qL _).2 (by rw [hs];exact e))
   have e1:mq (a.toNat*((b%2305843009213693951).toNat/2^j))*2%2305843009213693951=mq (a.toNat*((b%2305843009213693951).toNat/2^(j-1))):=by
    apply UInt64.toNat_inj.1
    rw [e0,uC,hh,show (b%2305843009213693951).toNat/2^(j-1)%2=0 by omega,Nat.add_zero,Nat.mul_left_comm]
   refine zS<|zq<|gN 12 ((↑j:Int)-1≥0)<|aW<|zS<|zB 1<|zP 2 [yH [(1,yV (aw (mq (a.toNat*((b%2305843009213693951).toNat/(2:Nat)^j))*2))),(2,yV (aw (mq (a.toNat*((b%2305843009213693951).toNat/(2:Nat)^j))*2%2305843009213693951)))],yH [(2,yV (AV.val (Value.int .u64 ((↑j:Int)-1)))),(3,yV (aw ((b%2305843009213693951)>>>UInt64.ofNat ((↑j:Int)-1).toNat))),(4,yV (aw ((b%2305843009213693951)>>>UInt64.ofNat ((↑j:Int)-1).toNat&&&(1:UInt64)))),(5,yV (ao ((b%2305843009213693951)>>>UInt64.ofNat ((↑j:Int)-1).toNat&&&(1:UInt64) == 1)))]] [.aa [23,5,12,1,0,4,6] []] [yR (aw (mq (a.toNat*((b%2305843009213693951).toNat/(2:Nat)^j))*2)),yR (aw (mq (a.toNat*((b%2305843009213693951).toNat/(2:Nat)^j))*2%2305843009213693951)),yO ((2305843009213693951:Int)≠(0:Int)),yB (AV.val (Value.int .u64 (IntKind.u64.wrap ((↑j:Int)-1)))=AV.val (Value.int .u64 ((↑j:Int)-1))) (rW ah ah),yI (fq (b%2305843009213693951) ((↑j:Int)-1) ah ah),yO ((0:Int)≤(↑j:Int)-1),yI (iZ ((b%2305843009213693951)>>>UInt64.ofNat ((↑j:Int)-1).toNat) 1),yI (fw ((b%2305843009213693951)>>>UInt64.ofNat ((↑j:Int)-1).toNat&&&(1:UInt64)) 1)]<|bj 23 ((b%2305843009213693951)>>>UInt64.ofNat ((↑j:Int)-1).toNat&&&(1:UInt64) == 1) bD<|zK<|aM<|ak<|zX (yH [(1,yV (ai ((↑j:Int)-1-1)))]) [yN ((↑j:Int)-1-1)] (aH (j-1) ah ah (eu [.aa [1,0,4,6,5] []] [6,5] [] [yB (ai ((↑j:Int)-1-1)=ai ((↑(j-1):Int)-1)) (congrArg ai ah),yB (aw (mq (a.toNat*((b%2305843009213693951).toNat/(2:Nat)^j))*2%2305843009213693951)=aw (mq (a.toNat*((b%2305843009213693951).toNat/(2:Nat)^(j-1))))) (congrArg aw e1)]))
 ·have Su:j=0:=ah
  subst Su
  have e:mq (a.toNat*((b%2305843009213693951).toNat/2^0))=mq (a.toNat*b.toNat):=by
   rw [Nat.pow_zero,Nat.div_one,hb];apply Ie;rw [Nat.mul_mod,Nat.mod_mod,←Nat.mul_mod]
  refine zS<|zP 1 [{}] [.aa [12,1,0,4,6,5] []] []<|dq 12 ((↑(0:Nat):Int)-1≥0)<|zE 0<|aS<|aK<|bg<|ak<|zP 1 [{}] [.aa [4,12,1,0,6,5] []] []<|zR (zV [yK (wv (mq (a.toNat*((b%2305843009213693951).toNat/(2:Nat)^0)))) (wv (mq (a.toNat*b.toNat))) (by rw [e])])
theorem AP (a n:UInt64):bC Tryz.prog 159 [aw a,aw n] (aw (mq (a.toNat^n.toNat))):=by
 have hn:=n.toNat_lt
 refine zO Tryz.func159 24<|zQ 2 [{},{}] []<|zS<|zq<|zB 0 (zL (fun (j:Nat)=>(⟨[(4,AV.val (Value.int .u64 0)),(0,aw a),(1,aw n),(6,ai ((j:Int)-1)),(5,aw (mq (a.toNat^(n.toNat/2^j))))],[]⟩:AS)) (fun j=>(j≤64)) (fun j=>(j)) (64) ?_ (eu [.aa [4,0,1,6,5] []] [5] [] [yB (AV.val (Value.int .u64 1)=aw (mq (a.toNat^(n.toNat/(2:Nat)^64)))) (congrArg aw (show 1=mq _ by rw [Nat.div_eq_of_lt ah];rfl))]) ?_)
 ·omega
 intro j hj
 by_cases h0:0<j
 ·have hs:=HG n j h0 ah
  have hh:=Fa n.toNat j h0
  have e0:mq ((mq (a.toNat^(n.toNat/2^j))).toNat*(mq (a.toNat^(n.toNat/2^j))).toNat)=mq (a.toNat^(2*(n.toNat/2^j))):=by
   apply Ie
   rw [uC,←Nat.mul_mod,←Nat.pow_add];congr 2;omega
  by_cases h1:n>>>UInt64.ofNat ((j:Int)-1).toNat&&&1=1
  ·have Jc:=(qL _).1 h1
   rw [hs] at Jc
   have e1:mq ((mq ((mq (a.toNat^(n.toNat/2^j))).toNat*(mq (a.toNat^(n.toNat/2^j))).toNat)).toNat*a.toNat)=mq (a.toNat^(n.toNat/2^(j-1))):=by
    rw [e0,hh,Jc,Nat.pow_succ]
    apply Ie
    rw [uC,Nat.mul_mod,Nat.mod_mod,←Nat.mul_mod]
   refine zS<|zq<|gN 8 ((↑j:Int)-1≥0)<|aW<|zS<|zB 1<|zP 2 [yH [(2,yV (aw (mq ((mq (a.toNat^(n.toNat/(2:Nat)^j))).toNat*(mq (a.toNat^(n.toNat/(2:Nat)^j))).toNat))))],yH [(2,yV (AV.val (Value.int .u64 ((↑j:Int)-1)))),(3,yV (aw (n>>>UInt64.ofNat ((↑j:Int)-1).toNat))),(4,yV (aw (n>>>UInt64.ofNat ((↑j:Int)-1).toNat&&&(1:UInt64)))),(5,yV (ao (n>>>UInt64.ofNat ((↑j:Int)-1).toNat&&&(1:UInt64) == 1)))]] [.aa [19,5,8,4,0,1,6] []] [yI (nA (mq (a.toNat^(n.toNat/(2:Nat)^j))) (mq (a.toNat^(n.toNat/(2:Nat)^j)))),yB (AV.val (Value.int .u64 (IntKind.u64.wrap ((↑j:Int)-1)))=AV.val (Value.int .u64 ((↑j:Int)-1))) (rW ah ah),yI (fq n ((↑j:Int)-1) ah ah),yO ((0:Int)≤(↑j:Int)-1),yI (iZ (n>>>UInt64.ofNat ((↑j:Int)-1).toNat) 1),yI (fw (n>>>UInt64.ofNat ((↑j:Int)-1).toNat&&&(1:UInt64)) 1)]<|dm 19 (n>>>UInt64.ofNat ((↑j:Int)-1).toNat&&&(1:UInt64) == 1) eg<|zX (yH [(2,yV (aw (mq ((mq ((mq (a.toNat^(n.toNat/(2:Nat)^j))).toNat*(mq (a.toNat^(n.toNat/(2:Nat)^j))).toNat)).toNat*a.toNat))))]) [yI (nA (mq ((mq (a.toNat^(n.toNat/(2:Nat)^j))).toNat*(mq (a.toNat^(n.toNat/(2:Nat)^j))).toNat)) a)]<|aM<|ak<|zX (yH [(1,yV (ai ((↑j:Int)-1-1)))]) [yN ((↑j:Int)-1-1)] (aH (j-1) ah ah (eu [.aa [4,0,1,6,5] []] [6,5] [] [yB (ai ((↑j:Int)-1-1)=ai ((↑(j-1):Int)-1)) (congrArg ai ah),yB (aw (mq ((mq ((mq (a.toNat^(n.toNat/(2:Nat)^j))).toNat*(mq (a.toNat^(n.toNat/(2:Nat)^j))).toNat)).toNat*a.toNat))=aw (mq (a.toNat^(n.toNat/(2:Nat)^(j-1))))) (congrArg aw e1)]))
  ·have Jc:¬n.toNat/2^(j-1)%2=1:=fun e=>h1 ((qL _).2 (by rw [hs];exact e))
   have e1:mq ((mq (a.toNat^(n.toNat/2^j))).toNat*(mq (a.toNat^(n.toNat/2^j))).toNat)=mq (a.toNat^(n.toNat/2^(j-1))):=by
    rw [e0,hh,show n.toNat/2^(j-1)%2=0 by omega,Nat.add_zero]
   refine zS<|zq<|gN 8 ((↑j:Int)-1≥0)<|aW<|zS<|zB 1<|zP 2 [yH [(2,yV (aw (mq ((mq (a.toNat^(n.toNat/(2:Nat)^j))).toNat*(mq (a.toNat^(n.toNat/(2:Nat)^j))).toNat))))],yH [(2,yV (AV.val (Value.int .u64 ((↑j:Int)-1)))),(3,yV (aw (n>>>UInt64.ofNat ((↑j:Int)-1).toNat))),(4,yV (aw (n>>>UInt64.ofNat ((↑j:Int)-1).toNat&&&(1:UInt64)))),(5,yV (ao (n>>>UInt64.ofNat ((↑j:Int)-1).toNat&&&(1:UInt64) == 1)))]] [.aa [19,5,8,4,0,1,6] []] [yI (nA (mq (a.toNat^(n.toNat/(2:Nat)^j))) (mq (a.toNat^(n.toNat/(2:Nat)^j)))),yB (AV.val (Value.int .u64 (IntKind.u64.wrap ((↑j:Int)-1)))=AV.val (Value.int .u64 ((↑j:Int)-1))) (rW ah ah),yI (fq n ((↑j:Int)-1) ah ah),yO ((0:Int)≤(↑j:Int)-1),yI (iZ (n>>>UInt64.ofNat ((↑j:Int)-1).toNat) 1),yI (fw (n>>>UInt64.ofNat ((↑j:Int)-1).toNat&&&(1:UInt64)) 1)]<|bj 19 (n>>>UInt64.ofNat ((↑j:Int)-1).toNat&&&(1:UInt64) == 1) bD<|zK<|aM<|ak<|zX (yH [(1,yV (ai ((↑j:Int)-1-1)))]) [yN ((↑j:Int)-1-1)] (aH (j-1) ah ah (eu [.aa [4,0,1,6,5] []] [6,5] [] [yB (ai ((↑j:Int)-1-1)=ai ((↑(j-1):Int)-1)) (congrArg ai ah),yB (aw (mq ((mq (a.toNat^(n.toNat/(2:Nat)^j))).toNat*(mq (a.toNat^(n.toNat/(2:Nat)^j))).toNat))=aw (mq (a.toNat^(n.toNat/(2:Nat)^(j-1))))) (congrArg aw e1)]))
 ·have Su:j=0:=ah
  subst Su
  refine zS<|zP 1 [{}] [.aa [8,4,0,1,6,5] []] []<|dq 8 ((↑(0:Nat):Int)-1≥0)<|zE 0<|aS<|aK<|bg<|ak<|zP 1 [{}] [.aa [4,8,0,1,6,5] []] []<|zR (zV [yK (wv (mq (a.toNat^(n.toNat/(2:Nat)^0)))) (wv (mq (a.toNat^n.toNat))) (by rw [Nat.pow_zero,Nat.div_one])])
end Go.Proofs.YtjgbhhnghedgdaaGreatDoor
