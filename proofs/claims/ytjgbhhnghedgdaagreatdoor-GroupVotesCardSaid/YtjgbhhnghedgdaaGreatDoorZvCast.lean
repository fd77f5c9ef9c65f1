import Derived.Test.YtjgbhhnghedgdaaGreatDoorZvDR
import Derived.Lib.AppendZerosOnto
import Derived.Lib.SliceRun
import Derived.KernelRfl
import Derived.Lib.Mul64
set_option linter.all false
namespace Go.Proofs.YtjgbhhnghedgdaaGreatDoor
open Go.RowKit
set_option maxRecDepth 100000
set_option maxHeartbeats 4000000
def eT (v n:Int):Nat:=((v%18446744073709551616)%n).toNat
theorem oN (v:Int) {n:Int} (h:1≤n):(eT v n:Int)<n:=by
 have:=Int.emod_lt_of_pos (v%18446744073709551616) (ag:0<n)
 have:=Int.emod_nonneg (v%18446744073709551616) (ag:n≠0)
 unfold eT;omega
theorem rD (v:Int):wv (u64 v)=v%18446744073709551616:=by rw [←Az,IntKind.wrap_u64]
theorem lI (v n:Int) (h1:1≤n) (h2:n≤9223372036854775807):bG Tryz.prog 23 [ai v,ai n] (ai (eT v n)):=by
 have hn:wv (u64 n)=n:=by rw [rD];omega
 have hm:=oN v h1
 have e:(wv (u64 v)).tmod (wv (u64 n))=eT v n:=by
  have h0:0≤v%18446744073709551616:=Int.emod_nonneg _ (by decide)
  have:=Int.emod_nonneg (v%18446744073709551616) (ag:n≠0)
  rw [hn,rD,Int.tmod_eq_emod_of_nonneg h0];unfold eT;omega
 have e2:IntKind.i64.wrap (wv (u64 v%u64 n))=eT v n:=by
  have h:=Md (u64 v) (u64 n)
  rw [e] at h
  have h2:(eT v n:Int)=wv (u64 v%u64 n):=by injection h with h;injection h
  rw [←h2,IntKind.wrap_i64];omega
 refine zO Tryz.func23 11<|zP 2 [{},yH [(1,yV (aw (u64 v))),(3,yV (aw (u64 n))),(4,yV (aw (u64 v%u64 n)))]] [.aa [4,0,1] []] [yI (a7 v),yI (a7 n),yR (aw (u64 v%u64 n)),yO (wv (u64 n)≠(0:Int))]<|zR (zV [yJ (IntKind.i64.wrap (wv (u64 v%u64 n))) (↑(eT v n):Int) (by rw [e2])])
def Mc (key dd:UInt64) (i:Nat):List UInt8:=words [Ar key 5 (words [dd,u64 i])]
def qi (key dd:UInt64):Nat->List UInt8
 | 0=>[]
 | k+1=>qi key dd k++Mc key dd k
theorem Mb (key dd:UInt64) (i:Nat):(Mc key dd i).length=8:=by rw [Mc,eu];rfl
theorem uH (key dd:UInt64):∀k,(qi key dd k).length=8*k
 | 0=>rfl
 | k+1=>by rw [qi,List.length_append,uH key dd k,Mb];omega
def i7 (n:Int):Nat:=(min (max n 0) 1024).toNat
def stream (key dd:UInt64) (n:Int):List UInt8:=(qi key dd ((i7 n+7)/8)).take (i7 n)
theorem uI (key dd:UInt64) (n:Int):(stream key dd n).length=i7 n:=by
 rw [stream,List.length_take,uH];omega
theorem jK (key dd:UInt64) (n:Int):bG Tryz.prog 118 [aw key,aw dd,ai n] (.own 1 (aj (stream key dd n))):=by
 generalize hm:i7 n=m
 have hv:(if 1024<if 0>n then 0 else n then 1024 else if 0>n then 0 else n)=(m:Int):=by
  rw [←hm];unfold i7;split<;>split at* <;> omega
 have Jb:m≤1024:=by rw [←hm];unfold i7;omega
 refine zO Tryz.func118 32<|zP 3 [{},yH [(2,yV (ai ↑m))],{}] [.aa [7,2,6,0,1] []] [yI (yc hv)]<|zS<|zq<|zB 0 (zL (fun (k:Nat)=>(⟨[(2,ai ↑m),(6,AV.nil),(0,aw key),(1,aw dd),(8,ai k),(7,AV.ref 28)],[(28,⟨1,true,false,aj (qi key dd k)⟩)]⟩:AS)) (fun k=>(8*k<m+8)) (fun k=>(m+8-8*k)) (0) ?_ (zW [.nil 7 28 1,.aa [2,6,0,1,8,7] [28]]) ?_)
 ·omega
 intro k hk
 have hl:=uH key dd k
 refine zS<|zP 1 [yH [(1,{k:=(qi key dd k).length})]] [.aa [15,2,6,0,1,8,7] [28]] [yI (aB (qi key dd k))] (zD 15 ((↑(qi key dd k).length:Int)<(↑m:Int)) (fun h1=>?_) (fun h1=>?_))
 ·skip
  refine a_<|zS<|zB 1<|zX (yH [(4,yV (aw (u64 (↑k:Int)))),(5,yV (AV.arr (ah [dd,u64 (↑k:Int)]))),(6,yV (AV.own 1 (aj (words [dd,u64 (↑k:Int)])))),(7,yV (aw (Ar key (5:Int) (words [dd,u64 (↑k:Int)])))),(8,yV (AV.arr (ah [Ar key (5:Int) (words [dd,u64 (↑k:Int)])]))),(9,yV (AV.own 1 (aj (words [Ar key (5:Int) (words [dd,u64 (↑k:Int)])])))),(10,yV (AV.arr (aj (qi key dd k++words [Ar key (5:Int) (words [dd,u64 (↑k:Int)])]))))]) [yI (a7 ((↑k:Int))),yR (ah [dd,u64 (↑k:Int)]),yI (dO [dd,u64 (↑k:Int)] (by simp only [List.length_cons,List.length_nil];omega)),yI (aV (words [dd,u64 (↑k:Int)])),yI (pL key ((5:Int)) (words [dd,u64 (↑k:Int)]) (by simp only [List.length_cons,List.length_nil,eu];omega)),yR [aw (Ar key (5:Int) (words [dd,u64 (↑k:Int)]))],yI (dO [Ar key (5:Int) (words [dd,u64 (↑k:Int)])] (by simp only [List.length_cons,List.length_nil];omega)),yI (aV (words [Ar key (5:Int) (words [dd,u64 (↑k:Int)])])),yB (aj (qi key dd k)++aj (words [Ar key (5:Int) (words [dd,u64 (↑k:Int)])])=aj (qi key dd k++words [Ar key (5:Int) (words [dd,u64 (↑k:Int)])])) (db _ _),yB (((aj (qi key dd k)).length+8)*1≤140737488355328) (by simp only [aB];omega)]<|aJ<|al<|zX (yH [(1,yV (ai ((↑k:Int)+1)))]) [yN ((↑k:Int)+1)] (aH (k+1) ag ag (zW [.aa [2,6,0,1,8,7] [28]]))
 ·have e:k=(m+7)/8:=ag
  refine zE 0<|a6<|aM<|bm<|al<|zP 1 [yH [(2,{m:=m})]] [.aa [6,15,2,0,1,8,7] [28]] [yR (↑m:Int),yB (m≤(aj (qi key dd k)).length) (by simp only [aB];omega)]<|zR (zV [yB (List.take m (aj (qi key dd k))=aj (stream key dd n)) (by rw [tt,stream,hm,←e])])
theorem G7 (seed n:Int):bG Tryz.prog 72 [ai seed,ai n] (.own 1 (aj (stream (u64 seed+1) 7 n))):=by
 have hs:i7 (if 0>if 1024<n then 1024 else n then 0 else if 1024<n then 1024 else n)=i7 n:=by
  unfold i7;split<;>split at* <;> omega
 refine zO Tryz.func72 12<|zP 2 [{},yH [(1,yV (aw (u64 seed))),(2,yV (aw (u64 seed+1))),(6,yC (jK (u64 seed+1) (7) (if (0:Int)>if (1024:Int)<n then (1024:Int) else n then (0:Int) else if (1024:Int)<n then (1024:Int) else n)))]] [.aa [4,0,1] [11]] [yI (a7 seed),yR (aw (u64 seed+1)),yI (jK (u64 seed+1) 7 (if (0:Int)>if (1024:Int)<n then (1024:Int) else n then (0:Int) else if (1024:Int)<n then (1024:Int) else n)),yI (aV (stream (u64 seed+1) 7 (if (0:Int)>if (1024:Int)<n then (1024:Int) else n then (0:Int) else if (1024:Int)<n then (1024:Int) else n)))]<|zR (zV [yB (aj (stream (u64 seed+1) 7 (if (0:Int)>if (1024:Int)<n then (1024:Int) else n then (0:Int) else if (1024:Int)<n then (1024:Int) else n))=aj (stream (u64 seed+1) 7 n)) (by rw [stream,stream,hs])])
structure fS where
 kind:Int
 num:UInt64
 cL:List UInt8
def bp (x:fS):List AV:=[ai x.kind,aw x.num,cV x.cL]
def cK (k:Int):List AV:=[ao false,ai k,.nil]
def Ct (fr:List Int) (c:Nat):List (Nat×Row):=[(1000000000000,⟨1,false,true,[.ref 5,ai c]⟩),(5,⟨3,true,false,af cK fr⟩)]
theorem cO (fr:List Int) (c:Nat) (hf:fr.length≤1000000):gn Tryz.prog 163 [.addr 1000000000000 0] (Ct fr c) (ao (decide (0<c∧fr.length=0))) (Ct fr c):=by
 have hl:(af cK fr).length=fr.length*3:=aE (e:=3) (fun _=>rfl) ..
 by_cases h:0<c
 ·by_cases h2:fr.length=0
  ·rw [decide_eq_true (⟨h,h2⟩:0<c∧fr.length=0)]
   refine nC Tryz.func163 16<|zP 2 [{},yH [(10,{k:=fr.length})]] [.aa [2,0] [1000000000000,5]] (yM 5 (yT ((↑c:Int)>0))++ [yI hl]++yM 2 (yT ((↑c:Int)>0)))<|zR (zG [] [yB (Value.bool ((↑fr.length:Int) == (0:Int))=Value.bool true) (by simp [h2]),yR [AV.ref 5,ai ↑c],yR (af cK fr)])
  ·rw [decide_eq_false (fun q:0<c∧fr.length=0=>h2 q.2)]
   refine nC Tryz.func163 16<|zP 2 [{},yH [(10,{k:=fr.length})]] [.aa [2,0] [1000000000000,5]] (yM 5 (yT ((↑c:Int)>0))++ [yI hl]++yM 2 (yT ((↑c:Int)>0)))<|zR (zG [] [yB (Value.bool ((↑fr.length:Int) == (0:Int))=Value.bool false) (congrArg Value.bool (beq_eq_false_iff_ne.2 ag)),yR [AV.ref 5,ai ↑c],yR (af cK fr)])
 ·rw [decide_eq_false (fun q:0<c∧fr.length=0=>h q.1)]
  refine nC Tryz.func163 16<|zP 2 [{},yH ([(12,{b:=false})]++yg [6,7,8,9,10,11])] [.aa [2,0] [1000000000000,5]] (yM 7 (yF ((↑c:Int)>0)))<|zR (zG [] [yR (Value.bool false),yR [AV.ref 5,ai ↑c],yR (af cK fr)])
theorem gP (fr:List Int) (c:Nat) (hf:fr.length≤1000000):gn Tryz.prog 174 [.addr 1000000000000 0] (Ct fr c) (ao false) (Ct fr c):=by
 have hl:(af cK fr).length=fr.length*3:=aE (e:=3) (fun _=>rfl) ..
 by_cases h:0<fr.length
 ·obtain ⟨n,hn⟩:∃n,fr.length=n+1:=⟨fr.length-1,ag⟩
  refine nC Tryz.func174 35 ?_
  have w:IntKind.i64.wrap ((fr.length:Int)-1)=n:=by rw [IntKind.wrap_i64];omega
  have h2:n*3<(af cK fr).length:=ag
  have h3:(af cK fr)[n*3]?=some (ao false):=o7 (f:=cK) (e:=3) (l:=fr) (k:=n) (j:=0) (fun _=>rfl) ag rfl
  refine zP 3 [{},yH [(4,{k:=fr.length})],yH ([(8,yV (ai ↑n)),(9,{k:=n}),(11,yV (ao false)),(25,{b:=false})]++yg [14,15,16,17,18,19,20,21,22,23,24])] [.aa [2,3,0] [1000000000000,5]] ([yI hl]++yM 6 (yT ((↑fr.length:Int)>0))++ [yI (yc w),yT ((↑fr.length:Int)>0),yR (↑n:Int),yI h2]++yM 2 (yT ((↑fr.length:Int)>0))++ [yI h3,yT ((↑fr.length:Int)>0)]++yM 12 (yR false))<|zR (zG [] [yR (Value.bool false),yR [AV.ref 5,ai ↑c],yR (af cK fr)])
 ·refine nC Tryz.func174 35<|zP 3 [{},yH [(4,{k:=fr.length})],yH ([(12,{b:=false}),(25,{b:=false})]++yg [3,4,5,6,7,8,9,10,11,14,15,16,17,18,19,20,21,22,23,24])] [.aa [2,3,0] [1000000000000,5]] ([yI hl]++yM 10 (yF ((↑fr.length:Int)>0))++yM 12 (yR false))<|zR (zG [] [yR (Value.bool false),yR [AV.ref 5,ai ↑c],yR (af cK fr)])
def gy (c n:Nat) (k:Int):Int:=if 512≤c then 8 else if k<1∨8<k then 3 else if 8<n then 5 else 0
theorem dR (fr:List Int) (c:Nat) (k:Int) (hf:fr.length≤1000000):gn Tryz.prog 171 [.addr 1000000000000 0,ai k] (Ct fr c) (ai (gy c fr.length k)) (Ct fr c):=by
 have hl:(af cK fr).length=fr.length*3:=aE (e:=3) (fun _=>rfl) ..
 by_cases h1:512≤c
 ·have e:gy c fr.length k=8:=if_pos h1
  refine nC Tryz.func171 36<|zq<|zS<|zP 1 [{}] [.aa [9,4,0,1] [1000000000000,5]] []<|iw 9 ((↑c:Int)≥512)<|zq<|dC (zG [] [yJ 8 (gy c fr.length k) (by rw [e]),yR [AV.ref 5,ai ↑c],yR (af cK fr)])
 by_cases h2:k<1
 ·have e:gy c fr.length k=3:=by unfold gy;rw [if_neg h1,if_pos (.inl h2)]
  refine nC Tryz.func171 36<|zq<|zS<|zP 1 [{}] [.aa [9,4,0,1] [1000000000000,5]] []<|dF 9 ((↑c:Int)≥512)<|a_<|zS<|zP 1 [{}] [.aa [15,9,4,0,1] [1000000000000,5]] (yM 3 (yT (k<1)))<|zT 15<|zq<|dC (zG [] [yJ 3 (gy c fr.length k) (by rw [e]),yR [AV.ref 5,ai ↑c],yR (af cK fr)])
 by_cases h3:8<k
 ·have e:gy c fr.length k=3:=by unfold gy;rw [if_neg h1,if_pos (.inr h3)]
  refine nC Tryz.func171 36<|zq<|zS<|zP 1 [{}] [.aa [9,4,0,1] [1000000000000,5]] []<|dF 9 ((↑c:Int)≥512)<|a_<|zS<|zP 1 [yH ([(5,{b:=false})]++yg [3,4])] [.aa [15,9,4,0,1] [1000000000000,5]] (yM 3 (yF (k<1)))<|iw 15 (k>8)<|zq<|dC (zG [] [yJ 3 (gy c fr.length k) (by rw [e]),yR [AV.ref 5,ai ↑c],yR (af cK fr)])
 by_cases h4:8<fr.length
 ·have e:gy c fr.length k=5:=by unfold gy;rw [if_neg h1,if_neg ag,if_pos h4]
  refine nC Tryz.func171 36<|zq<|zS<|zP 1 [{}] [.aa [9,4,0,1] [1000000000000,5]] []<|dF 9 ((↑c:Int)≥512)<|a_<|zS<|zP 1 [yH ([(5,{b:=false})]++yg [3,4])] [.aa [15,9,4,0,1] [1000000000000,5]] (yM 3 (yF (k<1)))<|dF 15 (k>8)<|a_<|zS<|zP 1 [yH ([(1,yE [(1000000000000,1000000000000),(5,5)] (gP (fr) (c) hf)),(5,{b:=false}),(9,{b:=false}),(13,{b:=false})]++yg [3,4,7,8,11,12])] [.aa [29,15,9,4,0,1] [1000000000000,5]] ([yI (gP fr c hf),yB ([AV.ref 5,ai ↑c].length= [AV.ref 5,ai ↑c].length∧0< [AV.ref 5,ai ↑c].length) ⟨rfl,Nat.succ_pos _⟩]++yM 9 (yR false))<|zF 29<|a_<|zS<|zP 1 [yH [(4,{k:=fr.length})]] [.aa [35,29,15,9,4,0,1] [1000000000000,5]] [yI hl]<|iw 35 ((↑fr.length:Int)>8)<|zq<|dC (zG [] [yJ 5 (gy c fr.length k) (by rw [e]),yR [AV.ref 5,ai ↑c],yR (af cK fr)])
 ·have e:gy c fr.length k=0:=by unfold gy;rw [if_neg h1,if_neg ag,if_neg h4]
  refine nC Tryz.func171 36<|zq<|zS<|zP 1 [{}] [.aa [9,4,0,1] [1000000000000,5]] []<|dF 9 ((↑c:Int)≥512)<|a_<|zS<|zP 1 [yH ([(5,{b:=false})]++yg [3,4])] [.aa [15,9,4,0,1] [1000000000000,5]] (yM 3 (yF (k<1)))<|dF 15 (k>8)<|a_<|zS<|zP 1 [yH ([(1,yE [(1000000000000,1000000000000),(5,5)] (gP (fr) (c) hf)),(5,{b:=false}),(9,{b:=false}),(13,{b:=false})]++yg [3,4,7,8,11,12])] [.aa [29,15,9,4,0,1] [1000000000000,5]] ([yI (gP fr c hf),yB ([AV.ref 5,ai ↑c].length= [AV.ref 5,ai ↑c].length∧0< [AV.ref 5,ai ↑c].length) ⟨rfl,Nat.succ_pos _⟩]++yM 9 (yR false))<|zF 29<|a_<|zS<|zP 1 [yH [(4,{k:=fr.length})]] [.aa [35,29,15,9,4,0,1] [1000000000000,5]] [yI hl]<|dF 35 ((↑fr.length:Int)>8)<|a_<|zq<|zR (zG [] [yJ 0 (gy c fr.length k) (by rw [e]),yR [AV.ref 5,ai ↑c],yR (af cK fr)])
def nj (fr:List Int):List Int:=if fr.length=0 then fr else fr.set (fr.length-1) (fr.getD (fr.length-1) 0-1)
def lY (x:fS) (fr:List Int):List Int:=if x.kind=5∧0<wv x.num then fr++ [wv x.num] else fr
def lZ (l:List Int):Nat->Nat
 | 0=>0
 | n+1=>if l.getD n 0=0 then lZ l n else n+1
def pO (l:List Int):List Int:=l.take (lZ l l.length)
def nD (fr:List Int) (x:fS):List Int:=pO (lY x (nj fr))
theorem ED:∀(l:List Int) (n:Nat) (v:Int),n<l.length->(af cK l).set (n*3+1) (ai v)=af cK (l.set n v)
 | [],n,v,h=>by simp at h
 | k::l,0,v,h=>rfl
 | k::l,n+1,v,h=>by
  have ih:=ED l n v (by simpa using h)
  rw [show (n+1)*3+1=n*3+1+1+1+1 by omega]
  show ao false::ai k:: .nil::(af cK l).set (n*3+1) (ai v)=_
  rw [ih];rfl
theorem B3 {l:List Int} {n:Nat} (h:n<l.length):(af cK l)[n*3+1]?=some (ai (l.getD n 0)):=o7 (f:=cK) (e:=3) (l:=l) (k:=n) (j:=1) (fun _=>rfl) h rfl
theorem K5 {ι:Type} {I:ι->AS} {Inv:ι->Prop} {m:ι->Nat} {Q:Exit->AS->Prop} {x:ι} {s s':AS} (hw:bQ s s') (h:Round I Inv m Q x .normal s'):Round I Inv m Q x .normal s:=by
 obtain ⟨y,h1,h2,h3⟩:=h
 exact ⟨y,h1,h2,fun S0 w0 n a w hs=>h3 S0 w0 n a w (hw S0 w0 n a w hs)⟩
theorem Ch (fr:List Int):(nj fr).length=fr.length:=by unfold nj;split<;>simp
theorem Bk (x:fS) (fr:List Int):(lY x fr).length≤fr.length+1:=by unfold lY;split<;>simp
theorem FR (fr:List Int) (c:Nat) (x:fS) (hk:x.kind≠6) (hx:x.kind=5->wv x.num≤512) (hf:fr.length≤1000) (gu:∀k∈fr,-1000≤k∧k≤1000) (hc:c≤1000000):gn Tryz.prog 176 [.addr 1000000000000 0,.agg (bp x)] (Ct fr c) (.cw []) (Ct (nD fr x) (c+1)):=by
 have hl:(af cK fr).length=fr.length*3:=aE (e:=3) (fun _=>rfl) ..
 refine nC Tryz.func176 106<|zP 2 [{},yH [(4,yV (ai (↑(c+1):Int)))]] [.aa [3,0,1] [1000000000000,3,5]] [yB (ai (IntKind.i64.wrap ((↑c:Int)+1))=ai (↑(c+1):Int)) (eN ag ag),yL 2 2] (bg.ob (fun (u:Unit)=>(⟨[(3,AV.addr 3 0),(1,AV.agg (bp x)),(0,AV.addr 1000000000000 0)],[(3,⟨1,false,true,List.map (aF 3) (bp x)⟩),(1000000000000,⟨1,false,true,[.ref 5,ai (c+1:Nat)]⟩),(5,⟨3,true,false,af cK (nj fr)⟩)]⟩:AS)) (fun u=>(True)) bu ?_ ?_)
 ·by_cases h:0<fr.length
  ·obtain ⟨n,hn⟩:∃n,fr.length=n+1:=⟨fr.length-1,ag⟩
   have hb:=gu (fr.getD n default) (by rw [List.getD_eq_getElem?_getD,List.getElem?_eq_getElem ag];exact List.getElem_mem ag)
   have w:IntKind.i64.wrap ((fr.length:Int)-1)=n:=by rw [IntKind.wrap_i64];omega
   have w2:IntKind.i64.wrap (fr.getD n default-1)=fr.getD n default-1:=by rw [IntKind.wrap_i64];omega
   have h3:=B3 (l:=fr) (n:=n) ag
   have e1:nj fr=fr.set n (fr.getD n default-1):=by unfold nj;rw [if_neg ag,show fr.length-1=n by omega];rfl
   have e2:=ED fr n (fr.getD n default-1) ag
   refine zP 2 [yH [(4,{k:=fr.length})],{}] [.aa [19,4,3,0,1] [1000000000000,3,5]] [yI hl]<|iw 19 ((↑fr.length:Int)>0)<|zX (yH [(5,yV (ai ↑n)),(6,{k:=n}),(8,yV (ai (fr.getD n default))),(9,yV (ai (fr.getD n default-1))),(10,{k:=n})]) [yI (yc w),yR (↑n:Int),yO (n*3<(af cK fr).length),yA cK fr n 1,yN (fr.getD n default-1),yR (↑n:Int),yO (n*3<(af cK fr).length),yO (n*3+1+1≤(af cK fr).length)]<|al (⟨(),trivial,(eS [.aa [3,1,0] [3,1000000000000,5]] [] [5] [yB ((af cK fr).set (n*3+1) (ai (fr.getD n default-1))=af cK (nj fr)) (by rw [e1];exact e2)])⟩)
  ·have e1:nj fr=fr:=by unfold nj;rw [if_pos ag]
   refine zP 2 [yH [(4,{k:=fr.length})],{}] [.aa [19,4,3,0,1] [1000000000000,3,5]] [yI hl]<|dF 19 ((↑fr.length:Int)>0)<|a_ (⟨(),trivial,(eS [.aa [3,1,0] [3,1000000000000,5]] [] [5] [yB (af cK fr=af cK (nj fr)) (by rw [e1])])⟩)
 rintro u -
 generalize hg:nj fr=f at *
 have wN:f.length≤1000:=by rw [←hg,Ch];exact hf
 have Dj:(af cK f).length=f.length*3:=aE (e:=3) (fun _=>rfl) ..
 refine bg.ob (fun (u:Unit)=>(⟨[(3,AV.addr 3 0),(1,AV.agg (bp x)),(0,AV.addr 1000000000000 0)],[(3,⟨1,false,true,List.map (aF 3) (bp x)⟩),(1000000000000,⟨1,false,true,[.ref 5,ai (c+1:Nat)]⟩),(5,⟨3,true,false,af cK (lY x f)⟩)]⟩:AS)) (fun u=>(True)) bu ?_ ?_
 ·by_cases h:x.kind=5
  ·have hx:=hx h
   by_cases h2:0<wv x.num
   ·have e1:lY x f=f++ [wv x.num]:=if_pos ⟨h,h2⟩
    refine zP 1 [{}] [.aa [39,3,1,0] [3,1000000000000,5]] (yM 4 (yB ((x.kind == (5:Int))=true) eJ))<|iw 39 (wv x.num>0)<|Ax 11 [10] [(7,yV (ai (wv x.num)))] [yN (wv x.num),yO (((af cK f).length+3)*40≤422212465065984),yR (AV.addr 1000000000000 0),yL 1 2]<|al (⟨(),trivial,(eS [.uX 50 5,.aa [3,1,0] [3,1000000000000,5]] [] [5] [yB (af cK f++ [ao false,ai (wv x.num),AV.nil]=af cK (lY x f)) (by rw [e1,←fb];rfl)])⟩)
   ·have e1:lY x f=f:=if_neg (fun q=>h2 q.2)
    refine zP 1 [{}] [.aa [39,3,1,0] [3,1000000000000,5]] (yM 4 (yB ((x.kind == (5:Int))=true) eJ))<|dF 39 (wv x.num>0)<|a_ (⟨(),trivial,(eS [.aa [3,1,0] [3,1000000000000,5]] [] [5] [yB (af cK f=af cK (lY x f)) (by rw [e1])])⟩)
  ·have e1:lY x f=f:=if_neg (fun q=>h q.1)
   refine zP 1 [yH ([(7,{b:=false})]++yg [4,5,6])] [.aa [39,3,1,0] [3,1000000000000,5]] (yM 4 (yB ((x.kind == (5:Int))=false) bD))<|zF 39<|a_ (⟨(),trivial,(eS [.aa [3,1,0] [3,1000000000000,5]] [] [5] [yB (af cK f=af cK (lY x f)) (by rw [e1])])⟩)
 rintro u -
 have dJ:nD fr x=pO (lY x f):=by unfold nD;rw [hg]
 have LD:(lY x f).length≤1001:=by have:=Bk x f;omega
 generalize lY x f=g at *
 have Tb:(af cK g).length=g.length*3:=aE (e:=3) (fun _=>rfl) ..
 refine zS<|zP 1 [yH ([(7,{b:=false})]++yg [4,5,6])] [.aa [60,3,1,0] [3,1000000000000,5]] (yM 4 (yB ((x.kind == (6:Int))=false) bD))<|zF 60<|a_<|zP 1 [yH [(4,{k:=g.length})]] [.aa [5,60,3,1,0] [3,1000000000000,5]] [yI Tb]<|zB 0 (zL (fun (q:Nat)=>(⟨[(60,ao false),(3,AV.addr 3 0),(1,AV.agg (bp x)),(5,ai q),(0,AV.addr 1000000000000 0)],[(3,⟨1,false,true,List.map (aF 3) (bp x)⟩),(1000000000000,⟨1,false,true,[.ref 5,ai (c+1:Nat)]⟩),(5,⟨3,true,false,af cK (g.take q)⟩)]⟩:AS)) (fun q=>(q≤g.length∧lZ g q=lZ g g.length)) (fun q=>q) (g.length) ?_ (eS [.aa [60,3,1,5,0] [3,1000000000000,5]] [] [5] [yB (af cK g=af cK (List.take g.length g)) (by rw [List.take_length])]) ?_)
 ·exact ⟨Nat.le_refl _,rfl⟩
 rintro q ⟨hq,hp⟩
 have Ta:(af cK (g.take q)).length=q*3:=by rw [aE (e:=3) (fun _=>rfl),List.length_take];omega
 cases q with
 | zero =>
  refine zS<|zP 1 [yH ([(13,{b:=false})]++yg [3,4,5,6,7,8,9,10,11,12])] [.aa [93,60,3,1,5,0] [3,1000000000000,5]] (yM 11 (yR false))<|zF 93<|zE 0<|a6<|aM<|bm (lQ.tX [] (s2:=AS.mk [(93,ao false),(60,ao false),(3,AV.addr 3 0),(1,AV.agg (bp x)),(5,ai (↑(0:Nat):Int)),(0,AV.addr 1000000000000 0)] [(3,Row.mk 1 false true (List.map (aF 3) (bp x))),(1000000000000,Row.mk 1 false true [AV.ref 5,ai (↑(c+1):Int)]),(5,Row.mk 3 true false (af cK (List.take 0 g)))]) bu (C:=[[AV.ref 5,ai (↑(c+1):Int)]= [AV.ref 5,ai (↑(c+1):Int)],af cK (List.take 0 g)=af cK (nD fr x)]) bu ⟨rfl,(by rw [dJ,pO,←hp];rfl),trivial⟩)
 | succ m =>
  have w:IntKind.i64.wrap ((m+1:Nat)-1:Int)=m:=by rw [IntKind.wrap_i64];omega
  have h3:=B3 (l:=g.take (m+1)) (n:=m) (by rw [List.length_take];omega)
  have gz:(List.take (m+1) g).getD m default=g.getD m 0:=by
   rw [List.getD_eq_getElem?_getD,List.getElem?_take,if_pos ag,←List.getD_eq_getElem?_getD];rfl
  by_cases h:g.getD m 0=0
  ·have e1:lZ g (m+1)=lZ g m:=by show (if _ then _ else _)=_;rw [if_pos h]
   refine zS<|zP 1 [yH [(8,yV (ai ((↑(m+1):Int)-1))),(9,{k:=m+1-1}),(11,yV (ai ((List.take (m+1) g).getD (m+1-1) default))),(12,yV (ao true))]] [.aa [93,60,3,1,5,0] [3,1000000000000,5]] (yM 6 (yT ((↑(m+1):Int)>0))++ [yN ((↑(m+1):Int)-1),yT ((↑(m+1):Int)>0),yO ((↑(m+1):Int)-1=(↑(m+1-1):Int)),yO ((m+1-1)*3<(af cK (List.take (m+1) g)).length)]++yM 2 (yT ((↑(m+1):Int)>0))++ [yB ((af cK (List.take (m+1) g))[(m+1-1)*3+1]?=some (ai ((List.take (m+1) g).getD (m+1-1) default))) (by assumption),yT ((↑(m+1):Int)>0),yB (ao ((List.take (m+1) g).getD (m+1-1) default == (0:Int))=ao true) (by simp only [Nat.add_sub_cancel,gz,h];rfl),yT ((↑(m+1):Int)>0)])<|zT 93<|a_<|zS<|zB 1<|zX (yH [(6,yV (ai ↑m)),(7,{m:=m})]) [yI (yc w),yR (↑m:Int),yO (m*3≤(af cK (List.take (m+1) g)).length),yL 1 2]<|aJ<|al<|zX (yH [(1,yV (ai ((↑(m+1):Int)-1)))]) [yN ((↑(m+1):Int)-1)] ?_
   have ht:((af cK (g.take (m+1))).take (m*3))=af cK (g.take m):=by rw [mD (e:=3) (fun _=>rfl),List.take_take,Nat.min_eq_left ag]
   refine K5 (bQ.cut 5 (m*3) (r:=⟨3,true,false,af cK (g.take (m+1))⟩) bu rfl (by show m*3≤(af cK _).length;rw [Ta];omega)) (aH m ⟨ag,by rw [←hp,e1]⟩ ag (eS [.aa [60,3,1,5,0] [3,1000000000000,5]] [5] [1000000000000,5] [yB (ai ((↑(m+1):Int)-1)=ai ↑m) (congrArg (fun n=>AV.val (.int .i64 n)) ag),yB ([pZ 5 (m*3) (AV.pre 5 (m*3)),ai (↑(c+1):Int)]= [AV.ref 5,ai (↑(c+1):Int)]) (by rw [J9]),yI ht]))
  ·have e1:lZ g (m+1)=m+1:=by show (if _ then _ else _)=_;rw [if_neg h]
   refine zS<|zP 1 [yH [(8,yV (ai ((↑(m+1):Int)-1))),(9,{k:=m+1-1}),(11,yV (ai ((List.take (m+1) g).getD (m+1-1) default))),(12,yV (ao false))]] [.aa [93,60,3,1,5,0] [3,1000000000000,5]] (yM 6 (yT ((↑(m+1):Int)>0))++ [yN ((↑(m+1):Int)-1),yT ((↑(m+1):Int)>0),yO ((↑(m+1):Int)-1=(↑(m+1-1):Int)),yO ((m+1-1)*3<(af cK (List.take (m+1) g)).length)]++yM 2 (yT ((↑(m+1):Int)>0))++ [yB ((af cK (List.take (m+1) g))[(m+1-1)*3+1]?=some (ai ((List.take (m+1) g).getD (m+1-1) default))) (by assumption),yT ((↑(m+1):Int)>0),yB (ao ((List.take (m+1) g).getD (m+1-1) default == (0:Int))=ao false) (by simp only [Nat.add_sub_cancel,gz];rw [beq_eq_false_iff_ne.2 h]),yT ((↑(m+1):Int)>0)])<|zF 93<|zE 0<|a6<|aM<|bm (lQ.tX [] (s2:=AS.mk [(93,ao false),(60,ao false),(3,AV.addr 3 0),(1,AV.agg (bp x)),(5,ai (↑(m+1):Int)),(0,AV.addr 1000000000000 0)] [(3,Row.mk 1 false true (List.map (aF 3) (bp x))),(1000000000000,Row.mk 1 false true [AV.ref 5,ai (↑(c+1):Int)]),(5,Row.mk 3 true false (af cK (List.take (m+1) g)))]) bu (C:=[[AV.ref 5,ai (↑(c+1):Int)]= [AV.ref 5,ai (↑(c+1):Int)],af cK (List.take (m+1) g)=af cK (nD fr x)]) bu ⟨rfl,(by rw [dJ,pO,←hp,e1]),trivial⟩)
set_option maxHeartbeats 4000000 in
theorem Jr (n:Nat) (w:World) (h0:0<n) (hn:n≤70368744177664) :
  Calls Tryz.prog 90 #[.slice none 0 0,.int .i64 n] w fun e w'=>rv w e w' []:=by
 obtain ⟨i0,Fh,P2,km,QU⟩:∃i:TypeInfo,Tryz.prog.info? 5=some i∧i.zero=some (.int .u8 0)∧i.size=1∧i.bytes=1:=by
  have h:=Mx
  cases hp:Tryz.prog.info? 5 with
  | none=>rw [hp] at h;cases h
  | some i=>rw [hp] at h;simp at h;exact ⟨i,rfl,h⟩
 have hold:(Builtin.firstCells i0.size 0 (.slice none 0 0)).run Tryz.prog w.drew= .ok (([]:List Value)).toArray w.drew:=run_firstCells_none w.drew i0.size 0 0 0
 have RE:∀ty,(Builtin.append_ #[25,3] ty #[.slice none 0 0,.int .i64 n]).run Tryz.prog w =
   .ok (.slice (some ⟨w.heap.size,0,none⟩) n (grownCap w n 0 5)) (w.drew.alloc (.cells (#[]++Builtin.zeroCells (Value.int .u8 0).cells n++Builtin.zeroCells (Value.int .u8 0).cells (grownCap w n 0 5-n)) 5)):=fun ty=>by
  have h:=Lib.run_append_grow_zeros w 25 3 ty 5 i0 (.int .u8 0) .i64 .i64 Tryz.underlying25 Tryz.underlying3 Fh P2 none 0 0 [] hold n h0 ag ag ag (by rw [QU];omega)
   (by have:=growslice_fits (bytes:=i0.bytes) (ag:0<0+n) (by rw [QU];omega);exact this)
  simpa using h
 have TU:n≤grownCap w n 0 5:=grownCap_ge w _ _ _
 obtain ⟨G,hG⟩:∃G,G=grownCap w n 0 5:=⟨_,rfl⟩
 rw [←hG] at RE TU
 have WG:G≤9223372036854775807:=by
  have:=grownCap_le_maxLen w n 0 5 (by unfold maxLen;omega)
  rw [←hG] at this
  unfold maxLen at this
  omega
 clear hold hG
 have h1:¬((n:Int)<0):=ag
 have h3:wrap64 ((n:Int)-0)=(n:Int):=by unfold wrap64;omega
 have h4:(n:Int)>0:=ag
 go_enter Tryz.func90,Tryz.ntmps90
 go_wp2_with (at_builtin;refine Lib.wpList_append_run _ rfl _ _ _ _ rfl _ _ rfl rfl _ _ (RE _) ?_)
 all_goals (go_ret;exact ⟨_,rfl,.inr ⟨w.heap.size,G,_,_,(0,0),rfl,Nat.le_refl _,heap_alloc_new w.drew _,by simp [tw],by unfold maxLen;omega,by simp [Builtin.zeroCells];omega,by simp [tw],by simp⟩,rfl,rfl,rfl,by simp,fun b hb=>Below.heap_alloc w.drew _ b hb⟩)
theorem Gx (w:World) :
  Calls Tryz.prog 90 #[.slice none 0 0,.int .i64 0] w fun e w'=>rv w e w' []:=by
 go_enter Tryz.func90,Tryz.ntmps90
 go_wp2
 go_ret
 exact ⟨_,rfl,.inl ⟨rfl,rfl⟩,Below.refl _ _⟩
theorem Jq (n:Nat) (hn:n≤70368744177664):bG Tryz.prog 90 [.nil,ai n] (.own 1 (aj [])):=by
 refine bG.Bn fun w vs hl hr=>?_
 obtain ⟨a,b,rfl⟩:=Rj hl rfl
 have h0:=hr 0 a _ rfl rfl
 have ha:a= .slice none 0 0:=by cases h0;rfl
 rw [ha,K7 (hr 1 b _ rfl rfl)]
 by_cases h:n=0
 ·subst h;exact Gx w
 ·exact Jr n w ag hn
def fc (b:List UInt8):List AV:=[.sl 1 (aj b)]
def fH (l:List (List UInt8)):Nat:=(l.map List.length).foldr (· + ·) 0
theorem td (l:List (List UInt8)) (i:Nat) (h:i<l.length):fH (l.take (i+1))=fH (l.take i)+(l.getD i default).length:=by
 induction l generalizing i with
 | nil=>simp at h
 | cons a l ih =>
  cases i with
  | zero=>simp [fH]
  | succ i =>
   have:=ih i (by simpa using h)
   simp [fH] at this ⊢
   omega
theorem oR (l:List (List UInt8)) (i:Nat):fH (l.take i)≤fH l:=by
 induction l generalizing i with
 | nil=>simp [fH]
 | cons a l ih =>
  cases i with
  | zero=>simp [fH]
  | succ i=>have:=ih i;simp [fH] at this ⊢;omega
theorem GD (l:List (List UInt8)) (i:Nat) (h:i<l.length):(l.take i).flatten++l.getD i default=(l.take (i+1)).flatten:=by
 rw [List.take_add_one,List.flatten_append]
 simp [h]
theorem JA (l:List (List UInt8)):l.flatten.length=fH l:=by
 induction l with
 | nil=>rfl
 | cons a l ih=>simp [fH,ih]
theorem Ec (l:List (List UInt8)) (h:fH l≤70368744177664) (h2:l.length≤1000):bG Tryz.prog 45 [.sl 1 (af fc l)] (.own 1 (aj l.flatten)):=by
 have hl:(af fc l).length=l.length:=by rw [aE (e:=1) (fun _=>rfl),Nat.mul_one]
 have gM:∀i,i<l.length->(af fc l)[i]?=some (.sl 1 (aj (l.getD i default))):=fun i hi=>by
  have:=o7 (f:=fc) (e:=1) (fun _=>rfl) (j:=0) hi rfl
  rwa [Nat.mul_one,Nat.add_zero] at this
 have ht:l.take l.length=l:=List.take_of_length_le (Nat.le_refl _)
 refine zO Tryz.func45 36<|zQ 2 [{},{}] []<|zS<|zQ 1 [yH [(1,{k:=(af fc l).length})]] [yR ((af fc l).length)]<|zB 0 (zL (fun (i:Nat)=>(⟨[(10,ai (↑(af fc l).length:Int)),(9,AV.sl 1 (af fc l)),(2,AV.nil),(0,AV.sl 1 (af fc l)),(11,ai i),(3,ai (fH (l.take i)))],[]⟩:AS)) (fun i=>(i≤l.length)) (fun i=>(l.length-i)) (0) ?_ (zW [.aa [10,9,2,0,11,3] []]) ?_)
 ·omega
 intro i hi
 have hle:=oR l i
 have S_:=oR l (i+1)
 refine zq<|zS (zD 12 ((↑i:Int)<(↑(af fc l).length:Int)) (fun h3=>?_) (fun h3=>?_))
 ·have jx:i<l.length:=ag
  have h4:=td l i jx
  refine a_<|zS<|zB 1<|zP 3 [yH [(0,{k:=i}),(1,yV (AV.sl 1 (aj (l.getD i default))))],yH [(2,{k:=(l.getD i default).length}),(3,yV (ai ((↑(fH (List.take i l)):Int)+(↑(l.getD i default).length:Int))))],{}] [.aa [20,3,5,12,10,9,2,0,11] []] [yR (↑i:Int),yO (i<(af fc l).length),yB ((af fc l)[i]?=some (AV.sl 1 (aj (l.getD i default)))) (gM i ag),yI (aB (l.getD i default)),yN ((↑(fH (List.take i l)):Int)+(↑(l.getD i default).length:Int))]<|dF 20 ((↑(fH (List.take i l)):Int)+(↑(l.getD i default).length:Int)<0)<|zK<|aJ<|al<|zX (yH [(0,yV (ai ((↑i:Int)+1)))]) [yN ((↑i:Int)+1)] (aH (i+1) (by assumption) ag (eS [.aa [10,9,2,0,11,3] []] [3] [] [yB (ai ((↑(fH (List.take i l)):Int)+(↑(l.getD i default).length:Int))=ai (↑(fH (List.take (i+1) l)):Int)) (congrArg (fun n=>AV.val (.int .i64 n)) ag)]))
 ·have e:i=l.length:=ag
  subst e
  rw [ht]
  refine zE 0<|a6<|aM<|bm<|al<|zP 1 [yH [(1,yV (AV.own 1 (aj [])))]] [.aa [6,12,10,9,2,0,11,3] [24]] [yI (Jq (fH l) h),yI (aV [])]<|zS<|zQ 1 [yH [(1,{k:=(af fc l).length})]] [yR ((af fc l).length)]<|zB 2 (zL (fun (i:Nat)=>(⟨[(26,ai (↑(af fc l).length:Int)),(25,AV.sl 1 (af fc l)),(12,ao (decide ((↑l.length:Int)<(↑(af fc l).length:Int)))),(10,ai (↑(af fc l).length:Int)),(9,AV.sl 1 (af fc l)),(2,AV.nil),(0,AV.sl 1 (af fc l)),(11,ai (↑l.length:Int)),(3,ai (↑(fH l):Int)),(27,ai i),(6,AV.ref 33)],[(33,⟨1,true,false,aj (l.take i).flatten⟩)]⟩:AS)) (fun i=>(i≤l.length)) (fun i=>(l.length-i)) (0) ?_ (zW [.uX 24 33,.aa [26,25,12,10,9,2,0,11,3,27,6] [33]]) ?_)
  ·omega
  intro i hi
  have hle:=oR l i
  have S_:=oR l (i+1)
  have wN:=JA (l.take i)
  refine zq<|zS (zD 28 ((↑i:Int)<(↑(af fc l).length:Int)) (fun h3=>?_) (fun h3=>?_))
  ·have jx:i<l.length:=ag
   have h4:=td l i jx
   have h5:=GD l i jx
   refine a_<|zS<|zB 3<|zP 1 [yH [(0,{k:=i}),(1,yV (AV.sl 1 (aj (l.getD i default))))]] [.aa [8,28,26,25,12,10,9,2,0,11,3,27,6] [33]] [yR (↑i:Int),yO (i<(af fc l).length),yB ((af fc l)[i]?=some (AV.sl 1 (aj (l.getD i default)))) (gM i ag)]<|zX (yH [(2,{av:=some (AV.arr (aj ((List.take i l).flatten++l.getD i default))),b:=false})]) [yB (aj (List.take i l).flatten++aj (l.getD i default)=aj ((List.take i l).flatten++l.getD i default)) (db _ _),yB (cp (aj (l.getD i default))) (gi _),yB (((aj (List.take i l).flatten).length+(aj (l.getD i default)).length)*1≤140737488355328) (by simp only [aB];omega)]<|aJ<|al<|zX (yH [(0,yV (ai ((↑i:Int)+1)))]) [yN ((↑i:Int)+1)] (aH (i+1) (by assumption) ag (eS [.aa [26,25,12,10,9,2,0,11,3,27,6] [33]] [] [33] [yB (aj ((List.take i l).flatten++l.getD i default)=aj (List.take (i+1) l).flatten) (congrArg aj h5)]))
  ·have e:i=l.length:=ag
   subst e
   refine zE 2<|a6<|aM<|bm<|al<|zq<|zR (zV [yB (aj (List.take l.length l).flatten=aj l.flatten) (by rw [ht])])
structure MS where
 a:UInt8
 b:UInt8
 p:UInt8
def vk (s:MS):MS:=⟨if s.a&&&128≠0 then (s.a<<<1)^^^27 else s.a<<<1,s.b>>>1,if s.b&&&1≠0 then s.p^^^s.a else s.p⟩
def bN (s:MS):Nat->MS
 | 0=>s
 | k+1=>vk (bN s k)
def eW (a b:UInt8):UInt8:=(bN ⟨a,b,0⟩ 8).p
structure RS where
 x:UInt64
 p:UInt8
def uU (b:UInt8) (k:Nat) (s:RS):RS:=⟨if (s.x<<<1)&&&256≠0 then (s.x<<<1)^^^283 else s.x<<<1,if (b>>>UInt8.ofNat k)&&&1=1 then s.p^^^s.x.toUInt8 else s.p⟩
def gJ (a b:UInt8):Nat->RS
 | 0=>⟨a.toUInt64,0⟩
 | k+1=>uU b k (gJ a b k)
def kW (a b:UInt8):UInt8:=(gJ a b 8).p
theorem u6 (a b:UInt8):bG Tryz.prog 158 [ab a,ab b] (ab (kW a b)):=by
 refine zO Tryz.func158 31<|zP 3 [{},{},yH [(1,yV (aw a.toUInt64))]] [.aa [6,5,4,0,1] []] [yI (Ei a)]<|zS<|zq<|zB 0 (zL (fun (k:Nat)=>(⟨[(1,ab b),(5,ab (gJ a b k).p),(6,aw (gJ a b k).x),(7,AV.val (.int .u64 k))],[]⟩:AS)) (fun k=>(k≤8)) (fun k=>(8-k)) (0) ?_ (zW [.aa [1,5,6,7] []]) ?_)
 ·omega
 intro k hk
 generalize hm:gJ a b k=s
 refine zS<|zq (zD 11 ((↑k:Int)<8) (fun hc=>?_) (fun hc=>?_))
 ·skip
  refine a_<|zS<|zB 1 (bg.join (⟨[(1,ab b),(5,ab (if (b>>>UInt8.ofNat k)&&&1=1 then s.p^^^s.x.toUInt8 else s.p)),(6,aw s.x),(7,AV.val (Value.int .u64 (↑k:Int)))],[]⟩:AS) bu ?_ ?_)
  ·refine zP 1 [yH [(2,yV (ab (b>>>UInt8.ofNat (↑k:Int).toNat))),(3,yV (ab (b>>>UInt8.ofNat (↑k:Int).toNat&&&(1:UInt8)))),(4,yV (ao (b>>>UInt8.ofNat (↑k:Int).toNat&&&(1:UInt8) == 1)))]] [.aa [18,11,1,5,6,7] []] [yI (Me b ((↑k:Int)) ag ag),yO ((0:Int)≤(↑k:Int)),yI (Mg (b>>>UInt8.ofNat (↑k:Int).toNat) 1),yI (OT (b>>>UInt8.ofNat (↑k:Int).toNat&&&(1:UInt8)) 1)] (bg.Kc (x:=.tmp 18) (u:=b>>>UInt8.ofNat (↑k:Int).toNat&&&(1:UInt8)) (v:=1) bu bu (fun hc=>?_) (fun hc=>?_))
   ·skip
    refine zX (yH [(2,yV (ab s.x.toUInt8)),(3,yV (ab (s.p^^^s.x.toUInt8)))]) [yR (ab s.x.toUInt8),yI (FB s.p s.x.toUInt8)]<|al ?_
    exact (eS [.aa [1,5,6,7] []] [5] [] [yB (ab (s.p^^^s.x.toUInt8)=ab (if b>>>UInt8.ofNat k&&&(1:UInt8)=1 then s.p^^^s.x.toUInt8 else s.p)) (by rw [if_pos (by simpa using hc)])])
   ·skip
    refine a_ ?_
    exact (eS [.aa [1,5,6,7] []] [5] [] [yB (ab s.p=ab (if b>>>UInt8.ofNat k&&&(1:UInt8)=1 then s.p^^^s.x.toUInt8 else s.p)) (by rw [if_neg (by simpa using hc)])])
  refine zP 2 [yH [(1,yV (aw (s.x<<<(1:UInt64))))],yH [(1,yV (aw (s.x<<<(1:UInt64)&&&(256:UInt64)))),(2,yV (ao (s.x<<<(1:UInt64)&&&(256:UInt64) != 0)))]] [.aa [27,6,1,5,7] []] [yI (jP s.x ((1:Int)) ag ag),yO ((0:Int)≤1),yI (jh (s.x<<<(1:UInt64)) 256),yI (cG (s.x<<<(1:UInt64)&&&(256:UInt64)) 0)] (zN 27 (s.x<<<(1:UInt64)&&&(256:UInt64)) 0 (fun h2=>?_) (fun h2=>?_))
  ·refine zX (yH [(1,yV (aw (s.x<<<(1:UInt64)^^^(283:UInt64))))]) [yI (cI (s.x<<<(1:UInt64)) 283)]<|aJ<|al<|zX (yH [(1,yV (AV.val (Value.int .u64 ((↑k:Int)+1))))]) [yB (AV.val (Value.int .u64 (IntKind.u64.wrap ((↑k:Int)+1)))=AV.val (Value.int .u64 ((↑k:Int)+1))) (sE ag ag)] (aH (k+1) ag ag (eS [.aa [1,5,6,7] []] [5,6] [] [yB (ab (if b>>>UInt8.ofNat k&&&(1:UInt8)=1 then s.p^^^s.x.toUInt8 else s.p)=ab ((gJ a b (k+1)).p)) (by simp only [gJ,hm,uU]<;>rw [if_pos (by simpa using h2)]),yB (aw (s.x<<<(1:UInt64)^^^(283:UInt64))=aw ((gJ a b (k+1)).x)) (by simp only [gJ,hm,uU]<;>rw [if_pos (by simpa using h2)])]))
  ·refine zK<|aJ<|al<|zX (yH [(1,yV (AV.val (Value.int .u64 ((↑k:Int)+1))))]) [yB (AV.val (Value.int .u64 (IntKind.u64.wrap ((↑k:Int)+1)))=AV.val (Value.int .u64 ((↑k:Int)+1))) (sE ag ag)] (aH (k+1) ag ag (eS [.aa [1,5,6,7] []] [5,6] [] [yB (ab (if b>>>UInt8.ofNat k&&&(1:UInt8)=1 then s.p^^^s.x.toUInt8 else s.p)=ab ((gJ a b (k+1)).p)) (by simp only [gJ,hm,uU]<;>rw [if_neg (by simpa using h2)]),yB (aw (s.x<<<(1:UInt64))=aw ((gJ a b (k+1)).x)) (by simp only [gJ,hm,uU]<;>rw [if_neg (by simpa using h2)])]))
 ·have e8:k=8:=ag
  subst e8
  refine zE 0<|a6<|aM<|bm<|al<|zP 1 [{}] [.aa [4,11,1,5,6,7] []] []<|zR (zV [yB (Value.int .u8 (bv s.p)=Value.int .u8 (bv (kW a b))) (by rw [←hm];rfl)])
def zp (a:UInt8):Nat->UInt8
 | 0=>1
 | k+1=>kW (zp a k) a
def eC (p:Int×List UInt8):List AV:=[ai p.1,.sl 1 (aj p.2)]
def dJ (aY:List UInt8) (L j:Nat) (x:UInt8) (need:Nat):Nat->UInt8
 | 0=>0
 | m+1=>eW (dJ aY L j x need m^^^aY.getD ((need-1-m-1)*L+j) 0) x
def dM (ar aY:List UInt8) (need n:Int):Int :=
 if 64<ar.length then 8 else if need<1∨n<need∨255<n then 9 else if (aY.length:Int)<(need-1)*ar.length then 1 else 0
def CG (ar aY:List UInt8) (need:Nat) (x:UInt8) (j:Nat):UInt8:=dJ aY ar.length j x need (need-1)^^^ar.getD j 0
def ym (ar aY:List UInt8) (need:Nat) (x:UInt8):List UInt8:=(List.range ar.length).map (CG ar aY need x)
def HP (ar aY:List UInt8) (need:Nat) (i:Nat):Int×List UInt8:=((i:Int)+1,ym ar aY need (u8 ((i:Int)+1)))
def ju (ar aY:List UInt8) (need n:Int):List (Int×List UInt8):=if dM ar aY need n=0 then (List.range n.toNat).map (HP ar aY need.toNat) else []
abbrev Sh:=Int×List UInt8
def ay (s:List UInt8):List AV:=[cV s]
structure nH where
 bV:UInt64
 peer:UInt64
 box:List UInt8
 ae:List (List UInt8)
 ax:List UInt64
 need:Int
 target:UInt64
def bj (d:nH):List AV:=[aw d.bV,aw d.peer,.sl 1 (aj d.box),.sl 1 (af ay d.ae),.sl 1 (ah d.ax),ai d.need,aw d.target]
def pg (h s:List UInt8):UInt64:=hash 22 (h++ [0]++s)
theorem rG (h:List UInt8) (hh:h.length≤1000):(⟨h.toArray⟩:ByteArray).size≤maxLen:=by
 show h.toArray.size≤_
 unfold maxLen
 simp;omega
theorem i6 {l:List (List UInt8)} {i:Nat} (h:i<l.length):(af ay l)[i]?=some (cV (l.getD i default)):=by
 have:=o7 (f:=ay) (e:=1) (l:=l) (k:=i) (j:=0) (fun _=>rfl) h (c:=cV (l.getD i default)) rfl
 simpa using this
theorem wW (h s:List UInt8) (hh:h.length≤1000) (hs:s.length≤1000):bG Tryz.prog 121 [cV h,.sl 1 (aj s)] (aw (pg h s)):=by
 have hz:=rG h hh
 refine zO Tryz.func121 12<|zP 2 [{},yH [(2,yV (AV.arr (aj [0]))),(3,yV (AV.arr (aj (h.toArray.toList++ [0])))),(5,{av:=some (AV.arr (aj (h.toArray.toList++ [0]++s))),b:=false}),(6,yV (aw (hash (22:Int) (h.toArray.toList++ [0]++s))))]] [.aa [4,0,1] []] [yI hz,yR (aj [0]),yB (aj h.toArray.toList++aj [0]=aj (h.toArray.toList++ [0])) (db _ _),yB (((aj h.toArray.toList).length+1)*1≤140737488355328) (by simp only [aB];omega),yB (aj (h.toArray.toList++ [0])++aj s=aj (h.toArray.toList++ [0]++s)) (db _ _),yB (cp (aj s)) (gi _),yB (((aj (h.toArray.toList++ [0])).length+(aj s).length)*1≤140737488355328) (by simp only [aB,List.length_append,List.length_cons,List.length_nil];omega),yI (iQ ((22:Int)) (h.toArray.toList++ [0]++s) (by simp only [List.length_append,List.length_cons,List.length_nil];omega))]<|zR (bP)
structure Mem where
 name:List UInt8
 h:Int
 r:UInt64
 used:UInt64
def aT (m:Mem):List AV:=[cV m.name,ai m.h,aw m.r,aw m.used]
structure ig where
 aC:Int
 head:UInt64
 bA:Int
 aq:List Mem
 aU:List nH
def dA (g:ig):List AV:=[ai g.aC,aw g.head,ai g.bA,.sl 4 (af aT g.aq),.sl 7 (af bj g.aU)]
instance:Inhabited nH:=⟨⟨0,0,[],[],[],0,0⟩⟩
instance:Inhabited Mem:=⟨⟨[],0,0,0⟩⟩
def wP (l:List nH) (p:UInt64):Nat:=l.findIdx (fun d=>d.bV == p)
theorem Jy {l:List nH} {p:UInt64} (h:∀j,j<l.length->(l.getD j default).bV≠p):wP l p=l.length:=by
 unfold wP
 apply List.findIdx_eq_length.2
 intro d hd
 obtain ⟨j,hj,e⟩:=List.getElem_of_mem hd
 have:=h j hj
 rw [List.getD_eq_getElem?_getD,List.getElem?_eq_getElem hj] at this
 simpa [←e] using this
theorem Jz {l:List nH} {p:UInt64} {i:Nat} (hi:i<l.length) (h:∀j,j<i->(l.getD j default).bV≠p) (e:(l.getD i default).bV=p):wP l p=i:=by
 unfold wP
 rw [List.getD_eq_getElem?_getD,List.getElem?_eq_getElem hi] at e
 refine (List.findIdx_eq hi).2 ⟨by simpa using e,fun j hj=>?_⟩
 have:=h j hj
 rw [List.getD_eq_getElem?_getD,List.getElem?_eq_getElem ag] at this
 simpa using this
def kr (U u:UInt64):UInt64:=UInt64.ofNat ((U.toNat*4294967296+u.toNat)%18446744073709551608)
def mq (n:Nat):UInt64:=UInt64.ofNat (n%2305843009213693951)
theorem vl (n:Nat):(mq n).toNat=n%2305843009213693951:=by
 rw [mq,UInt64.toNat_ofNat',Nat.mod_eq_of_lt];omega
theorem Iu {n m:Nat} (h:n%2305843009213693951=m%2305843009213693951):mq n=mq m:=by rw [mq,mq,h]
theorem qD (x:UInt64):(x%2305843009213693951).toNat=x.toNat%2305843009213693951:=by rw [UInt64.toNat_mod];rfl
theorem Kp (x:UInt64):(x&&&1).toNat=x.toNat%2:=by
 rw [UInt64.toNat_and];exact Nat.and_two_pow_sub_one_eq_mod x.toNat 1
theorem rm (x:UInt64):x&&&1=1↔x.toNat%2=1:=by
 rw [←Kp];exact ⟨fun h=>by rw [h];rfl,fun h=>UInt64.toNat_inj.1 h⟩
theorem HT (t:UInt64) (j:Nat) (h0:0<j) (hj:j≤64):(t>>>UInt64.ofNat ((j:Int)-1).toNat).toNat=t.toNat/2^(j-1):=by
 rw [show ((j:Int)-1).toNat=j-1 by omega,UInt64.toNat_shiftRight,Nat.shiftRight_eq_div_pow,UInt64.toNat_ofNat',Nat.mod_eq_of_lt (a:=j-1) ag,Nat.mod_eq_of_lt ag]
theorem Fk (T j:Nat) (h0:0<j):T/2^(j-1)=2*(T/2^j)+T/2^(j-1)%2:=by
 have e:T/2^j=T/2^(j-1)/2:=by rw [Nat.div_div_eq_div_mul,←Nat.pow_succ];congr 2;omega
 omega
theorem iP (a b:UInt64):bG Tryz.prog 170 [aw a,aw b] (aw (mq (a.toNat*b.toNat))):=by
 have hb:=qD b
 have ha:=qD a
 refine zO Tryz.func170 29<|zP 3 [{},yH [(1,yV (aw (a%2305843009213693951))),(3,yV (aw (b%2305843009213693951)))],{}] [.aa [5,1,0,4] []] [yR (aw (a%2305843009213693951)),yO ((2305843009213693951:Int)≠(0:Int)),yR (aw (b%2305843009213693951)),yO ((2305843009213693951:Int)≠(0:Int))]<|zS<|zq<|zB 0 (zL (fun (j:Nat)=>(⟨[(1,aw (b%2305843009213693951)),(0,aw (a%2305843009213693951)),(4,AV.val (Value.int .u64 0)),(6,ai ((j:Int)-1)),(5,aw (mq (a.toNat*((b%2305843009213693951).toNat/2^j))))],[]⟩:AS)) (fun j=>(j≤61)) (fun j=>(j)) (61) ?_ (eS [.aa [1,0,4,6,5] []] [5] [] [yB (AV.val (Value.int .u64 0)=aw (mq (a.toNat*((b%2305843009213693951).toNat/(2:Nat)^61)))) (congrArg aw (show 0=mq _ by rw [Nat.div_eq_of_lt ag,Nat.mul_zero];rfl))]) ?_)
 ·omega
 intro j hj
 by_cases h0:0<j
 ·have hs:=HT (b%2305843009213693951) j h0 ag
  have hh:=Fk (b%2305843009213693951).toNat j h0
  have UR:=vl (a.toNat*((b%2305843009213693951).toNat/2^j))
  have e0:(mq (a.toNat*((b%2305843009213693951).toNat/2^j))*2%2305843009213693951).toNat=2*(a.toNat*((b%2305843009213693951).toNat/2^j))%2305843009213693951:=by
   rw [qD,UInt64.toNat_mul,UR]
   generalize a.toNat*((b%2305843009213693951).toNat/2^j)=X
   show X%_*2%18446744073709551616%_=_
   rw [Nat.mod_eq_of_lt (b:=18446744073709551616) ag,Nat.mul_comm,Nat.mul_mod,Nat.mod_mod,←Nat.mul_mod]
  by_cases h1:(b%2305843009213693951)>>>UInt64.ofNat ((j:Int)-1).toNat&&&1=1
  ·have Jo:=(rm _).1 h1
   rw [hs] at Jo
   have e1:(mq (a.toNat*((b%2305843009213693951).toNat/2^j))*2%2305843009213693951+a%2305843009213693951)%2305843009213693951=mq (a.toNat*((b%2305843009213693951).toNat/2^(j-1))):=by
    apply UInt64.toNat_inj.1
    have e2:a.toNat*(2*((b%2305843009213693951).toNat/2^j)+1)=2*(a.toNat*((b%2305843009213693951).toNat/2^j))+a.toNat:=by rw [Nat.mul_add,Nat.mul_left_comm,Nat.mul_one]
    rw [qD,UInt64.toNat_add,e0,ha,vl,hh,Jo,e2]
    generalize a.toNat*((b%2305843009213693951).toNat/2^j)=X
    show (2*X%_+_)%18446744073709551616%_=_
    rw [Nat.mod_eq_of_lt (b:=18446744073709551616) ag,←Nat.add_mod]
   refine zS<|zq<|iw 12 ((↑j:Int)-1≥0)<|a_<|zS<|zB 1<|zP 2 [yH [(1,yV (aw (mq (a.toNat*((b%2305843009213693951).toNat/(2:Nat)^j))*2))),(2,yV (aw (mq (a.toNat*((b%2305843009213693951).toNat/(2:Nat)^j))*2%2305843009213693951)))],yH [(2,yV (AV.val (Value.int .u64 ((↑j:Int)-1)))),(3,yV (aw ((b%2305843009213693951)>>>UInt64.ofNat ((↑j:Int)-1).toNat))),(4,yV (aw ((b%2305843009213693951)>>>UInt64.ofNat ((↑j:Int)-1).toNat&&&(1:UInt64)))),(5,yV (ao ((b%2305843009213693951)>>>UInt64.ofNat ((↑j:Int)-1).toNat&&&(1:UInt64) == 1)))]] [.aa [23,5,12,1,0,4,6] []] [yR (aw (mq (a.toNat*((b%2305843009213693951).toNat/(2:Nat)^j))*2)),yR (aw (mq (a.toNat*((b%2305843009213693951).toNat/(2:Nat)^j))*2%2305843009213693951)),yO ((2305843009213693951:Int)≠(0:Int)),yB (AV.val (Value.int .u64 (IntKind.u64.wrap ((↑j:Int)-1)))=AV.val (Value.int .u64 ((↑j:Int)-1))) (sE ag ag),yI (fB (b%2305843009213693951) ((↑j:Int)-1) ag ag),yO ((0:Int)≤(↑j:Int)-1),yI (jh ((b%2305843009213693951)>>>UInt64.ofNat ((↑j:Int)-1).toNat) 1),yI (fe ((b%2305843009213693951)>>>UInt64.ofNat ((↑j:Int)-1).toNat&&&(1:UInt64)) 1)]<|dB 23 ((b%2305843009213693951)>>>UInt64.ofNat ((↑j:Int)-1).toNat&&&(1:UInt64) == 1) eJ<|zX (yH [(2,yV (aw (mq (a.toNat*((b%2305843009213693951).toNat/(2:Nat)^j))*2%2305843009213693951+a%2305843009213693951))),(3,yV (aw ((mq (a.toNat*((b%2305843009213693951).toNat/(2:Nat)^j))*2%2305843009213693951+a%2305843009213693951)%2305843009213693951)))]) [yR (aw (mq (a.toNat*((b%2305843009213693951).toNat/(2:Nat)^j))*2%2305843009213693951+a%2305843009213693951)),yR (aw ((mq (a.toNat*((b%2305843009213693951).toNat/(2:Nat)^j))*2%2305843009213693951+a%2305843009213693951)%2305843009213693951)),yO ((2305843009213693951:Int)≠(0:Int))]<|aJ<|al<|zX (yH [(1,yV (ai ((↑j:Int)-1-1)))]) [yN ((↑j:Int)-1-1)] (aH (j-1) ag ag (eS [.aa [1,0,4,6,5] []] [6,5] [] [yB (ai ((↑j:Int)-1-1)=ai ((↑(j-1):Int)-1)) (congrArg ai ag),yB (aw ((mq (a.toNat*((b%2305843009213693951).toNat/(2:Nat)^j))*2%2305843009213693951+a%2305843009213693951)%2305843009213693951)=aw (mq (a.toNat*((b%2305843009213693951).toNat/(2:Nat)^(j-1))))) (congrArg aw e1)]))
  ·have Jo:¬(b%2305843009213693951).toNat/2^(j-1)%2=1:=fun e=>h1 ((rm _).2 (by rw [hs];exact e))
   have e1:mq (a.toNat*((b%2305843009213693951).toNat/2^j))*2%2305843009213693951=mq (a.toNat*((b%2305843009213693951).toNat/2^(j-1))):=by
    apply UInt64.toNat_inj.1
    rw [e0,vl,hh,show (b%2305843009213693951).toNat/2^(j-1)%2=0 by omega,Nat.add_zero,Nat.mul_left_comm]
   refine zS<|zq<|iw 12 ((↑j:Int)-1≥0)<|a_<|zS<|zB 1<|zP 2 [yH [(1,yV (aw (mq (a.toNat*((b%2305843009213693951).toNat/(2:Nat)^j))*2))),(2,yV (aw (mq (a.toNat*((b%2305843009213693951).toNat/(2:Nat)^j))*2%2305843009213693951)))],yH [(2,yV (AV.val (Value.int .u64 ((↑j:Int)-1)))),(3,yV (aw ((b%2305843009213693951)>>>UInt64.ofNat ((↑j:Int)-1).toNat))),(4,yV (aw ((b%2305843009213693951)>>>UInt64.ofNat ((↑j:Int)-1).toNat&&&(1:UInt64)))),(5,yV (ao ((b%2305843009213693951)>>>UInt64.ofNat ((↑j:Int)-1).toNat&&&(1:UInt64) == 1)))]] [.aa [23,5,12,1,0,4,6] []] [yR (aw (mq (a.toNat*((b%2305843009213693951).toNat/(2:Nat)^j))*2)),yR (aw (mq (a.toNat*((b%2305843009213693951).toNat/(2:Nat)^j))*2%2305843009213693951)),yO ((2305843009213693951:Int)≠(0:Int)),yB (AV.val (Value.int .u64 (IntKind.u64.wrap ((↑j:Int)-1)))=AV.val (Value.int .u64 ((↑j:Int)-1))) (sE ag ag),yI (fB (b%2305843009213693951) ((↑j:Int)-1) ag ag),yO ((0:Int)≤(↑j:Int)-1),yI (jh ((b%2305843009213693951)>>>UInt64.ofNat ((↑j:Int)-1).toNat) 1),yI (fe ((b%2305843009213693951)>>>UInt64.ofNat ((↑j:Int)-1).toNat&&&(1:UInt64)) 1)]<|bk 23 ((b%2305843009213693951)>>>UInt64.ofNat ((↑j:Int)-1).toNat&&&(1:UInt64) == 1) bD<|zK<|aJ<|al<|zX (yH [(1,yV (ai ((↑j:Int)-1-1)))]) [yN ((↑j:Int)-1-1)] (aH (j-1) ag ag (eS [.aa [1,0,4,6,5] []] [6,5] [] [yB (ai ((↑j:Int)-1-1)=ai ((↑(j-1):Int)-1)) (congrArg ai ag),yB (aw (mq (a.toNat*((b%2305843009213693951).toNat/(2:Nat)^j))*2%2305843009213693951)=aw (mq (a.toNat*((b%2305843009213693951).toNat/(2:Nat)^(j-1))))) (congrArg aw e1)]))
 ·have Tg:j=0:=ag
  subst Tg
  have e:mq (a.toNat*((b%2305843009213693951).toNat/2^0))=mq (a.toNat*b.toNat):=by
   rw [Nat.pow_zero,Nat.div_one,hb];apply Iu;rw [Nat.mul_mod,Nat.mod_mod,←Nat.mul_mod]
  refine zS<|zP 1 [{}] [.aa [12,1,0,4,6,5] []] []<|dF 12 ((↑(0:Nat):Int)-1≥0)<|zE 0<|a6<|aM<|bm<|al<|zP 1 [{}] [.aa [4,12,1,0,6,5] []] []<|zR (zV [yK (wv (mq (a.toNat*((b%2305843009213693951).toNat/(2:Nat)^0)))) (wv (mq (a.toNat*b.toNat))) (by rw [e])])
theorem sU (a n:UInt64):bG Tryz.prog 159 [aw a,aw n] (aw (mq (a.toNat^n.toNat))):=by
 have hn:=n.toNat_lt
 refine zO Tryz.func159 24<|zQ 2 [{},{}] []<|zS<|zq<|zB 0 (zL (fun (j:Nat)=>(⟨[(4,AV.val (Value.int .u64 0)),(0,aw a),(1,aw n),(6,ai ((j:Int)-1)),(5,aw (mq (a.toNat^(n.toNat/2^j))))],[]⟩:AS)) (fun j=>(j≤64)) (fun j=>(j)) (64) ?_ (eS [.aa [4,0,1,6,5] []] [5] [] [yB (AV.val (Value.int .u64 1)=aw (mq (a.toNat^(n.toNat/(2:Nat)^64)))) (congrArg aw (show 1=mq _ by rw [Nat.div_eq_of_lt ag];rfl))]) ?_)
 ·omega
 intro j hj
 by_cases h0:0<j
 ·have hs:=HT n j h0 ag
  have hh:=Fk n.toNat j h0
  have e0:mq ((mq (a.toNat^(n.toNat/2^j))).toNat*(mq (a.toNat^(n.toNat/2^j))).toNat)=mq (a.toNat^(2*(n.toNat/2^j))):=by
   apply Iu
   rw [vl,←Nat.mul_mod,←Nat.pow_add];congr 2;omega
  by_cases h1:n>>>UInt64.ofNat ((j:Int)-1).toNat&&&1=1
  ·have Jo:=(rm _).1 h1
   rw [hs] at Jo
   have e1:mq ((mq ((mq (a.toNat^(n.toNat/2^j))).toNat*(mq (a.toNat^(n.toNat/2^j))).toNat)).toNat*a.toNat)=mq (a.toNat^(n.toNat/2^(j-1))):=by
    rw [e0,hh,Jo,Nat.pow_succ]
    apply Iu
    rw [vl,Nat.mul_mod,Nat.mod_mod,←Nat.mul_mod]
   refine zS<|zq<|iw 8 ((↑j:Int)-1≥0)<|a_<|zS<|zB 1<|zP 2 [yH [(2,yC (iP (mq (a.toNat^(n.toNat/(2:Nat)^j))) (mq (a.toNat^(n.toNat/(2:Nat)^j)))))],yH [(2,yV (AV.val (Value.int .u64 ((↑j:Int)-1)))),(3,yV (aw (n>>>UInt64.ofNat ((↑j:Int)-1).toNat))),(4,yV (aw (n>>>UInt64.ofNat ((↑j:Int)-1).toNat&&&(1:UInt64)))),(5,yV (ao (n>>>UInt64.ofNat ((↑j:Int)-1).toNat&&&(1:UInt64) == 1)))]] [.aa [19,5,8,4,0,1,6] []] [yI (iP (mq (a.toNat^(n.toNat/(2:Nat)^j))) (mq (a.toNat^(n.toNat/(2:Nat)^j)))),yB (AV.val (Value.int .u64 (IntKind.u64.wrap ((↑j:Int)-1)))=AV.val (Value.int .u64 ((↑j:Int)-1))) (sE ag ag),yI (fB n ((↑j:Int)-1) ag ag),yO ((0:Int)≤(↑j:Int)-1),yI (jh (n>>>UInt64.ofNat ((↑j:Int)-1).toNat) 1),yI (fe (n>>>UInt64.ofNat ((↑j:Int)-1).toNat&&&(1:UInt64)) 1)]<|dB 19 (n>>>UInt64.ofNat ((↑j:Int)-1).toNat&&&(1:UInt64) == 1) eJ<|zX (yH [(2,yC (iP (mq ((mq (a.toNat^(n.toNat/(2:Nat)^j))).toNat*(mq (a.toNat^(n.toNat/(2:Nat)^j))).toNat)) (a)))]) [yI (iP (mq ((mq (a.toNat^(n.toNat/(2:Nat)^j))).toNat*(mq (a.toNat^(n.toNat/(2:Nat)^j))).toNat)) a)]<|aJ<|al<|zX (yH [(1,yV (ai ((↑j:Int)-1-1)))]) [yN ((↑j:Int)-1-1)] (aH (j-1) ag ag (eS [.aa [4,0,1,6,5] []] [6,5] [] [yB (ai ((↑j:Int)-1-1)=ai ((↑(j-1):Int)-1)) (congrArg ai ag),yB (aw (mq ((mq ((mq (a.toNat^(n.toNat/(2:Nat)^j))).toNat*(mq (a.toNat^(n.toNat/(2:Nat)^j))).toNat)).toNat*a.toNat))=aw (mq (a.toNat^(n.toNat/(2:Nat)^(j-1))))) (congrArg aw e1)]))
  ·have Jo:¬n.toNat/2^(j-1)%2=1:=fun e=>h1 ((rm _).2 (by rw [hs];exact e))
   have e1:mq ((mq (a.toNat^(n.toNat/2^j))).toNat*(mq (a.toNat^(n.toNat/2^j))).toNat)=mq (a.toNat^(n.toNat/2^(j-1))):=by
    rw [e0,hh,show n.toNat/2^(j-1)%2=0 by omega,Nat.add_zero]
   refine zS<|zq<|iw 8 ((↑j:Int)-1≥0)<|a_<|zS<|zB 1<|zP 2 [yH [(2,yC (iP (mq (a.toNat^(n.toNat/(2:Nat)^j))) (mq (a.toNat^(n.toNat/(2:Nat)^j)))))],yH [(2,yV (AV.val (Value.int .u64 ((↑j:Int)-1)))),(3,yV (aw (n>>>UInt64.ofNat ((↑j:Int)-1).toNat))),(4,yV (aw (n>>>UInt64.ofNat ((↑j:Int)-1).toNat&&&(1:UInt64)))),(5,yV (ao (n>>>UInt64.ofNat ((↑j:Int)-1).toNat&&&(1:UInt64) == 1)))]] [.aa [19,5,8,4,0,1,6] []] [yI (iP (mq (a.toNat^(n.toNat/(2:Nat)^j))) (mq (a.toNat^(n.toNat/(2:Nat)^j)))),yB (AV.val (Value.int .u64 (IntKind.u64.wrap ((↑j:Int)-1)))=AV.val (Value.int .u64 ((↑j:Int)-1))) (sE ag ag),yI (fB n ((↑j:Int)-1) ag ag),yO ((0:Int)≤(↑j:Int)-1),yI (jh (n>>>UInt64.ofNat ((↑j:Int)-1).toNat) 1),yI (fe (n>>>UInt64.ofNat ((↑j:Int)-1).toNat&&&(1:UInt64)) 1)]<|bk 19 (n>>>UInt64.ofNat ((↑j:Int)-1).toNat&&&(1:UInt64) == 1) bD<|zK<|aJ<|al<|zX (yH [(1,yV (ai ((↑j:Int)-1-1)))]) [yN ((↑j:Int)-1-1)] (aH (j-1) ag ag (eS [.aa [4,0,1,6,5] []] [6,5] [] [yB (ai ((↑j:Int)-1-1)=ai ((↑(j-1):Int)-1)) (congrArg ai ag),yB (aw (mq ((mq (a.toNat^(n.toNat/(2:Nat)^j))).toNat*(mq (a.toNat^(n.toNat/(2:Nat)^j))).toNat))=aw (mq (a.toNat^(n.toNat/(2:Nat)^(j-1))))) (congrArg aw e1)]))
 ·have Tg:j=0:=ag
  subst Tg
  refine zS<|zP 1 [{}] [.aa [8,4,0,1,6,5] []] []<|dF 8 ((↑(0:Nat):Int)-1≥0)<|zE 0<|a6<|aM<|bm<|al<|zP 1 [{}] [.aa [4,8,0,1,6,5] []] []<|zR (zV [yK (wv (mq (a.toNat^(n.toNat/(2:Nat)^0)))) (wv (mq (a.toNat^n.toNat))) (by rw [Nat.pow_zero,Nat.div_one])])
end Go.Proofs.YtjgbhhnghedgdaaGreatDoor
