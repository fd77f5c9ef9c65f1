import Derived.Test.YtjgbhhnghedgdaaGreatDoorZsDR
import Derived.Lib.AppendZerosOnto
import Derived.Lib.SliceRun
import Derived.KernelRfl
import Derived.Lib.Mul64
set_option linter.all false
namespace Go.Proofs.YtjgbhhnghedgdaaGreatDoor
open Go.RowKit
set_option maxRecDepth 100000
set_option maxHeartbeats 4000000
def ft (v n:Int):Nat:=((v%18446744073709551616)%n).toNat
theorem sF (v:Int) {n:Int} (h:1≤n):(ft v n:Int)<n:=by
 have:=Int.emod_lt_of_pos (v%18446744073709551616) (ah:0<n)
 have:=Int.emod_nonneg (v%18446744073709551616) (ah:n≠0)
 unfold ft;omega
theorem ql (v:Int):wv (u64 v)=v%18446744073709551616:=by rw [←yn,IntKind.wrap_u64]
theorem sE (v n:Int) (h1:1≤n) (h2:n≤9223372036854775807):bK Tryz.prog 23 [ai v,ai n] (ai (ft v n)):=by
 have hn:wv (u64 n)=n:=by rw [ql];omega
 have hm:=sF v h1
 have e:(wv (u64 v)).tmod (wv (u64 n))=ft v n:=by
  have h0:0≤v%18446744073709551616:=Int.emod_nonneg _ (by decide)
  have:=Int.emod_nonneg (v%18446744073709551616) (ah:n≠0)
  rw [hn,ql,Int.tmod_eq_emod_of_nonneg h0];unfold ft;omega
 have e2:IntKind.i64.wrap (wv (u64 v%u64 n))=ft v n:=by
  have h:=La (u64 v) (u64 n)
  rw [e] at h
  have h2:(ft v n:Int)=wv (u64 v%u64 n):=by injection h with h;injection h
  rw [←h2,IntKind.wrap_i64];omega
 refine zO Tryz.func23 11<|zP 2 [{},yH [(1,yV (aw (u64 v))),(3,yV (aw (u64 n))),(4,yV (aw (u64 v%u64 n)))]] [.aa [4,0,1] []] [yI (a6 v),yI (a6 n),yR (aw (u64 v%u64 n)),yO (wv (u64 n)≠(0:Int))]<|zR (zV [yJ (IntKind.i64.wrap (wv (u64 v%u64 n))) (↑(ft v n):Int) (by rw [e2])])
def K9 (key cR:UInt64) (i:Nat):List UInt8:=words [yi key 5 (words [cR,u64 i])]
def pd (key cR:UInt64):Nat->List UInt8
 | 0=>[]
 | k+1=>pd key cR k++K9 key cR k
theorem K8 (key cR:UInt64) (i:Nat):(K9 key cR i).length=8:=by rw [K9,dA];rfl
theorem tn (key cR:UInt64):∀k,(pd key cR k).length=8*k
 | 0=>rfl
 | k+1=>by rw [pd,List.length_append,tn key cR k,K8];omega
def iB (n:Int):Nat:=(min (max n 0) 1024).toNat
def stream (key cR:UInt64) (n:Int):List UInt8:=(pd key cR ((iB n+7)/8)).take (iB n)
theorem tp (key cR:UInt64) (n:Int):(stream key cR n).length=iB n:=by
 rw [stream,List.length_take,tn];omega
theorem oh (key cR:UInt64) (n:Int):bK Tryz.prog 118 [aw key,aw cR,ai n] (.own 1 (ag (stream key cR n))):=by
 generalize hm:iB n=m
 have hv:(if 1024<if 0>n then 0 else n then 1024 else if 0>n then 0 else n)=(m:Int):=by
  rw [←hm];unfold iB;split<;>split at* <;> omega
 have DS:m≤1024:=by rw [←hm];unfold iB;omega
 refine zO Tryz.func118 32<|zP 3 [{},yH [(2,yV (ai ↑m))],{}] [.aa [7,2,6,0,1] []] [yI (yc hv)]<|zS<|zq<|zB 0 (zL (fun (k:Nat)=>(⟨[(2,ai ↑m),(6,AV.nil),(0,aw key),(1,aw cR),(8,ai k),(7,AV.ref 28)],[(28,⟨1,true,false,ag (pd key cR k)⟩)]⟩:AS)) (fun k=>(8*k<m+8)) (fun k=>(m+8-8*k)) (0) ?_ (zW [.nil 7 28 1,.aa [2,6,0,1,8,7] [28]]) ?_)
 ·omega
 intro k hk
 have hl:=tn key cR k
 refine zS<|zP 1 [yH [(1,{k:=(pd key cR k).length})]] [.aa [15,2,6,0,1,8,7] [28]] [yI (aA (pd key cR k))] (zD 15 ((↑(pd key cR k).length:Int)<(↑m:Int)) (fun h1=>?_) (fun h1=>?_))
 ·skip
  refine a8<|zS<|zB 1<|zX (yH [(4,yV (aw (u64 (↑k:Int)))),(5,yV (AV.arr (aj [cR,u64 (↑k:Int)]))),(6,yV (AV.own 1 (ag (words [cR,u64 (↑k:Int)])))),(7,yV (aw (yi key (5:Int) (words [cR,u64 (↑k:Int)])))),(8,yV (AV.arr (aj [yi key (5:Int) (words [cR,u64 (↑k:Int)])]))),(9,yV (AV.own 1 (ag (words [yi key (5:Int) (words [cR,u64 (↑k:Int)])])))),(10,yV (AV.arr (ag (pd key cR k++words [yi key (5:Int) (words [cR,u64 (↑k:Int)])]))))]) [yI (a6 ((↑k:Int))),yR (aj [cR,u64 (↑k:Int)]),yI (de [cR,u64 (↑k:Int)] (by simp only [List.length_cons,List.length_nil];omega)),yI (aV (words [cR,u64 (↑k:Int)])),yI (oG key ((5:Int)) (words [cR,u64 (↑k:Int)]) (by simp only [List.length_cons,List.length_nil,dA];omega)),yR [aw (yi key (5:Int) (words [cR,u64 (↑k:Int)]))],yI (de [yi key (5:Int) (words [cR,u64 (↑k:Int)])] (by simp only [List.length_cons,List.length_nil];omega)),yI (aV (words [yi key (5:Int) (words [cR,u64 (↑k:Int)])])),yB (ag (pd key cR k)++ag (words [yi key (5:Int) (words [cR,u64 (↑k:Int)])])=ag (pd key cR k++words [yi key (5:Int) (words [cR,u64 (↑k:Int)])])) (cQ _ _),yB (((ag (pd key cR k)).length+8)*1≤140737488355328) (by simp only [aA];omega)]<|aM<|ak<|zX (yH [(1,yV (ai ((↑k:Int)+1)))]) [yN ((↑k:Int)+1)] (aI (k+1) ah ah (zW [.aa [2,6,0,1,8,7] [28]]))
 ·have e:k=(m+7)/8:=ah
  refine zE 0<|aY<|aN<|bm<|ak<|zP 1 [yH [(2,{m:=m})]] [.aa [6,15,2,0,1,8,7] [28]] [yR (↑m:Int),yB (m≤(ag (pd key cR k)).length) (by simp only [aA];omega)]<|zR (zV [yB (List.take m (ag (pd key cR k))=ag (stream key cR n)) (by rw [rZ,stream,hm,←e])])
theorem FG (seed n:Int):bK Tryz.prog 72 [ai seed,ai n] (.own 1 (ag (stream (u64 seed+1) 7 n))):=by
 have hs:iB (if 0>if 1024<n then 1024 else n then 0 else if 1024<n then 1024 else n)=iB n:=by
  unfold iB;split<;>split at* <;> omega
 refine zO Tryz.func72 12<|zP 2 [{},yH [(1,yV (aw (u64 seed))),(2,yV (aw (u64 seed+1))),(6,yV (AV.own 1 (ag (stream (u64 seed+1) 7 (if (0:Int)>if (1024:Int)<n then (1024:Int) else n then (0:Int) else if (1024:Int)<n then (1024:Int) else n)))))]] [.aa [4,0,1] [11]] [yI (a6 seed),yR (aw (u64 seed+1)),yI (oh (u64 seed+1) 7 (if (0:Int)>if (1024:Int)<n then (1024:Int) else n then (0:Int) else if (1024:Int)<n then (1024:Int) else n)),yI (aV (stream (u64 seed+1) 7 (if (0:Int)>if (1024:Int)<n then (1024:Int) else n then (0:Int) else if (1024:Int)<n then (1024:Int) else n)))]<|zR (zV [yB (ag (stream (u64 seed+1) 7 (if (0:Int)>if (1024:Int)<n then (1024:Int) else n then (0:Int) else if (1024:Int)<n then (1024:Int) else n))=ag (stream (u64 seed+1) 7 n)) (by rw [stream,stream,hs])])
structure fo where
 kind:Int
 num:UInt64
 cC:List UInt8
def aU (x:fo):List AV:=[ai x.kind,aw x.num,dw x.cC]
def bw (k:Int):List AV:=[ao false,ai k,.nil]
def A8 (fr:List Int) (c:Nat):List (Nat×Row):=[(1000000000000,⟨1,false,true,[.ref 5,ai c]⟩),(5,⟨3,true,false,af bw fr⟩)]
theorem fQ (fr:List Int) (c:Nat) (hf:fr.length≤1000000):gb Tryz.prog 163 [.addr 1000000000000 0] (A8 fr c) (ao (decide (0<c∧fr.length=0))) (A8 fr c):=by
 have hl:(af bw fr).length=fr.length*3:=aG (e:=3) (fun _=>rfl) ..
 by_cases h:0<c
 ·by_cases h2:fr.length=0
  ·rw [decide_eq_true (⟨h,h2⟩:0<c∧fr.length=0)]
   refine mN Tryz.func163 16<|zP 2 [{},yH [(10,{k:=fr.length})]] [.aa [2,0] [1000000000000,5]] (yM 5 (yT ((↑c:Int)>0))++ [yI hl]++yM 2 (yT ((↑c:Int)>0)))<|zR (zG [] [yB (Value.bool ((↑fr.length:Int) == (0:Int))=Value.bool true) (by simp [h2]),yR [AV.ref 5,ai ↑c],yR (af bw fr)])
  ·rw [decide_eq_false (fun q:0<c∧fr.length=0=>h2 q.2)]
   refine mN Tryz.func163 16<|zP 2 [{},yH [(10,{k:=fr.length})]] [.aa [2,0] [1000000000000,5]] (yM 5 (yT ((↑c:Int)>0))++ [yI hl]++yM 2 (yT ((↑c:Int)>0)))<|zR (zG [] [yB (Value.bool ((↑fr.length:Int) == (0:Int))=Value.bool false) (congrArg Value.bool (beq_eq_false_iff_ne.2 ah)),yR [AV.ref 5,ai ↑c],yR (af bw fr)])
 ·rw [decide_eq_false (fun q:0<c∧fr.length=0=>h q.1)]
  refine mN Tryz.func163 16<|zP 2 [{},yH ([(12,{b:=false})]++yg [6,7,8,9,10,11])] [.aa [2,0] [1000000000000,5]] (yM 7 (yF ((↑c:Int)>0)))<|zR (zG [] [yR (Value.bool false),yR [AV.ref 5,ai ↑c],yR (af bw fr)])
theorem mv (fr:List Int) (c:Nat) (hf:fr.length≤1000000):gb Tryz.prog 174 [.addr 1000000000000 0] (A8 fr c) (ao false) (A8 fr c):=by
 have hl:(af bw fr).length=fr.length*3:=aG (e:=3) (fun _=>rfl) ..
 by_cases h:0<fr.length
 ·obtain ⟨n,hn⟩:∃n,fr.length=n+1:=⟨fr.length-1,ah⟩
  refine mN Tryz.func174 35 ?_
  have w:IntKind.i64.wrap ((fr.length:Int)-1)=n:=by rw [IntKind.wrap_i64];omega
  have h2:n*3<(af bw fr).length:=ah
  have h3:(af bw fr)[n*3]?=some (ao false):=nP (f:=bw) (e:=3) (l:=fr) (k:=n) (j:=0) (fun _=>rfl) ah rfl
  refine zP 3 [{},yH [(4,{k:=fr.length})],yH ([(8,yV (ai ↑n)),(9,{k:=n}),(11,yV (ao false)),(25,{b:=false})]++yg [14,15,16,17,18,19,20,21,22,23,24])] [.aa [2,3,0] [1000000000000,5]] ([yI hl]++yM 6 (yT ((↑fr.length:Int)>0))++ [yI (yc w),yT ((↑fr.length:Int)>0),yR (↑n:Int),yI h2]++yM 2 (yT ((↑fr.length:Int)>0))++ [yI h3,yT ((↑fr.length:Int)>0)]++yM 12 (yR false))<|zR (zG [] [yR (Value.bool false),yR [AV.ref 5,ai ↑c],yR (af bw fr)])
 ·refine mN Tryz.func174 35<|zP 3 [{},yH [(4,{k:=fr.length})],yH ([(12,{b:=false}),(25,{b:=false})]++yg [3,4,5,6,7,8,9,10,11,14,15,16,17,18,19,20,21,22,23,24])] [.aa [2,3,0] [1000000000000,5]] ([yI hl]++yM 10 (yF ((↑fr.length:Int)>0))++yM 12 (yR false))<|zR (zG [] [yR (Value.bool false),yR [AV.ref 5,ai ↑c],yR (af bw fr)])
def eU (c n:Nat) (k:Int):Int:=if 512≤c then 8 else if k<1∨8<k then 3 else if 8<n then 5 else 0
theorem ia (fr:List Int) (c:Nat) (k:Int) (hf:fr.length≤1000000):gb Tryz.prog 171 [.addr 1000000000000 0,ai k] (A8 fr c) (ai (eU c fr.length k)) (A8 fr c):=by
 have hl:(af bw fr).length=fr.length*3:=aG (e:=3) (fun _=>rfl) ..
 by_cases h1:512≤c
 ·have e:eU c fr.length k=8:=if_pos h1
  refine mN Tryz.func171 36<|zq<|zS<|zP 1 [{}] [.aa [9,4,0,1] [1000000000000,5]] []<|jO 9 ((↑c:Int)≥512)<|zq<|dW (zG [] [yJ 8 (eU c fr.length k) (by rw [e]),yR [AV.ref 5,ai ↑c],yR (af bw fr)])
 by_cases h2:k<1
 ·have e:eU c fr.length k=3:=by unfold eU;rw [if_neg h1,if_pos (.inl h2)]
  refine mN Tryz.func171 36<|zq<|zS<|zP 1 [{}] [.aa [9,4,0,1] [1000000000000,5]] []<|dK 9 ((↑c:Int)≥512)<|a8<|zS<|zP 1 [{}] [.aa [15,9,4,0,1] [1000000000000,5]] (yM 3 (yT (k<1)))<|zT 15<|zq<|dW (zG [] [yJ 3 (eU c fr.length k) (by rw [e]),yR [AV.ref 5,ai ↑c],yR (af bw fr)])
 by_cases h3:8<k
 ·have e:eU c fr.length k=3:=by unfold eU;rw [if_neg h1,if_pos (.inr h3)]
  refine mN Tryz.func171 36<|zq<|zS<|zP 1 [{}] [.aa [9,4,0,1] [1000000000000,5]] []<|dK 9 ((↑c:Int)≥512)<|a8<|zS<|zP 1 [yH ([(5,{b:=false})]++yg [3,4])] [.aa [15,9,4,0,1] [1000000000000,5]] (yM 3 (yF (k<1)))<|jO 15 (k>8)<|zq<|dW (zG [] [yJ 3 (eU c fr.length k) (by rw [e]),yR [AV.ref 5,ai ↑c],yR (af bw fr)])
 by_cases h4:8<fr.length
 ·have e:eU c fr.length k=5:=by unfold eU;rw [if_neg h1,if_neg ah,if_pos h4]
  refine mN Tryz.func171 36<|zq<|zS<|zP 1 [{}] [.aa [9,4,0,1] [1000000000000,5]] []<|dK 9 ((↑c:Int)≥512)<|a8<|zS<|zP 1 [yH ([(5,{b:=false})]++yg [3,4])] [.aa [15,9,4,0,1] [1000000000000,5]] (yM 3 (yF (k<1)))<|dK 15 (k>8)<|a8<|zS<|zP 1 [yH ([(1,{av:=some (ao false),ln:=[(1000000000000,1000000000000),(5,5)],ho:=[(1000000000000,Row.mk 1 false true [AV.ref 5,ai ↑c]),(5,Row.mk 3 true false (af bw fr))]}),(5,{b:=false}),(9,{b:=false}),(13,{b:=false})]++yg [3,4,7,8,11,12])] [.aa [29,15,9,4,0,1] [1000000000000,5]] ([yI (mv fr c hf),yB ([AV.ref 5,ai ↑c].length= [AV.ref 5,ai ↑c].length∧0< [AV.ref 5,ai ↑c].length) ⟨rfl,Nat.succ_pos _⟩]++yM 9 (yR false))<|zF 29<|a8<|zS<|zP 1 [yH [(4,{k:=fr.length})]] [.aa [35,29,15,9,4,0,1] [1000000000000,5]] [yI hl]<|jO 35 ((↑fr.length:Int)>8)<|zq<|dW (zG [] [yJ 5 (eU c fr.length k) (by rw [e]),yR [AV.ref 5,ai ↑c],yR (af bw fr)])
 ·have e:eU c fr.length k=0:=by unfold eU;rw [if_neg h1,if_neg ah,if_neg h4]
  refine mN Tryz.func171 36<|zq<|zS<|zP 1 [{}] [.aa [9,4,0,1] [1000000000000,5]] []<|dK 9 ((↑c:Int)≥512)<|a8<|zS<|zP 1 [yH ([(5,{b:=false})]++yg [3,4])] [.aa [15,9,4,0,1] [1000000000000,5]] (yM 3 (yF (k<1)))<|dK 15 (k>8)<|a8<|zS<|zP 1 [yH ([(1,{av:=some (ao false),ln:=[(1000000000000,1000000000000),(5,5)],ho:=[(1000000000000,Row.mk 1 false true [AV.ref 5,ai ↑c]),(5,Row.mk 3 true false (af bw fr))]}),(5,{b:=false}),(9,{b:=false}),(13,{b:=false})]++yg [3,4,7,8,11,12])] [.aa [29,15,9,4,0,1] [1000000000000,5]] ([yI (mv fr c hf),yB ([AV.ref 5,ai ↑c].length= [AV.ref 5,ai ↑c].length∧0< [AV.ref 5,ai ↑c].length) ⟨rfl,Nat.succ_pos _⟩]++yM 9 (yR false))<|zF 29<|a8<|zS<|zP 1 [yH [(4,{k:=fr.length})]] [.aa [35,29,15,9,4,0,1] [1000000000000,5]] [yI hl]<|dK 35 ((↑fr.length:Int)>8)<|a8<|zq<|zR (zG [] [yJ 0 (eU c fr.length k) (by rw [e]),yR [AV.ref 5,ai ↑c],yR (af bw fr)])
def mr (fr:List Int):List Int:=if fr.length=0 then fr else fr.set (fr.length-1) (fr.getD (fr.length-1) 0-1)
def ld (x:fo) (fr:List Int):List Int:=if x.kind=5∧0<wv x.num then fr++ [wv x.num] else fr
def lf (l:List Int):Nat->Nat
 | 0=>0
 | n+1=>if l.getD n 0=0 then lf l n else n+1
def oI (l:List Int):List Int:=l.take (lf l l.length)
def lE (fr:List Int) (x:fo):List Int:=oI (ld x (mr fr))
theorem Dl:∀(l:List Int) (n:Nat) (v:Int),n<l.length->(af bw l).set (n*3+1) (ai v)=af bw (l.set n v)
 | [],n,v,h=>by simp at h
 | k::l,0,v,h=>rfl
 | k::l,n+1,v,h=>by
  have ih:=Dl l n v (by simpa using h)
  rw [show (n+1)*3+1=n*3+1+1+1+1 by omega]
  show ao false::ai k:: .nil::(af bw l).set (n*3+1) (ai v)=_
  rw [ih];rfl
theorem AA {l:List Int} {n:Nat} (h:n<l.length):(af bw l)[n*3+1]?=some (ai (l.getD n 0)):=nP (f:=bw) (e:=3) (l:=l) (k:=n) (j:=1) (fun _=>rfl) h rfl
theorem JV {ι:Type} {I:ι->AS} {Inv:ι->Prop} {m:ι->Nat} {Q:Exit->AS->Prop} {x:ι} {s s':AS} (hw:bN s s') (h:Round I Inv m Q x .normal s'):Round I Inv m Q x .normal s:=by
 obtain ⟨y,h1,h2,h3⟩:=h
 exact ⟨y,h1,h2,fun S0 w0 n a w hs=>h3 S0 w0 n a w (hw S0 w0 n a w hs)⟩
theorem AP (fr:List Int):(mr fr).length=fr.length:=by unfold mr;split<;>simp
theorem zt (x:fo) (fr:List Int):(ld x fr).length≤fr.length+1:=by unfold ld;split<;>simp
theorem EA (fr:List Int) (c:Nat) (x:fo) (hk:x.kind≠6) (hx:x.kind=5->wv x.num≤512) (hf:fr.length≤1000) (gv:∀k∈fr,-1000≤k∧k≤1000) (hc:c≤1000000):gb Tryz.prog 176 [.addr 1000000000000 0,.agg (aU x)] (A8 fr c) (.br []) (A8 (lE fr x) (c+1)):=by
 have hl:(af bw fr).length=fr.length*3:=aG (e:=3) (fun _=>rfl) ..
 refine mN Tryz.func176 106<|zP 2 [{},yH [(4,yV (ai (↑(c+1):Int)))]] [.aa [3,0,1] [1000000000000,3,5]] [yB (ai (IntKind.i64.wrap ((↑c:Int)+1))=ai (↑(c+1):Int)) (eZ ah ah),yL 2 2] (a7.pE (fun (u:Unit)=>(⟨[(3,AV.addr 3 0),(1,AV.agg (aU x)),(0,AV.addr 1000000000000 0)],[(3,⟨1,false,true,List.map (aQ 3) (aU x)⟩),(1000000000000,⟨1,false,true,[.ref 5,ai (c+1:Nat)]⟩),(5,⟨3,true,false,af bw (mr fr)⟩)]⟩:AS)) (fun u=>(True)) bH ?_ ?_)
 ·by_cases h:0<fr.length
  ·obtain ⟨n,hn⟩:∃n,fr.length=n+1:=⟨fr.length-1,ah⟩
   have hb:=gv (fr.getD n default) (by rw [List.getD_eq_getElem?_getD,List.getElem?_eq_getElem ah];exact List.getElem_mem ah)
   have w:IntKind.i64.wrap ((fr.length:Int)-1)=n:=by rw [IntKind.wrap_i64];omega
   have w2:IntKind.i64.wrap (fr.getD n default-1)=fr.getD n default-1:=by rw [IntKind.wrap_i64];omega
   have h3:=AA (l:=fr) (n:=n) ah
   have e1:mr fr=fr.set n (fr.getD n default-1):=by unfold mr;rw [if_neg ah,show fr.length-1=n by omega];rfl
   have e2:=Dl fr n (fr.getD n default-1) ah
   refine zP 2 [yH [(4,{k:=fr.length})],{}] [.aa [19,4,3,0,1] [1000000000000,3,5]] [yI hl]<|jO 19 ((↑fr.length:Int)>0)<|zX (yH [(5,yV (ai ↑n)),(6,{k:=n}),(8,yV (ai (fr.getD n default))),(9,yV (ai (fr.getD n default-1))),(10,{k:=n})]) [yI (yc w),yR (↑n:Int),yO (n*3<(af bw fr).length),yA bw fr n 1,yN (fr.getD n default-1),yR (↑n:Int),yO (n*3<(af bw fr).length),yO (n*3+1+1≤(af bw fr).length)]<|ak (⟨(),trivial,(e_ [.aa [3,1,0] [3,1000000000000,5]] [] [5] [yB ((af bw fr).set (n*3+1) (ai (fr.getD n default-1))=af bw (mr fr)) (by rw [e1];exact e2)])⟩)
  ·have e1:mr fr=fr:=by unfold mr;rw [if_pos ah]
   refine zP 2 [yH [(4,{k:=fr.length})],{}] [.aa [19,4,3,0,1] [1000000000000,3,5]] [yI hl]<|dK 19 ((↑fr.length:Int)>0)<|a8 (⟨(),trivial,(e_ [.aa [3,1,0] [3,1000000000000,5]] [] [5] [yB (af bw fr=af bw (mr fr)) (by rw [e1])])⟩)
 rintro u -
 generalize hg:mr fr=f at *
 have vo:f.length≤1000:=by rw [←hg,AP];exact hf
 have BW:(af bw f).length=f.length*3:=aG (e:=3) (fun _=>rfl) ..
 refine a7.pE (fun (u:Unit)=>(⟨[(3,AV.addr 3 0),(1,AV.agg (aU x)),(0,AV.addr 1000000000000 0)],[(3,⟨1,false,true,List.map (aQ 3) (aU x)⟩),(1000000000000,⟨1,false,true,[.ref 5,ai (c+1:Nat)]⟩),(5,⟨3,true,false,af bw (ld x f)⟩)]⟩:AS)) (fun u=>(True)) bH ?_ ?_
 ·by_cases h:x.kind=5
  ·have hx:=hx h
   by_cases h2:0<wv x.num
   ·have e1:ld x f=f++ [wv x.num]:=if_pos ⟨h,h2⟩
    refine zP 1 [{}] [.aa [39,3,1,0] [3,1000000000000,5]] (yM 4 (yB ((x.kind == (5:Int))=true) fX))<|jO 39 (wv x.num>0)<|FM 11 [10] [(7,yV (ai (wv x.num)))] [yN (wv x.num),yO (((af bw f).length+3)*40≤422212465065984),yR (AV.addr 1000000000000 0),yL 1 2]<|ak (⟨(),trivial,(e_ [.vS 50 5,.aa [3,1,0] [3,1000000000000,5]] [] [5] [yB (af bw f++ [ao false,ai (wv x.num),AV.nil]=af bw (ld x f)) (by rw [e1,←fO];rfl)])⟩)
   ·have e1:ld x f=f:=if_neg (fun q=>h2 q.2)
    refine zP 1 [{}] [.aa [39,3,1,0] [3,1000000000000,5]] (yM 4 (yB ((x.kind == (5:Int))=true) fX))<|dK 39 (wv x.num>0)<|a8 (⟨(),trivial,(e_ [.aa [3,1,0] [3,1000000000000,5]] [] [5] [yB (af bw f=af bw (ld x f)) (by rw [e1])])⟩)
  ·have e1:ld x f=f:=if_neg (fun q=>h q.1)
   refine zP 1 [yH ([(7,{b:=false})]++yg [4,5,6])] [.aa [39,3,1,0] [3,1000000000000,5]] (yM 4 (yB ((x.kind == (5:Int))=false) bR))<|zF 39<|a8 (⟨(),trivial,(e_ [.aa [3,1,0] [3,1000000000000,5]] [] [5] [yB (af bw f=af bw (ld x f)) (by rw [e1])])⟩)
 rintro u -
 have dI:lE fr x=oI (ld x f):=by unfold lE;rw [hg]
 have HY:(ld x f).length≤1001:=by have:=zt x f;omega
 generalize ld x f=g at *
 have RG:(af bw g).length=g.length*3:=aG (e:=3) (fun _=>rfl) ..
 refine zS<|zP 1 [yH ([(7,{b:=false})]++yg [4,5,6])] [.aa [60,3,1,0] [3,1000000000000,5]] (yM 4 (yB ((x.kind == (6:Int))=false) bR))<|zF 60<|a8<|zP 1 [yH [(4,{k:=g.length})]] [.aa [5,60,3,1,0] [3,1000000000000,5]] [yI RG]<|zB 0 (zL (fun (q:Nat)=>(⟨[(60,ao false),(3,AV.addr 3 0),(1,AV.agg (aU x)),(5,ai q),(0,AV.addr 1000000000000 0)],[(3,⟨1,false,true,List.map (aQ 3) (aU x)⟩),(1000000000000,⟨1,false,true,[.ref 5,ai (c+1:Nat)]⟩),(5,⟨3,true,false,af bw (g.take q)⟩)]⟩:AS)) (fun q=>(q≤g.length∧lf g q=lf g g.length)) (fun q=>q) (g.length) ?_ (e_ [.aa [60,3,1,5,0] [3,1000000000000,5]] [] [5] [yB (af bw g=af bw (List.take g.length g)) (by rw [List.take_length])]) ?_)
 ·exact ⟨Nat.le_refl _,rfl⟩
 rintro q ⟨hq,hp⟩
 have RF:(af bw (g.take q)).length=q*3:=by rw [aG (e:=3) (fun _=>rfl),List.length_take];omega
 cases q with
 | zero =>
  refine zS<|zP 1 [yH ([(13,{b:=false})]++yg [3,4,5,6,7,8,9,10,11,12])] [.aa [93,60,3,1,5,0] [3,1000000000000,5]] (yM 11 (yR false))<|zF 93<|zE 0<|aY<|aN<|bm (kZ.sy [] (s2:=AS.mk [(93,ao false),(60,ao false),(3,AV.addr 3 0),(1,AV.agg (aU x)),(5,ai (↑(0:Nat):Int)),(0,AV.addr 1000000000000 0)] [(3,Row.mk 1 false true (List.map (aQ 3) (aU x))),(1000000000000,Row.mk 1 false true [AV.ref 5,ai (↑(c+1):Int)]),(5,Row.mk 3 true false (af bw (List.take 0 g)))]) bH (C:=[[AV.ref 5,ai (↑(c+1):Int)]= [AV.ref 5,ai (↑(c+1):Int)],af bw (List.take 0 g)=af bw (lE fr x)]) bH ⟨rfl,(by rw [dI,oI,←hp];rfl),trivial⟩)
 | succ m =>
  have w:IntKind.i64.wrap ((m+1:Nat)-1:Int)=m:=by rw [IntKind.wrap_i64];omega
  have h3:=AA (l:=g.take (m+1)) (n:=m) (by rw [List.length_take];omega)
  have gz:(List.take (m+1) g).getD m default=g.getD m 0:=by
   rw [List.getD_eq_getElem?_getD,List.getElem?_take,if_pos ah,←List.getD_eq_getElem?_getD];rfl
  by_cases h:g.getD m 0=0
  ·have e1:lf g (m+1)=lf g m:=by show (if _ then _ else _)=_;rw [if_pos h]
   refine zS<|zP 1 [yH [(8,yV (ai ((↑(m+1):Int)-1))),(9,{k:=m+1-1}),(11,yV (ai ((List.take (m+1) g).getD (m+1-1) default))),(12,yV (ao true))]] [.aa [93,60,3,1,5,0] [3,1000000000000,5]] (yM 6 (yT ((↑(m+1):Int)>0))++ [yN ((↑(m+1):Int)-1),yT ((↑(m+1):Int)>0),yO ((↑(m+1):Int)-1=(↑(m+1-1):Int)),yO ((m+1-1)*3<(af bw (List.take (m+1) g)).length)]++yM 2 (yT ((↑(m+1):Int)>0))++ [yB ((af bw (List.take (m+1) g))[(m+1-1)*3+1]?=some (ai ((List.take (m+1) g).getD (m+1-1) default))) (by assumption),yT ((↑(m+1):Int)>0),yB (ao ((List.take (m+1) g).getD (m+1-1) default == (0:Int))=ao true) (by simp only [Nat.add_sub_cancel,gz,h];rfl),yT ((↑(m+1):Int)>0)])<|zT 93<|a8<|zS<|zB 1<|zX (yH [(6,yV (ai ↑m)),(7,{m:=m})]) [yI (yc w),yR (↑m:Int),yO (m*3≤(af bw (List.take (m+1) g)).length),yL 1 2]<|aM<|ak<|zX (yH [(1,yV (ai ((↑(m+1):Int)-1)))]) [yN ((↑(m+1):Int)-1)] ?_
   have ht:((af bw (g.take (m+1))).take (m*3))=af bw (g.take m):=by rw [q9 (e:=3) (fun _=>rfl),List.take_take,Nat.min_eq_left ah]
   refine JV (bN.cut 5 (m*3) (r:=⟨3,true,false,af bw (g.take (m+1))⟩) bH rfl (by show m*3≤(af bw _).length;rw [RF];omega)) (aI m ⟨ah,by rw [←hp,e1]⟩ ah (e_ [.aa [60,3,1,5,0] [3,1000000000000,5]] [5] [1000000000000,5] [yB (ai ((↑(m+1):Int)-1)=ai ↑m) (congrArg (fun n=>AV.val (.int .i64 n)) ah),yB ([oU 5 (m*3) (AV.pre 5 (m*3)),ai (↑(c+1):Int)]= [AV.ref 5,ai (↑(c+1):Int)]) (by rw [IW]),yI ht]))
  ·have e1:lf g (m+1)=m+1:=by show (if _ then _ else _)=_;rw [if_neg h]
   refine zS<|zP 1 [yH [(8,yV (ai ((↑(m+1):Int)-1))),(9,{k:=m+1-1}),(11,yV (ai ((List.take (m+1) g).getD (m+1-1) default))),(12,yV (ao false))]] [.aa [93,60,3,1,5,0] [3,1000000000000,5]] (yM 6 (yT ((↑(m+1):Int)>0))++ [yN ((↑(m+1):Int)-1),yT ((↑(m+1):Int)>0),yO ((↑(m+1):Int)-1=(↑(m+1-1):Int)),yO ((m+1-1)*3<(af bw (List.take (m+1) g)).length)]++yM 2 (yT ((↑(m+1):Int)>0))++ [yB ((af bw (List.take (m+1) g))[(m+1-1)*3+1]?=some (ai ((List.take (m+1) g).getD (m+1-1) default))) (by assumption),yT ((↑(m+1):Int)>0),yB (ao ((List.take (m+1) g).getD (m+1-1) default == (0:Int))=ao false) (by simp only [Nat.add_sub_cancel,gz];rw [beq_eq_false_iff_ne.2 h]),yT ((↑(m+1):Int)>0)])<|zF 93<|zE 0<|aY<|aN<|bm (kZ.sy [] (s2:=AS.mk [(93,ao false),(60,ao false),(3,AV.addr 3 0),(1,AV.agg (aU x)),(5,ai (↑(m+1):Int)),(0,AV.addr 1000000000000 0)] [(3,Row.mk 1 false true (List.map (aQ 3) (aU x))),(1000000000000,Row.mk 1 false true [AV.ref 5,ai (↑(c+1):Int)]),(5,Row.mk 3 true false (af bw (List.take (m+1) g)))]) bH (C:=[[AV.ref 5,ai (↑(c+1):Int)]= [AV.ref 5,ai (↑(c+1):Int)],af bw (List.take (m+1) g)=af bw (lE fr x)]) bH ⟨rfl,(by rw [dI,oI,←hp,e1]),trivial⟩)
set_option maxHeartbeats 4000000 in
theorem H_ (n:Nat) (w:World) (h0:0<n) (hn:n≤70368744177664) :
  Calls Tryz.prog 90 #[.slice none 0 0,.int .i64 n] w fun e w'=>qh w e w' []:=by
 obtain ⟨i0,N7,Q8,lr,Tw⟩:∃i:TypeInfo,Tryz.prog.info? 5=some i∧i.zero=some (.int .u8 0)∧i.size=1∧i.bytes=1:=by
  have h:=Lt
  cases hp:Tryz.prog.info? 5 with
  | none=>rw [hp] at h;cases h
  | some i=>rw [hp] at h;simp at h;exact ⟨i,rfl,h⟩
 have hold:(Builtin.firstCells i0.size 0 (.slice none 0 0)).run Tryz.prog w.drew= .ok (([]:List Value)).toArray w.drew:=run_firstCells_none w.drew i0.size 0 0 0
 have S_:∀ty,(Builtin.append_ #[25,3] ty #[.slice none 0 0,.int .i64 n]).run Tryz.prog w =
   .ok (.slice (some ⟨w.heap.size,0,none⟩) n (grownCap w n 0 5)) (w.drew.alloc (.cells (#[]++Builtin.zeroCells (Value.int .u8 0).cells n++Builtin.zeroCells (Value.int .u8 0).cells (grownCap w n 0 5-n)) 5)):=fun ty=>by
  have h:=Lib.run_append_grow_zeros w 25 3 ty 5 i0 (.int .u8 0) .i64 .i64 Tryz.underlying25 Tryz.underlying3 N7 Q8 none 0 0 [] hold n h0 ah ah ah (by rw [Tw];omega)
   (by have:=growslice_fits (bytes:=i0.bytes) (ah:0<0+n) (by rw [Tw];omega);exact this)
  simpa using h
 have Vd:n≤grownCap w n 0 5:=grownCap_ge w _ _ _
 obtain ⟨G,hG⟩:∃G,G=grownCap w n 0 5:=⟨_,rfl⟩
 rw [←hG] at S_ Vd
 have Ve:G≤9223372036854775807:=by
  have:=grownCap_le_maxLen w n 0 5 (by unfold maxLen;omega)
  rw [←hG] at this
  unfold maxLen at this
  omega
 clear hold hG
 have h1:¬((n:Int)<0):=ah
 have h3:wrap64 ((n:Int)-0)=(n:Int):=by unfold wrap64;omega
 have h4:(n:Int)>0:=ah
 go_enter Tryz.func90,Tryz.ntmps90
 go_wp2_with (at_builtin;refine Lib.wpList_append_run _ rfl _ _ _ _ rfl _ _ rfl rfl _ _ (S_ _) ?_)
 all_goals (go_ret;exact ⟨_,rfl,.inr ⟨w.heap.size,G,_,_,(0,0),rfl,Nat.le_refl _,heap_alloc_new w.drew _,by simp [r6],by unfold maxLen;omega,by simp [Builtin.zeroCells];omega,by simp [r6],by simp⟩,rfl,rfl,rfl,by simp,fun b hb=>Below.heap_alloc w.drew _ b hb⟩)
theorem Fc (w:World) :
  Calls Tryz.prog 90 #[.slice none 0 0,.int .i64 0] w fun e w'=>qh w e w' []:=by
 go_enter Tryz.func90,Tryz.ntmps90
 go_wp2
 go_ret
 exact ⟨_,rfl,.inl ⟨rfl,rfl⟩,Below.refl _ _⟩
theorem H9 (n:Nat) (hn:n≤70368744177664):bK Tryz.prog 90 [.nil,ai n] (.own 1 (ag [])):=by
 refine bK.zx fun w vs hl hr=>?_
 obtain ⟨a,b,rfl⟩:=P2 hl rfl
 have h0:=hr 0 a _ rfl rfl
 have ha:a= .slice none 0 0:=by cases h0;rfl
 rw [ha,JX (hr 1 b _ rfl rfl)]
 by_cases h:n=0
 ·subst h;exact Fc w
 ·exact H_ n w ah hn
def dZ (b:List UInt8):List AV:=[.sl 1 (ag b)]
def eX (l:List (List UInt8)):Nat:=(l.map List.length).foldr (· + ·) 0
theorem rO (l:List (List UInt8)) (i:Nat) (h:i<l.length):eX (l.take (i+1))=eX (l.take i)+(l.getD i default).length:=by
 induction l generalizing i with
 | nil=>simp at h
 | cons a l ih =>
  cases i with
  | zero=>simp [eX]
  | succ i =>
   have:=ih i (by simpa using h)
   simp [eX] at this ⊢
   omega
theorem nI (l:List (List UInt8)) (i:Nat):eX (l.take i)≤eX l:=by
 induction l generalizing i with
 | nil=>simp [eX]
 | cons a l ih =>
  cases i with
  | zero=>simp [eX]
  | succ i=>have:=ih i;simp [eX] at this ⊢;omega
theorem Fi (l:List (List UInt8)) (i:Nat) (h:i<l.length):(l.take i).flatten++l.getD i default=(l.take (i+1)).flatten:=by
 rw [List.take_add_one,List.flatten_append]
 simp [h]
theorem Ih (l:List (List UInt8)):l.flatten.length=eX l:=by
 induction l with
 | nil=>rfl
 | cons a l ih=>simp [eX,ih]
theorem CO (l:List (List UInt8)) (h:eX l≤70368744177664) (h2:l.length≤1000):bK Tryz.prog 45 [.sl 1 (af dZ l)] (.own 1 (ag l.flatten)):=by
 have hl:(af dZ l).length=l.length:=by rw [aG (e:=1) (fun _=>rfl),Nat.mul_one]
 have ix:∀i,i<l.length->(af dZ l)[i]?=some (.sl 1 (ag (l.getD i default))):=fun i hi=>by
  have:=nP (f:=dZ) (e:=1) (fun _=>rfl) (j:=0) hi rfl
  rwa [Nat.mul_one,Nat.add_zero] at this
 have ht:l.take l.length=l:=List.take_of_length_le (Nat.le_refl _)
 refine zO Tryz.func45 36<|zQ 2 [{},{}] []<|zS<|zQ 1 [yH [(1,{k:=(af dZ l).length})]] [yR ((af dZ l).length)]<|zB 0 (zL (fun (i:Nat)=>(⟨[(10,ai (↑(af dZ l).length:Int)),(9,AV.sl 1 (af dZ l)),(2,AV.nil),(0,AV.sl 1 (af dZ l)),(11,ai i),(3,ai (eX (l.take i)))],[]⟩:AS)) (fun i=>(i≤l.length)) (fun i=>(l.length-i)) (0) ?_ (zW [.aa [10,9,2,0,11,3] []]) ?_)
 ·omega
 intro i hi
 have hle:=nI l i
 have RE:=nI l (i+1)
 refine zq<|zS (zD 12 ((↑i:Int)<(↑(af dZ l).length:Int)) (fun h3=>?_) (fun h3=>?_))
 ·have i6:i<l.length:=ah
  have h4:=rO l i i6
  refine a8<|zS<|zB 1<|zP 3 [yH [(0,{k:=i}),(1,yV (AV.sl 1 (ag (l.getD i default))))],yH [(2,{k:=(l.getD i default).length}),(3,yV (ai ((↑(eX (List.take i l)):Int)+(↑(l.getD i default).length:Int))))],{}] [.aa [20,3,5,12,10,9,2,0,11] []] [yR (↑i:Int),yO (i<(af dZ l).length),yB ((af dZ l)[i]?=some (AV.sl 1 (ag (l.getD i default)))) (ix i ah),yI (aA (l.getD i default)),yN ((↑(eX (List.take i l)):Int)+(↑(l.getD i default).length:Int))]<|dK 20 ((↑(eX (List.take i l)):Int)+(↑(l.getD i default).length:Int)<0)<|zK<|aM<|ak<|zX (yH [(0,yV (ai ((↑i:Int)+1)))]) [yN ((↑i:Int)+1)] (aI (i+1) (by assumption) ah (e_ [.aa [10,9,2,0,11,3] []] [3] [] [yB (ai ((↑(eX (List.take i l)):Int)+(↑(l.getD i default).length:Int))=ai (↑(eX (List.take (i+1) l)):Int)) (congrArg (fun n=>AV.val (.int .i64 n)) ah)]))
 ·have e:i=l.length:=ah
  subst e
  rw [ht]
  refine zE 0<|aY<|aN<|bm<|ak<|zP 1 [yH [(1,yV (AV.own 1 (ag [])))]] [.aa [6,12,10,9,2,0,11,3] [24]] [yI (H9 (eX l) h),yI (aV [])]<|zS<|zQ 1 [yH [(1,{k:=(af dZ l).length})]] [yR ((af dZ l).length)]<|zB 2 (zL (fun (i:Nat)=>(⟨[(26,ai (↑(af dZ l).length:Int)),(25,AV.sl 1 (af dZ l)),(12,ao (decide ((↑l.length:Int)<(↑(af dZ l).length:Int)))),(10,ai (↑(af dZ l).length:Int)),(9,AV.sl 1 (af dZ l)),(2,AV.nil),(0,AV.sl 1 (af dZ l)),(11,ai (↑l.length:Int)),(3,ai (↑(eX l):Int)),(27,ai i),(6,AV.ref 33)],[(33,⟨1,true,false,ag (l.take i).flatten⟩)]⟩:AS)) (fun i=>(i≤l.length)) (fun i=>(l.length-i)) (0) ?_ (zW [.vS 24 33,.aa [26,25,12,10,9,2,0,11,3,27,6] [33]]) ?_)
  ·omega
  intro i hi
  have hle:=nI l i
  have RE:=nI l (i+1)
  have vo:=Ih (l.take i)
  refine zq<|zS (zD 28 ((↑i:Int)<(↑(af dZ l).length:Int)) (fun h3=>?_) (fun h3=>?_))
  ·have i6:i<l.length:=ah
   have h4:=rO l i i6
   have h5:=Fi l i i6
   refine a8<|zS<|zB 3<|zP 1 [yH [(0,{k:=i}),(1,yV (AV.sl 1 (ag (l.getD i default))))]] [.aa [8,28,26,25,12,10,9,2,0,11,3,27,6] [33]] [yR (↑i:Int),yO (i<(af dZ l).length),yB ((af dZ l)[i]?=some (AV.sl 1 (ag (l.getD i default)))) (ix i ah)]<|zX (yH [(2,{av:=some (AV.arr (ag ((List.take i l).flatten++l.getD i default))),b:=false})]) [yB (ag (List.take i l).flatten++ag (l.getD i default)=ag ((List.take i l).flatten++l.getD i default)) (cQ _ _),yB (dh (ag (l.getD i default))) (fF _),yB (((ag (List.take i l).flatten).length+(ag (l.getD i default)).length)*1≤140737488355328) (by simp only [aA];omega)]<|aM<|ak<|zX (yH [(0,yV (ai ((↑i:Int)+1)))]) [yN ((↑i:Int)+1)] (aI (i+1) (by assumption) ah (e_ [.aa [26,25,12,10,9,2,0,11,3,27,6] [33]] [] [33] [yB (ag ((List.take i l).flatten++l.getD i default)=ag (List.take (i+1) l).flatten) (congrArg ag h5)]))
  ·have e:i=l.length:=ah
   subst e
   refine zE 2<|aY<|aN<|bm<|ak<|zq<|zR (zV [yB (ag (List.take l.length l).flatten=ag l.flatten) (by rw [ht])])
structure MS where
 a:UInt8
 b:UInt8
 p:UInt8
def tT (s:MS):MS:=⟨if s.a&&&128≠0 then (s.a<<<1)^^^27 else s.a<<<1,s.b>>>1,if s.b&&&1≠0 then s.p^^^s.a else s.p⟩
def bL (s:MS):Nat->MS
 | 0=>s
 | k+1=>tT (bL s k)
def dS (a b:UInt8):UInt8:=(bL ⟨a,b,0⟩ 8).p
structure RS where
 x:UInt64
 p:UInt8
def tA (b:UInt8) (k:Nat) (s:RS):RS:=⟨if (s.x<<<1)&&&256≠0 then (s.x<<<1)^^^283 else s.x<<<1,if (b>>>UInt8.ofNat k)&&&1=1 then s.p^^^s.x.toUInt8 else s.p⟩
def gj (a b:UInt8):Nat->RS
 | 0=>⟨a.toUInt64,0⟩
 | k+1=>tA b k (gj a b k)
def kx (a b:UInt8):UInt8:=(gj a b 8).p
theorem tG (a b:UInt8):bK Tryz.prog 158 [ab a,ab b] (ab (kx a b)):=by
 refine zO Tryz.func158 31<|zP 3 [{},{},yH [(1,yV (aw a.toUInt64))]] [.aa [6,5,4,0,1] []] [yI (CV a)]<|zS<|zq<|zB 0 (zL (fun (k:Nat)=>(⟨[(1,ab b),(5,ab (gj a b k).p),(6,aw (gj a b k).x),(7,AV.val (.int .u64 k))],[]⟩:AS)) (fun k=>(k≤8)) (fun k=>(8-k)) (0) ?_ (zW [.aa [1,5,6,7] []]) ?_)
 ·omega
 intro k hk
 generalize hm:gj a b k=s
 refine zS<|zq (zD 11 ((↑k:Int)<8) (fun hc=>?_) (fun hc=>?_))
 ·skip
  refine a8<|zS<|zB 1 (a7.join (⟨[(1,ab b),(5,ab (if (b>>>UInt8.ofNat k)&&&1=1 then s.p^^^s.x.toUInt8 else s.p)),(6,aw s.x),(7,AV.val (Value.int .u64 (↑k:Int)))],[]⟩:AS) bH ?_ ?_)
  ·refine zP 1 [yH [(2,yV (ab (b>>>UInt8.ofNat (↑k:Int).toNat))),(3,yV (ab (b>>>UInt8.ofNat (↑k:Int).toNat&&&(1:UInt8)))),(4,yV (ao (b>>>UInt8.ofNat (↑k:Int).toNat&&&(1:UInt8) == 1)))]] [.aa [18,11,1,5,6,7] []] [yI (Lb b ((↑k:Int)) ah ah),yO ((0:Int)≤(↑k:Int)),yI (Ld (b>>>UInt8.ofNat (↑k:Int).toNat) 1),yI (NG (b>>>UInt8.ofNat (↑k:Int).toNat&&&(1:UInt8)) 1)] (a7.I0 (x:=.tmp 18) (u:=b>>>UInt8.ofNat (↑k:Int).toNat&&&(1:UInt8)) (v:=1) bH bH (fun hc=>?_) (fun hc=>?_))
   ·skip
    refine zX (yH [(2,yV (ab s.x.toUInt8)),(3,yV (ab (s.p^^^s.x.toUInt8)))]) [yR (ab s.x.toUInt8),yI (Eh s.p s.x.toUInt8)]<|ak ?_
    exact (e_ [.aa [1,5,6,7] []] [5] [] [yB (ab (s.p^^^s.x.toUInt8)=ab (if b>>>UInt8.ofNat k&&&(1:UInt8)=1 then s.p^^^s.x.toUInt8 else s.p)) (by rw [if_pos (by simpa using hc)])])
   ·skip
    refine a8 ?_
    exact (e_ [.aa [1,5,6,7] []] [5] [] [yB (ab s.p=ab (if b>>>UInt8.ofNat k&&&(1:UInt8)=1 then s.p^^^s.x.toUInt8 else s.p)) (by rw [if_neg (by simpa using hc)])])
  refine zP 2 [yH [(1,yV (aw (s.x<<<(1:UInt64))))],yH [(1,yV (aw (s.x<<<(1:UInt64)&&&(256:UInt64)))),(2,yV (ao (s.x<<<(1:UInt64)&&&(256:UInt64) != 0)))]] [.aa [27,6,1,5,7] []] [yI (jq s.x ((1:Int)) ah ah),yO ((0:Int)≤1),yI (iN (s.x<<<(1:UInt64)) 256),yI (cU (s.x<<<(1:UInt64)&&&(256:UInt64)) 0)] (zN 27 (s.x<<<(1:UInt64)&&&(256:UInt64)) 0 (fun h2=>?_) (fun h2=>?_))
  ·refine zX (yH [(1,yV (aw (s.x<<<(1:UInt64)^^^(283:UInt64))))]) [yI (cD (s.x<<<(1:UInt64)) 283)]<|aM<|ak<|zX (yH [(1,yV (AV.val (Value.int .u64 ((↑k:Int)+1))))]) [yB (AV.val (Value.int .u64 (IntKind.u64.wrap ((↑k:Int)+1)))=AV.val (Value.int .u64 ((↑k:Int)+1))) (rm ah ah)] (aI (k+1) ah ah (e_ [.aa [1,5,6,7] []] [5,6] [] [yB (ab (if b>>>UInt8.ofNat k&&&(1:UInt8)=1 then s.p^^^s.x.toUInt8 else s.p)=ab ((gj a b (k+1)).p)) (by simp only [gj,hm,tA]<;>rw [if_pos (by simpa using h2)]),yB (aw (s.x<<<(1:UInt64)^^^(283:UInt64))=aw ((gj a b (k+1)).x)) (by simp only [gj,hm,tA]<;>rw [if_pos (by simpa using h2)])]))
  ·refine zK<|aM<|ak<|zX (yH [(1,yV (AV.val (Value.int .u64 ((↑k:Int)+1))))]) [yB (AV.val (Value.int .u64 (IntKind.u64.wrap ((↑k:Int)+1)))=AV.val (Value.int .u64 ((↑k:Int)+1))) (rm ah ah)] (aI (k+1) ah ah (e_ [.aa [1,5,6,7] []] [5,6] [] [yB (ab (if b>>>UInt8.ofNat k&&&(1:UInt8)=1 then s.p^^^s.x.toUInt8 else s.p)=ab ((gj a b (k+1)).p)) (by simp only [gj,hm,tA]<;>rw [if_neg (by simpa using h2)]),yB (aw (s.x<<<(1:UInt64))=aw ((gj a b (k+1)).x)) (by simp only [gj,hm,tA]<;>rw [if_neg (by simpa using h2)])]))
 ·have e8:k=8:=ah
  subst e8
  refine zE 0<|aY<|aN<|bm<|ak<|zP 1 [{}] [.aa [4,11,1,5,6,7] []] []<|zR (zV [yB (Value.int .u8 (bv s.p)=Value.int .u8 (bv (kx a b))) (by rw [←hm];rfl)])
def xy (a:UInt8):Nat->UInt8
 | 0=>1
 | k+1=>kx (xy a k) a
def du (p:Int×List UInt8):List AV:=[ai p.1,.sl 1 (ag p.2)]
def dI (aO:List UInt8) (L j:Nat) (x:UInt8) (need:Nat):Nat->UInt8
 | 0=>0
 | m+1=>dS (dI aO L j x need m^^^aO.getD ((need-1-m-1)*L+j) 0) x
def c_ (aq aO:List UInt8) (need n:Int):Int :=
 if 64<aq.length then 8 else if need<1∨n<need∨255<n then 9 else if (aO.length:Int)<(need-1)*aq.length then 1 else 0
def Bj (aq aO:List UInt8) (need:Nat) (x:UInt8) (j:Nat):UInt8:=dI aO aq.length j x need (need-1)^^^aq.getD j 0
def wP (aq aO:List UInt8) (need:Nat) (x:UInt8):List UInt8:=(List.range aq.length).map (Bj aq aO need x)
def Gn (aq aO:List UInt8) (need:Nat) (i:Nat):Int×List UInt8:=((i:Int)+1,wP aq aO need (u8 ((i:Int)+1)))
def iC (aq aO:List UInt8) (need n:Int):List (Int×List UInt8):=if c_ aq aO need n=0 then (List.range n.toNat).map (Gn aq aO need.toNat) else []
abbrev Sh:=Int×List UInt8
def ay (s:List UInt8):List AV:=[dw s]
structure nC where
 cm:UInt64
 peer:UInt64
 box:List UInt8
 ae:List (List UInt8)
 au:List UInt64
 need:Int
 target:UInt64
def bg (d:nC):List AV:=[aw d.cm,aw d.peer,.sl 1 (ag d.box),.sl 1 (af ay d.ae),.sl 1 (aj d.au),ai d.need,aw d.target]
def n_ (h s:List UInt8):UInt64:=hash 22 (h++ [0]++s)
theorem qn (h:List UInt8) (hh:h.length≤1000):(⟨h.toArray⟩:ByteArray).size≤maxLen:=by
 show h.toArray.size≤_
 unfold maxLen
 simp;omega
theorem jV {l:List (List UInt8)} {i:Nat} (h:i<l.length):(af ay l)[i]?=some (dw (l.getD i default)):=by
 have:=nP (f:=ay) (e:=1) (l:=l) (k:=i) (j:=0) (fun _=>rfl) h (c:=dw (l.getD i default)) rfl
 simpa using this
theorem vj (h s:List UInt8) (hh:h.length≤1000) (hs:s.length≤1000):bK Tryz.prog 121 [dw h,.sl 1 (ag s)] (aw (n_ h s)):=by
 have hz:=qn h hh
 refine zO Tryz.func121 12<|zP 2 [{},yH [(2,yV (AV.arr (ag [0]))),(3,yV (AV.arr (ag (h.toArray.toList++ [0])))),(5,{av:=some (AV.arr (ag (h.toArray.toList++ [0]++s))),b:=false}),(6,yV (aw (hash (22:Int) (h.toArray.toList++ [0]++s))))]] [.aa [4,0,1] []] [yI hz,yR (ag [0]),yB (ag h.toArray.toList++ag [0]=ag (h.toArray.toList++ [0])) (cQ _ _),yB (((ag h.toArray.toList).length+1)*1≤140737488355328) (by simp only [aA];omega),yB (ag (h.toArray.toList++ [0])++ag s=ag (h.toArray.toList++ [0]++s)) (cQ _ _),yB (dh (ag s)) (fF _),yB (((ag (h.toArray.toList++ [0])).length+(ag s).length)*1≤140737488355328) (by simp only [aA,List.length_append,List.length_cons,List.length_nil];omega),yI (ig ((22:Int)) (h.toArray.toList++ [0]++s) (by simp only [List.length_append,List.length_cons,List.length_nil];omega))]<|zR (cE)
structure Mem where
 name:List UInt8
 h:Int
 r:UInt64
 used:UInt64
def aP (m:Mem):List AV:=[dw m.name,ai m.h,aw m.r,aw m.used]
structure fL where
 aC:Int
 head:UInt64
 bB:Int
 al:List Mem
 aF:List nC
def bW (g:fL):List AV:=[ai g.aC,aw g.head,ai g.bB,.sl 4 (af aP g.al),.sl 7 (af bg g.aF)]
instance:Inhabited nC:=⟨⟨0,0,[],[],[],0,0⟩⟩
instance:Inhabited Mem:=⟨⟨[],0,0,0⟩⟩
def uB (l:List nC) (p:UInt64):Nat:=l.findIdx (fun d=>d.cm == p)
theorem Nd {l:List nC} {p:UInt64} (h:∀j,j<l.length->(l.getD j default).cm≠p):uB l p=l.length:=by
 unfold uB
 apply List.findIdx_eq_length.2
 intro d hd
 obtain ⟨j,hj,e⟩:=List.getElem_of_mem hd
 have:=h j hj
 rw [List.getD_eq_getElem?_getD,List.getElem?_eq_getElem hj] at this
 simpa [←e] using this
theorem Nf {l:List nC} {p:UInt64} {i:Nat} (hi:i<l.length) (h:∀j,j<i->(l.getD j default).cm≠p) (e:(l.getD i default).cm=p):uB l p=i:=by
 unfold uB
 rw [List.getD_eq_getElem?_getD,List.getElem?_eq_getElem hi] at e
 refine (List.findIdx_eq hi).2 ⟨by simpa using e,fun j hj=>?_⟩
 have:=h j hj
 rw [List.getD_eq_getElem?_getD,List.getElem?_eq_getElem ah] at this
 simpa using this
def kr (U u:UInt64):UInt64:=UInt64.ofNat ((U.toNat*4294967296+u.toNat)%18446744073709551608)
def mq (n:Nat):UInt64:=UInt64.ofNat (n%2305843009213693951)
theorem tU (n:Nat):(mq n).toNat=n%2305843009213693951:=by
 rw [mq,UInt64.toNat_ofNat',Nat.mod_eq_of_lt];omega
theorem Ha {n m:Nat} (h:n%2305843009213693951=m%2305843009213693951):mq n=mq m:=by rw [mq,mq,h]
theorem pA (x:UInt64):(x%2305843009213693951).toNat=x.toNat%2305843009213693951:=by rw [UInt64.toNat_mod];rfl
theorem Jd (x:UInt64):(x&&&1).toNat=x.toNat%2:=by
 rw [UInt64.toNat_and];exact Nat.and_two_pow_sub_one_eq_mod x.toNat 1
theorem qd (x:UInt64):x&&&1=1↔x.toNat%2=1:=by
 rw [←Jd];exact ⟨fun h=>by rw [h];rfl,fun h=>UInt64.toNat_inj.1 h⟩
theorem Gu (t:UInt64) (j:Nat) (h0:0<j) (hj:j≤64):(t>>>UInt64.ofNat ((j:Int)-1).toNat).toNat=t.toNat/2^(j-1):=by
 rw [show ((j:Int)-1).toNat=j-1 by omega,UInt64.toNat_shiftRight,Nat.shiftRight_eq_div_pow,UInt64.toNat_ofNat',Nat.mod_eq_of_lt (a:=j-1) ah,Nat.mod_eq_of_lt ah]
theorem DZ (T j:Nat) (h0:0<j):T/2^(j-1)=2*(T/2^j)+T/2^(j-1)%2:=by
 have e:T/2^j=T/2^(j-1)/2:=by rw [Nat.div_div_eq_div_mul,←Nat.pow_succ];congr 2;omega
 omega
theorem mX (a b:UInt64):bK Tryz.prog 170 [aw a,aw b] (aw (mq (a.toNat*b.toNat))):=by
 have hb:=pA b
 have ha:=pA a
 refine zO Tryz.func170 29<|zP 3 [{},yH [(1,yV (aw (a%2305843009213693951))),(3,yV (aw (b%2305843009213693951)))],{}] [.aa [5,1,0,4] []] [yR (aw (a%2305843009213693951)),yO ((2305843009213693951:Int)≠(0:Int)),yR (aw (b%2305843009213693951)),yO ((2305843009213693951:Int)≠(0:Int))]<|zS<|zq<|zB 0 (zL (fun (j:Nat)=>(⟨[(1,aw (b%2305843009213693951)),(0,aw (a%2305843009213693951)),(4,AV.val (Value.int .u64 0)),(6,ai ((j:Int)-1)),(5,aw (mq (a.toNat*((b%2305843009213693951).toNat/2^j))))],[]⟩:AS)) (fun j=>(j≤61)) (fun j=>(j)) (61) ?_ (e_ [.aa [1,0,4,6,5] []] [5] [] [yB (AV.val (Value.int .u64 0)=aw (mq (a.toNat*((b%2305843009213693951).toNat/(2:Nat)^61)))) (congrArg aw (show 0=mq _ by rw [Nat.div_eq_of_lt ah,Nat.mul_zero];rfl))]) ?_)
 ·omega
 intro j hj
 by_cases h0:0<j
 ·have hs:=Gu (b%2305843009213693951) j h0 ah
  have hh:=DZ (b%2305843009213693951).toNat j h0
  have Uv:=tU (a.toNat*((b%2305843009213693951).toNat/2^j))
  have e0:(mq (a.toNat*((b%2305843009213693951).toNat/2^j))*2%2305843009213693951).toNat=2*(a.toNat*((b%2305843009213693951).toNat/2^j))%2305843009213693951:=by
   rw [pA,UInt64.toNat_mul,Uv]
   generalize a.toNat*((b%2305843009213693951).toNat/2^j)=X
   show X%_*2%18446744073709551616%_=_
   rw [Nat.mod_eq_of_lt (b:=18446744073709551616) ah,Nat.mul_comm,Nat.mul_mod,Nat.mod_mod,←Nat.mul_mod]
  by_cases h1:(b%2305843009213693951)>>>UInt64.ofNat ((j:Int)-1).toNat&&&1=1
  ·have H7:=(qd _).1 h1
   rw [hs] at H7
   have e1:(mq (a.toNat*((b%2305843009213693951).toNat/2^j))*2%2305843009213693951+a%2305843009213693951)%2305843009213693951=mq (a.toNat*((b%2305843009213693951).toNat/2^(j-1))):=by
    apply UInt64.toNat_inj.1
    have e2:a.toNat*(2*((b%2305843009213693951).toNat/2^j)+1)=2*(a.toNat*((b%2305843009213693951).toNat/2^j))+a.toNat:=by rw [Nat.mul_add,Nat.mul_left_comm,Nat.mul_one]
    rw [pA,UInt64.toNat_add,e0,ha,tU,hh,H7,e2]
    generalize a.toNat*((b%2305843009213693951).toNat/2^j)=X
    show (2*X%_+_)%18446744073709551616%_=_
    rw [Nat.mod_eq_of_lt (b:=18446744073709551616) ah,←Nat.add_mod]
   refine zS<|zq<|jO 12 ((↑j:Int)-1≥0)<|a8<|zS<|zB 1<|zP 2 [yH [(1,yV (aw (mq (a.toNat*((b%2305843009213693951).toNat/(2:Nat)^j))*2))),(2,yV (aw (mq (a.toNat*((b%2305843009213693951).toNat/(2:Nat)^j))*2%2305843009213693951)))],yH [(2,yV (AV.val (Value.int .u64 ((↑j:Int)-1)))),(3,yV (aw ((b%2305843009213693951)>>>UInt64.ofNat ((↑j:Int)-1).toNat))),(4,yV (aw ((b%2305843009213693951)>>>UInt64.ofNat ((↑j:Int)-1).toNat&&&(1:UInt64)))),(5,yV (ao ((b%2305843009213693951)>>>UInt64.ofNat ((↑j:Int)-1).toNat&&&(1:UInt64) == 1)))]] [.aa [23,5,12,1,0,4,6] []] [yR (aw (mq (a.toNat*((b%2305843009213693951).toNat/(2:Nat)^j))*2)),yR (aw (mq (a.toNat*((b%2305843009213693951).toNat/(2:Nat)^j))*2%2305843009213693951)),yO ((2305843009213693951:Int)≠(0:Int)),yB (AV.val (Value.int .u64 (IntKind.u64.wrap ((↑j:Int)-1)))=AV.val (Value.int .u64 ((↑j:Int)-1))) (rm ah ah),yI (fK (b%2305843009213693951) ((↑j:Int)-1) ah ah),yO ((0:Int)≤(↑j:Int)-1),yI (iN ((b%2305843009213693951)>>>UInt64.ofNat ((↑j:Int)-1).toNat) 1),yI (fV ((b%2305843009213693951)>>>UInt64.ofNat ((↑j:Int)-1).toNat&&&(1:UInt64)) 1)]<|dQ 23 ((b%2305843009213693951)>>>UInt64.ofNat ((↑j:Int)-1).toNat&&&(1:UInt64) == 1) fX<|zX (yH [(2,yV (aw (mq (a.toNat*((b%2305843009213693951).toNat/(2:Nat)^j))*2%2305843009213693951+a%2305843009213693951))),(3,yV (aw ((mq (a.toNat*((b%2305843009213693951).toNat/(2:Nat)^j))*2%2305843009213693951+a%2305843009213693951)%2305843009213693951)))]) [yR (aw (mq (a.toNat*((b%2305843009213693951).toNat/(2:Nat)^j))*2%2305843009213693951+a%2305843009213693951)),yR (aw ((mq (a.toNat*((b%2305843009213693951).toNat/(2:Nat)^j))*2%2305843009213693951+a%2305843009213693951)%2305843009213693951)),yO ((2305843009213693951:Int)≠(0:Int))]<|aM<|ak<|zX (yH [(1,yV (ai ((↑j:Int)-1-1)))]) [yN ((↑j:Int)-1-1)] (aI (j-1) ah ah (e_ [.aa [1,0,4,6,5] []] [6,5] [] [yB (ai ((↑j:Int)-1-1)=ai ((↑(j-1):Int)-1)) (congrArg ai ah),yB (aw ((mq (a.toNat*((b%2305843009213693951).toNat/(2:Nat)^j))*2%2305843009213693951+a%2305843009213693951)%2305843009213693951)=aw (mq (a.toNat*((b%2305843009213693951).toNat/(2:Nat)^(j-1))))) (congrArg aw e1)]))
  ·have H7:¬(b%2305843009213693951).toNat/2^(j-1)%2=1:=fun e=>h1 ((qd _).2 (by rw [hs];exact e))
   have e1:mq (a.toNat*((b%2305843009213693951).toNat/2^j))*2%2305843009213693951=mq (a.toNat*((b%2305843009213693951).toNat/2^(j-1))):=by
    apply UInt64.toNat_inj.1
    rw [e0,tU,hh,show (b%2305843009213693951).toNat/2^(j-1)%2=0 by omega,Nat.add_zero,Nat.mul_left_comm]
   refine zS<|zq<|jO 12 ((↑j:Int)-1≥0)<|a8<|zS<|zB 1<|zP 2 [yH [(1,yV (aw (mq (a.toNat*((b%2305843009213693951).toNat/(2:Nat)^j))*2))),(2,yV (aw (mq (a.toNat*((b%2305843009213693951).toNat/(2:Nat)^j))*2%2305843009213693951)))],yH [(2,yV (AV.val (Value.int .u64 ((↑j:Int)-1)))),(3,yV (aw ((b%2305843009213693951)>>>UInt64.ofNat ((↑j:Int)-1).toNat))),(4,yV (aw ((b%2305843009213693951)>>>UInt64.ofNat ((↑j:Int)-1).toNat&&&(1:UInt64)))),(5,yV (ao ((b%2305843009213693951)>>>UInt64.ofNat ((↑j:Int)-1).toNat&&&(1:UInt64) == 1)))]] [.aa [23,5,12,1,0,4,6] []] [yR (aw (mq (a.toNat*((b%2305843009213693951).toNat/(2:Nat)^j))*2)),yR (aw (mq (a.toNat*((b%2305843009213693951).toNat/(2:Nat)^j))*2%2305843009213693951)),yO ((2305843009213693951:Int)≠(0:Int)),yB (AV.val (Value.int .u64 (IntKind.u64.wrap ((↑j:Int)-1)))=AV.val (Value.int .u64 ((↑j:Int)-1))) (rm ah ah),yI (fK (b%2305843009213693951) ((↑j:Int)-1) ah ah),yO ((0:Int)≤(↑j:Int)-1),yI (iN ((b%2305843009213693951)>>>UInt64.ofNat ((↑j:Int)-1).toNat) 1),yI (fV ((b%2305843009213693951)>>>UInt64.ofNat ((↑j:Int)-1).toNat&&&(1:UInt64)) 1)]<|bo 23 ((b%2305843009213693951)>>>UInt64.ofNat ((↑j:Int)-1).toNat&&&(1:UInt64) == 1) bR<|zK<|aM<|ak<|zX (yH [(1,yV (ai ((↑j:Int)-1-1)))]) [yN ((↑j:Int)-1-1)] (aI (j-1) ah ah (e_ [.aa [1,0,4,6,5] []] [6,5] [] [yB (ai ((↑j:Int)-1-1)=ai ((↑(j-1):Int)-1)) (congrArg ai ah),yB (aw (mq (a.toNat*((b%2305843009213693951).toNat/(2:Nat)^j))*2%2305843009213693951)=aw (mq (a.toNat*((b%2305843009213693951).toNat/(2:Nat)^(j-1))))) (congrArg aw e1)]))
 ·have RK:j=0:=ah
  subst RK
  have e:mq (a.toNat*((b%2305843009213693951).toNat/2^0))=mq (a.toNat*b.toNat):=by
   rw [Nat.pow_zero,Nat.div_one,hb];apply Ha;rw [Nat.mul_mod,Nat.mod_mod,←Nat.mul_mod]
  refine zS<|zP 1 [{}] [.aa [12,1,0,4,6,5] []] []<|dK 12 ((↑(0:Nat):Int)-1≥0)<|zE 0<|aY<|aN<|bm<|ak<|zP 1 [{}] [.aa [4,12,1,0,6,5] []] []<|zR (zV [yK (wv (mq (a.toNat*((b%2305843009213693951).toNat/(2:Nat)^0)))) (wv (mq (a.toNat*b.toNat))) (by rw [e])])
theorem zg (a n:UInt64):bK Tryz.prog 159 [aw a,aw n] (aw (mq (a.toNat^n.toNat))):=by
 have hn:=n.toNat_lt
 refine zO Tryz.func159 24<|zQ 2 [{},{}] []<|zS<|zq<|zB 0 (zL (fun (j:Nat)=>(⟨[(4,AV.val (Value.int .u64 0)),(0,aw a),(1,aw n),(6,ai ((j:Int)-1)),(5,aw (mq (a.toNat^(n.toNat/2^j))))],[]⟩:AS)) (fun j=>(j≤64)) (fun j=>(j)) (64) ?_ (e_ [.aa [4,0,1,6,5] []] [5] [] [yB (AV.val (Value.int .u64 1)=aw (mq (a.toNat^(n.toNat/(2:Nat)^64)))) (congrArg aw (show 1=mq _ by rw [Nat.div_eq_of_lt ah];rfl))]) ?_)
 ·omega
 intro j hj
 by_cases h0:0<j
 ·have hs:=Gu n j h0 ah
  have hh:=DZ n.toNat j h0
  have e0:mq ((mq (a.toNat^(n.toNat/2^j))).toNat*(mq (a.toNat^(n.toNat/2^j))).toNat)=mq (a.toNat^(2*(n.toNat/2^j))):=by
   apply Ha
   rw [tU,←Nat.mul_mod,←Nat.pow_add];congr 2;omega
  by_cases h1:n>>>UInt64.ofNat ((j:Int)-1).toNat&&&1=1
  ·have H7:=(qd _).1 h1
   rw [hs] at H7
   have e1:mq ((mq ((mq (a.toNat^(n.toNat/2^j))).toNat*(mq (a.toNat^(n.toNat/2^j))).toNat)).toNat*a.toNat)=mq (a.toNat^(n.toNat/2^(j-1))):=by
    rw [e0,hh,H7,Nat.pow_succ]
    apply Ha
    rw [tU,Nat.mul_mod,Nat.mod_mod,←Nat.mul_mod]
   refine zS<|zq<|jO 8 ((↑j:Int)-1≥0)<|a8<|zS<|zB 1<|zP 2 [yH [(2,yV (aw (mq ((mq (a.toNat^(n.toNat/(2:Nat)^j))).toNat*(mq (a.toNat^(n.toNat/(2:Nat)^j))).toNat))))],yH [(2,yV (AV.val (Value.int .u64 ((↑j:Int)-1)))),(3,yV (aw (n>>>UInt64.ofNat ((↑j:Int)-1).toNat))),(4,yV (aw (n>>>UInt64.ofNat ((↑j:Int)-1).toNat&&&(1:UInt64)))),(5,yV (ao (n>>>UInt64.ofNat ((↑j:Int)-1).toNat&&&(1:UInt64) == 1)))]] [.aa [19,5,8,4,0,1,6] []] [yI (mX (mq (a.toNat^(n.toNat/(2:Nat)^j))) (mq (a.toNat^(n.toNat/(2:Nat)^j)))),yB (AV.val (Value.int .u64 (IntKind.u64.wrap ((↑j:Int)-1)))=AV.val (Value.int .u64 ((↑j:Int)-1))) (rm ah ah),yI (fK n ((↑j:Int)-1) ah ah),yO ((0:Int)≤(↑j:Int)-1),yI (iN (n>>>UInt64.ofNat ((↑j:Int)-1).toNat) 1),yI (fV (n>>>UInt64.ofNat ((↑j:Int)-1).toNat&&&(1:UInt64)) 1)]<|dQ 19 (n>>>UInt64.ofNat ((↑j:Int)-1).toNat&&&(1:UInt64) == 1) fX<|zX (yH [(2,yV (aw (mq ((mq ((mq (a.toNat^(n.toNat/(2:Nat)^j))).toNat*(mq (a.toNat^(n.toNat/(2:Nat)^j))).toNat)).toNat*a.toNat))))]) [yI (mX (mq ((mq (a.toNat^(n.toNat/(2:Nat)^j))).toNat*(mq (a.toNat^(n.toNat/(2:Nat)^j))).toNat)) a)]<|aM<|ak<|zX (yH [(1,yV (ai ((↑j:Int)-1-1)))]) [yN ((↑j:Int)-1-1)] (aI (j-1) ah ah (e_ [.aa [4,0,1,6,5] []] [6,5] [] [yB (ai ((↑j:Int)-1-1)=ai ((↑(j-1):Int)-1)) (congrArg ai ah),yB (aw (mq ((mq ((mq (a.toNat^(n.toNat/(2:Nat)^j))).toNat*(mq (a.toNat^(n.toNat/(2:Nat)^j))).toNat)).toNat*a.toNat))=aw (mq (a.toNat^(n.toNat/(2:Nat)^(j-1))))) (congrArg aw e1)]))
  ·have H7:¬n.toNat/2^(j-1)%2=1:=fun e=>h1 ((qd _).2 (by rw [hs];exact e))
   have e1:mq ((mq (a.toNat^(n.toNat/2^j))).toNat*(mq (a.toNat^(n.toNat/2^j))).toNat)=mq (a.toNat^(n.toNat/2^(j-1))):=by
    rw [e0,hh,show n.toNat/2^(j-1)%2=0 by omega,Nat.add_zero]
   refine zS<|zq<|jO 8 ((↑j:Int)-1≥0)<|a8<|zS<|zB 1<|zP 2 [yH [(2,yV (aw (mq ((mq (a.toNat^(n.toNat/(2:Nat)^j))).toNat*(mq (a.toNat^(n.toNat/(2:Nat)^j))).toNat))))],yH [(2,yV (AV.val (Value.int .u64 ((↑j:Int)-1)))),(3,yV (aw (n>>>UInt64.ofNat ((↑j:Int)-1).toNat))),(4,yV (aw (n>>>UInt64.ofNat ((↑j:Int)-1).toNat&&&(1:UInt64)))),(5,yV (ao (n>>>UInt64.ofNat ((↑j:Int)-1).toNat&&&(1:UInt64) == 1)))]] [.aa [19,5,8,4,0,1,6] []] [yI (mX (mq (a.toNat^(n.toNat/(2:Nat)^j))) (mq (a.toNat^(n.toNat/(2:Nat)^j)))),yB (AV.val (Value.int .u64 (IntKind.u64.wrap ((↑j:Int)-1)))=AV.val (Value.int .u64 ((↑j:Int)-1))) (rm ah ah),yI (fK n ((↑j:Int)-1) ah ah),yO ((0:Int)≤(↑j:Int)-1),yI (iN (n>>>UInt64.ofNat ((↑j:Int)-1).toNat) 1),yI (fV (n>>>UInt64.ofNat ((↑j:Int)-1).toNat&&&(1:UInt64)) 1)]<|bo 19 (n>>>UInt64.ofNat ((↑j:Int)-1).toNat&&&(1:UInt64) == 1) bR<|zK<|aM<|ak<|zX (yH [(1,yV (ai ((↑j:Int)-1-1)))]) [yN ((↑j:Int)-1-1)] (aI (j-1) ah ah (e_ [.aa [4,0,1,6,5] []] [6,5] [] [yB (ai ((↑j:Int)-1-1)=ai ((↑(j-1):Int)-1)) (congrArg ai ah),yB (aw (mq ((mq (a.toNat^(n.toNat/(2:Nat)^j))).toNat*(mq (a.toNat^(n.toNat/(2:Nat)^j))).toNat))=aw (mq (a.toNat^(n.toNat/(2:Nat)^(j-1))))) (congrArg aw e1)]))
 ·have RK:j=0:=ah
  subst RK
  refine zS<|zP 1 [{}] [.aa [8,4,0,1,6,5] []] []<|dK 8 ((↑(0:Nat):Int)-1≥0)<|zE 0<|aY<|aN<|bm<|ak<|zP 1 [{}] [.aa [4,8,0,1,6,5] []] []<|zR (zV [yK (wv (mq (a.toNat^(n.toNat/(2:Nat)^0)))) (wv (mq (a.toNat^n.toNat))) (by rw [Nat.pow_zero,Nat.div_one])])
end Go.Proofs.YtjgbhhnghedgdaaGreatDoor
