import Derived.Test.YtjgbhhnghedgdaaGreatDoorZpGrC2
set_option linter.all false
namespace Go.Proofs.YtjgbhhnghedgdaaGreatDoor
open Go.RowKit
set_option maxRecDepth 100000
set_option maxHeartbeats 4000000
theorem E3 (l:List gA) (n:List UInt8) {i:Nat} (h:i<l.length):Ac (l.take (i+1)) n=if NJ (l.getD i default).name n=true∧Ac (l.take i) n=i then i+1 else Ac (l.take i) n:=by
 unfold Ac
 rw [List.take_add_one,List.getD_eq_getElem?_getD,List.getElem?_eq_getElem h,List.takeWhile_append,List.length_take,Nat.min_eq_left aj]
 by_cases c:(List.takeWhile (fun v:gA=>NJ v.name n) (l.take i)).length=i
 ·rw [if_pos c]
  by_cases c2:NJ l[i].name n=true
  ·rw [if_pos ⟨c2,c⟩]
   simp [c2];omega
  ·rw [if_neg (fun q=>c2 q.1)]
   simp [c2];omega
 ·rw [if_neg c,if_neg (fun q=>c q.2)]
theorem DO (l:List gA) (n:List UInt8):Ac l n≤l.length:=(List.takeWhile_sublist _).length_le
theorem K5 {l:List gA} {n:List UInt8} (h:∀j,j<l.length->(l.getD j default).name≠n):IY l n=false:=by
 unfold IY
 rw [List.any_eq_false]
 intro v hv
 obtain ⟨j,hj,rfl⟩:=List.mem_iff_getElem.1 hv
 have:=h j hj
 rw [List.getD_eq_getElem?_getD,List.getElem?_eq_getElem hj] at this
 simpa using this
theorem K6 {l:List gA} {n:List UInt8} {i:Nat} (hi:i<l.length) (e:(l.getD i default).name=n):IY l n=true:=by
 unfold IY
 rw [List.any_eq_true]
 rw [List.getD_eq_getElem?_getD,List.getElem?_eq_getElem hi] at e
 exact ⟨_,List.getElem_mem hi,by simpa using e⟩
def yY:List AV:=[ai 0,aw 0,ai 0,cZ [],ai 0,aw 0,ai 0,aw 0,aw 0,.nil,.nil,.nil,ai 0,aw 0,aw 0,aw 0,.nil]
def gi (l:List Int) (k:Nat) (n:Int):Nat:=if k<l.length then fG (l.getD k 0) n else 0
def dI (l:List Int) (k:Nat):Nat:=if k<l.length then k+1 else k
theorem Ke (l:List Int):bK Tryz.prog 13 [.sl 1 (ax l)] (.box [.sl 1 (ax l),ai 0]):=by
 refine zO Tryz.func13 6<|zP 2 [{},{}] [.aa [2,0] [5]] []<|zR (bU)
theorem cF (l:List Int) (k:Nat) (n:Int) (hk:k≤l.length) (hl:l.length≤9223372036854775807) (h1:1≤n) (h2:n≤9223372036854775807):gk Tryz.prog 24 [.addr 1000000000000 0,ai n] [(1000000000000,⟨1,false,true,[.sl 1 (ax l),ai k]⟩)] (ai (gi l k n)) [(1000000000000,⟨1,false,true,[.sl 1 (ax l),ai (dI l k)]⟩)]:=by
 by_cases h:k<l.length
 ·have e1:gi l k n=fG (l.getD k 0) n:=if_pos h
  have e2:dI l k=k+1:=if_pos h
  have ew:IntKind.i64.wrap ((k:Int)+1)=((k+1:Nat):Int):=by rw [IntKind.wrap_i64];omega
  have ev:IntKind.i64.wrap (((k+1:Nat):Int)-1)=(k:Int):=by rw [IntKind.wrap_i64];omega
  rw [e1,e2]
  refine mV Tryz.func24 35<|zq<|zS<|zP 1 [{hs:=[(8,{k:=l.length})],T:=9}] [.aa [14,4,0,1] [1000000000000]] [yI (kf l)]<|dp 14 ((↑k:Int)≥(↑l.length:Int))<|a7<|zP 2 [yH [(4,yV (ai (↑(k+1):Int)))],{hs:=[(8,yV (ai ↑k)),(9,{k:=k}),(10,yV (ai (l.getD k (0:Int)))),(12,yV (ai (↑(fG (l.getD k (0:Int)) n):Int)))],T:=12}] [.aa [4,14,0,1] [1000000000000]] [yB (ai (IntKind.i64.wrap ((↑k:Int)+1))=ai (↑(k+1):Int)) (d_ aj aj),yL 2 2,yI (yc ev),yR (↑k:Int),yB (k<(ax l).length) (by simp only [kf];omega),yB ((ax l)[k]?=some (ai (l.getD k (0:Int)))) (lO aj),yI (sL (l.getD k (0:Int)) n h1 h2)]<|zR (zG [] [yR (Value.int .i64 (↑(fG (l.getD k (0:Int)) n):Int)),yR [AV.sl 1 (ax l),ai (↑(k+1):Int)]])
 ·have e1:gi l k n=0:=if_neg h
  have e2:dI l k=k:=if_neg h
  rw [e1,e2]
  refine mV Tryz.func24 35<|zq<|zS<|zP 1 [{hs:=[(8,{k:=l.length})],T:=9}] [.aa [14,4,0,1] [1000000000000]] [yI (kf l)]<|ib 14 ((↑k:Int)≥(↑l.length:Int))<|zq<|dt (zG [] [yR (Value.int .i64 0),yR [AV.sl 1 (ax l),ai ↑k]])
theorem db {l:List Int} {k:Nat} (h:k≤l.length):dI l k≤l.length:=by unfold dI;split<;>omega
theorem kM (l:List Int) (k:Nat) {n:Int} (h:1≤n):(gi l k n:Int)<n:=by
 unfold gi
 split
 ·unfold fG
  have:=Int.emod_lt_of_pos (l.getD k 0%18446744073709551616) (aj:0<n)
  have:=Int.emod_nonneg (l.getD k 0%18446744073709551616) (aj:n≠0)
  omega
 ·omega
structure Dr where
 gl:gB
 log:List fo
 nx:Nat->Int
def pf (c:Dr):List AV:=[ai c.gl.aA,aw c.gl.head,ai c.gl.bt,.sl 4 (af aI c.gl.al),.sl 7 (af bg c.gl.aJ),.sl 17 (af bX c.log),ai (c.nx 0),ai (c.nx 1),ai (c.nx 2),ai (c.nx 3),ai (c.nx 4),ai (c.nx 5),ai (c.nx 6),ai (c.nx 7),ai (c.nx 8),ai (c.nx 9)]
def vu (f:Nat->Int):List AV:=[ai (f 0),ai (f 1),ai (f 2),ai (f 3),ai (f 4),ai (f 5),ai (f 6),ai (f 7),ai (f 8),ai (f 9)]
def Nl:Dr:=⟨da (dY 0),[],fun _=>0⟩
theorem FV:bK Tryz.prog 15 [] (.agg (pf Nl)):=by
 have hm:=fK 0 aj
 have hn:=BQ (dY 0) (Nat.le_of_ble_eq_true rfl)
 unfold Nl
 generalize da (dY 0)=G at *
 refine zO Tryz.func15 10<|zP 3 [{},yH [(0,yV (AV.agg (aI (dY 0)))),(1,{av:=some (AV.br [AV.agg [ai G.aA,aw G.head,ai G.bt,AV.sl 4 (af aI G.al),AV.own 7 (af bg G.aJ)],ai (ie (dY 0))]),b:=false})],{}] [.aa [1,0] [0,1,501005]] [yI hm,yI hn,yL 5 5,yL 16 16]<|bf.rG [.gp 501005] bD<|bf.oe (bR.Mq 0 [(5,17)] bD)<|zR (zV ([yR (Value.int .i64 G.aA),yR (Value.int .u64 (wv G.head)),yR (Value.int .i64 G.bt),yR (af aI G.al),yR (af bg G.aJ),yB ([]=af bX []) rfl]++yM 10 (yR (Value.int .i64 0))))
theorem E_ (l:List Int) (k:Nat) (hk:k≤l.length) (hl:l.length≤9223372036854775807):gk Tryz.prog 28 [.addr 1000000000000 0] [(1000000000000,⟨1,false,true,[.sl 1 (ax l),ai k]⟩)] (ao (decide (k<l.length))) [(1000000000000,⟨1,false,true,[.sl 1 (ax l),ai k]⟩)]:=by
 refine mV Tryz.func28 13<|zP 2 [{},{hs:=[(8,{k:=l.length})],T:=9}] [.aa [2,0] [1000000000000]] [yI (kf l)]<|zR (zG [] [yB (Value.bool (decide ((↑k:Int)<(↑l.length:Int)))=Value.bool (decide (k<l.length))) (by simp),yR [AV.sl 1 (ax l),ai ↑k]])
def OB (c:Dr) (j:Nat) (m:Nat):Prop:=(c.gl.al.getD m default).name=(dY j).name∧c.nx j<16
instance (c:Dr) (j m:Nat):Decidable (OB c j m):=inferInstanceAs (Decidable (_∧_))
def nf (c:Dr) (j:Nat) (s:Nat×Nat):Nat->Nat×Nat
 | 0=>s
 | m+1=>if OB c j m then ((nf c j s m).1|||2^j,(nf c j s m).2+1) else nf c j s m
def kS (c:Dr) (k:Nat):Nat->Nat×Nat
 | 0=>(0,0)
 | i+1=>if ((kS c k i).2:Int)<c.gl.bt then nf c (fG ((i:Int)+k) 10) (kS c k i) c.gl.al.length else kS c k i
def G7 (c:Dr) (k:Nat):Nat:=(kS c k 10).1
theorem OH (f:Nat->Int) {j:Nat} (h:j<10):(vu f)[j]?=some (ai (f j)):=by
 rcases j with _|_|_|_|_|_|_|_|_|_|j<;>first|rfl|omega
theorem BV (c:Dr) {j:Nat} (hj:j<10) {s:Nat×Nat} (hs:s.1<1024):∀m,(nf c j s m).1<1024∧(nf c j s m).2≤s.2+m
 | 0=>⟨hs,Nat.le_refl _⟩
 | m+1=>by
  have ih:=BV c hj hs m
  unfold nf
  split
  ·refine ⟨Nat.or_lt_two_pow (n:=10) ih.1 (Nat.pow_lt_pow_right (by decide) hj),?_⟩
   show _+1≤_
   omega
  ·exact ⟨ih.1,aj⟩
theorem xn (c:Dr) (k:Nat):∀i,(kS c k i).1<1024∧(kS c k i).2≤i*c.gl.al.length
 | 0=>⟨Nat.zero_lt_succ _,Nat.zero_le _⟩
 | i+1=>by
  have ih:=xn c k i
  unfold kS
  split
  ·have hj:=sM ((i:Int)+k) (n:=10) aj
   have:=BV c (j:=fG ((i:Int)+k) 10) aj ih.1 c.gl.al.length
   refine ⟨this.1,Nat.le_trans this.2 ?_⟩
   rw [Nat.succ_mul];omega
  ·refine ⟨ih.1,Nat.le_trans ih.2 ?_⟩
   rw [Nat.succ_mul];omega
theorem wg (c:Dr) (k:Nat) {i:Nat} (h:¬((kS c k i).2:Int)<c.gl.bt):∀d,kS c k (i+d)=kS c k i
 | 0=>rfl
 | d+1=>by
  have ih:=wg c k h d
  show (if ((kS c k (i+d)).2:Int)<c.gl.bt then _ else kS c k (i+d))=_
  rw [ih,if_neg h]
theorem Nk (c:Dr) {j:Nat} (h:j<10):(pf c)[j+6]?=some (ai (c.nx j)):=by
 rcases j with _|_|_|_|_|_|_|_|_|_|j<;>first|rfl|omega
theorem GL {j:Nat} (h:j<10):IntKind.i64.wrap (1*2^min ((j:Nat):Int).toNat IntKind.i64.bits)=((2^j:Nat):Int):=by
 have key:∀j:Fin 10,IntKind.i64.wrap (1*2^min ((j.val:Nat):Int).toNat IntKind.i64.bits)=((2^j.val:Nat):Int):=by decide
 exact key ⟨j,h⟩
theorem Mn {a b:Nat} (ha:a<1024) (hb:b<1024):IntKind.i64.wrap ((BitVec.ofInt IntKind.i64.bits (a:Int)|||BitVec.ofInt IntKind.i64.bits (b:Int)).toNat:Nat)=((a|||b:Nat):Int):=by
 have dd:=Nat.or_lt_two_pow (n:=10) (x:=a) (y:=b) ha hb
 rw [BitVec.toNat_or,BitVec.toNat_ofInt,BitVec.toNat_ofInt,show ((a:Int)%((2^IntKind.i64.bits:Nat):Int)).toNat=a by show ((a:Int)%18446744073709551616).toNat=a;omega,show ((b:Int)%((2^IntKind.i64.bits:Nat):Int)).toNat=b by show ((b:Int)%18446744073709551616).toNat=b;omega,IntKind.wrap_i64]
 omega
theorem BU (c:Dr) (k:Nat) (hk:k<10) (hm:c.gl.al.length≤8):bK Tryz.prog 29 [.agg (pf c),ai k] (ai (G7 c k)):=by
 have l0:(af aI c.gl.al).length=c.gl.al.length*4:=aE (e:=4) (fun _=>rfl) ..
 refine zO Tryz.func29 59<|zQ 2 [{},{}] []<|zS<|zq<|zB 0 (zL (fun (i:Nat)=>(⟨[(4,ai 0),(2,AV.addr 2 0),(0,AV.agg [ai c.gl.aA,aw c.gl.head,ai c.gl.bt,AV.sl 4 (af aI c.gl.al),AV.sl 7 (af bg c.gl.aJ),AV.sl 17 (af bX c.log),ai (c.nx 0),ai (c.nx 1),ai (c.nx 2),ai (c.nx 3),ai (c.nx 4),ai (c.nx 5),ai (c.nx 6),ai (c.nx 7),ai (c.nx 8),ai (c.nx 9)]),(1,ai ↑k),(7,ai i),(5,ai (kS c k i).1),(6,ai (kS c k i).2)],[(2,⟨1,false,true,List.map (aR 2) (pf c)⟩)]⟩:AS)) (fun i=>(i≤10)) (fun i=>(10-i)) (0) ?_ (zW [.aa [4,2,0,1,7,5,6] [2]]) ?_)
 ·omega
 intro i hi
 have hb:=xn c k i
 have q7:i*c.gl.al.length≤80:=Nat.mul_le_mul hi hm
 by_cases c1:i<10
 case neg =>
  have e:i=10:=aj
  subst e
  refine zS<|zP 1 [yH ([(8,{b:=false})]++yg [3,4,5,6,7])] [.aa [18,4,2,0,1,7,5,6] [2]] (yM 6 (yR false))<|zF 18<|zE 0<|a_<|aP<|bo<|ak<|zP 1 [{}] [.aa [4,18,2,0,1,7,5,6] [2]] []<|zR (bU)
 by_cases c2:((kS c k i).2:Int)<c.gl.bt
 case neg =>
  have hs:=wg c k c2 (10-i)
  rw [show i+(10-i)=10 by omega] at hs
  refine zS<|zP 1 [{}] [.aa [18,4,2,0,1,7,5,6] [2]] (yM 6 (yT ((↑i:Int)<10)))<|dp 18 ((↑(kS c k i).snd:Int)<c.gl.bt)<|zE 0<|a_<|aP<|bo<|ak<|zq<|zR (zV [yJ (↑(kS c k i).fst:Int) (↑(G7 c k):Int) (by unfold G7;rw [hs])])
 obtain ⟨j,hj⟩:∃j,j=fG ((i:Int)+k) 10:=⟨_,rfl⟩
 have Ck:j<10:=by have:=sM ((i:Int)+k) (n:=10) aj;omega
 have dL:kS c k (i+1)=nf c j (kS c k i) c.gl.al.length:=by show (if _ then _ else _)=_;rw [if_pos c2,←hj]
 have NS:=Nk c Ck
 have Bs:=fK j Ck
 have Ra:IntKind.u64.wrap ((j:Nat):Int)=(j:Int):=by rw [IntKind.wrap_u64];omega
 have UT:=fun m=>BV c Ck hb.1 m
 generalize kT:kS c k i=s at *
 refine zS<|zP 1 [{}] [.aa [18,4,2,0,1,7,5,6] [2]] (yM 6 (yT ((↑i:Int)<10)))<|ib 18 ((↑s.snd:Int)<c.gl.bt)<|a7<|zS<|zB 1<|zP 2 [yH [(2,yV (ai ((↑i:Int)+(↑k:Int)))),(3,yV (ai (↑(fG ((↑i:Int)+(↑k:Int)) (10:Int)):Int))),(4,yV (ai ↑j))],{}] [.aa [9,8,18,4,2,0,1,7,5,6] [2]] [yN ((↑i:Int)+(↑k:Int)),yI (sL ((↑i:Int)+(↑k:Int)) ((10:Int)) aj aj),yB (ai (↑(fG ((↑i:Int)+(↑k:Int)) (10:Int)):Int)=ai ↑j) (by rw [hj])]<|zB 2 (zL (fun (m:Nat)=>(⟨[(8,ai ↑j),(18,ao (decide ((↑s.snd:Int)<c.gl.bt))),(4,ai 0),(2,AV.addr 2 0),(0,AV.agg [ai c.gl.aA,aw c.gl.head,ai c.gl.bt,AV.sl 4 (af aI c.gl.al),AV.sl 7 (af bg c.gl.aJ),AV.sl 17 (af bX c.log),ai (c.nx 0),ai (c.nx 1),ai (c.nx 2),ai (c.nx 3),ai (c.nx 4),ai (c.nx 5),ai (c.nx 6),ai (c.nx 7),ai (c.nx 8),ai (c.nx 9)]),(1,ai ↑k),(7,ai ↑i),(9,ai m),(5,ai (nf c j s m).1),(6,ai (nf c j s m).2)],[(2,⟨1,false,true,pf c⟩)]⟩:AS)) (fun m=>(m≤c.gl.al.length)) (fun m=>(c.gl.al.length-m)) (0) ?_ (zW [.aa [8,18,4,2,0,1,7,9,5,6] [2]]) ?_)
 ·omega
 intro m H3
 have US:=UT m
 refine zS<|zP 1 [yH [(4,{k:=c.gl.al.length})]] [.aa [30,8,18,4,2,0,1,7,9,5,6] [2]] [yI l0] (zD 30 ((↑m:Int)<(↑c.gl.al.length:Int)) (fun q=>?_) (fun q=>?_))
 ·have Rx:m<c.gl.al.length:=aj
  have gT:=mg Rx
  by_cases cn:(c.gl.al.getD m default).name=(dY j).name
  case neg =>
   have h1:nf c j s (m+1)=nf c j s m:=if_neg (fun q=>cn q.1)
   refine a7<|zS<|zB 3<|zP 1 [{hs:=[(4,{k:=m}),(6,yV (cZ (c.gl.al.getD m default).name)),(8,yV (AV.agg (aI (dY j)))),(10,yV (ao ((c.gl.al.getD m default).name == (dY j).name))),(12,{g:=false}),(13,{g:=false}),(14,{g:=false}),(15,{g:=false}),(16,{g:=false}),(17,{b:=false})],T:=14}] [.aa [50,30,8,18,4,2,0,1,7,9,5,6] [2]] ([yR (↑m:Int),yO (m*4<(af aI c.gl.al).length),yA aI c.gl.al m 0,yI Bs,yI (fY ((c.gl.al.getD m default).name) ((dY j).name))]++yM 6 (yS (((c.gl.al.getD m default).name == (dY j).name)=false)))<|zF 50<|zK<|aL<|ak<|zX (yH [(1,yV (ai ((↑m:Int)+1)))]) [yN ((↑m:Int)+1)] (aH (m+1) (by assumption) aj (eJ [.aa [8,18,4,2,0,1,7,9,5,6] [2]] [5,6] [] [yB (ai (↑(nf c j s m).fst:Int)=ai (↑(nf c j s (m+1)).fst:Int)) (by rw [h1]),yB (ai (↑(nf c j s m).snd:Int)=ai (↑(nf c j s (m+1)).snd:Int)) (by rw [h1])]))
  by_cases cx:c.nx j<16
  case neg =>
   have h1:nf c j s (m+1)=nf c j s m:=if_neg (fun q=>cx q.2)
   refine a7<|zS<|zB 3<|zP 1 [{hs:=[(4,{k:=m}),(6,yV (cZ (c.gl.al.getD m default).name)),(8,yV (AV.agg (aI (dY j)))),(10,yV (ao ((c.gl.al.getD m default).name == (dY j).name))),(14,{k:=j}),(15,yV (ai (c.nx j)))],T:=14}] [.aa [50,30,8,18,4,2,0,1,7,9,5,6] [2]] ([yR (↑m:Int),yO (m*4<(af aI c.gl.al).length),yA aI c.gl.al m 0,yI Bs,yI (fY ((c.gl.al.getD m default).name) ((dY j).name))]++yM 3 (yS (((c.gl.al.getD m default).name == (dY j).name)=true))++ [yR (↑j:Int),yI Ck,yS (((c.gl.al.getD m default).name == (dY j).name)=true),yI NS]++yM 2 (yS (((c.gl.al.getD m default).name == (dY j).name)=true)))<|dp 50 (c.nx j<16)<|zK<|aL<|ak<|zX (yH [(1,yV (ai ((↑m:Int)+1)))]) [yN ((↑m:Int)+1)] (aH (m+1) (by assumption) aj (eJ [.aa [8,18,4,2,0,1,7,9,5,6] [2]] [5,6] [] [yB (ai (↑(nf c j s m).fst:Int)=ai (↑(nf c j s (m+1)).fst:Int)) (by rw [h1]),yB (ai (↑(nf c j s m).snd:Int)=ai (↑(nf c j s (m+1)).snd:Int)) (by rw [h1])]))
  have h1:nf c j s (m+1)=((nf c j s m).1|||2^j,(nf c j s m).2+1):=if_pos ⟨cn,cx⟩
  have Cf:=GL Ck
  have sP:=Mn (a:=(nf c j s m).1) (b:=2^j) aj (by have:=Nat.pow_lt_pow_right (a:=2) (by decide) Ck;omega)
  refine a7<|zS<|zB 3<|zP 1 [{hs:=[(4,{k:=m}),(6,yV (cZ (c.gl.al.getD m default).name)),(8,yV (AV.agg (aI (dY j)))),(10,yV (ao ((c.gl.al.getD m default).name == (dY j).name))),(14,{k:=j}),(15,yV (ai (c.nx j)))],T:=14}] [.aa [50,30,8,18,4,2,0,1,7,9,5,6] [2]] ([yR (↑m:Int),yO (m*4<(af aI c.gl.al).length),yA aI c.gl.al m 0,yI Bs,yI (fY ((c.gl.al.getD m default).name) ((dY j).name))]++yM 3 (yS (((c.gl.al.getD m default).name == (dY j).name)=true))++ [yR (↑j:Int),yI Ck,yS (((c.gl.al.getD m default).name == (dY j).name)=true),yI NS]++yM 2 (yS (((c.gl.al.getD m default).name == (dY j).name)=true)))<|ib 50 (c.nx j<16)<|zP 1 [yH [(2,yV (AV.val (Value.int .u64 (↑j:Int)))),(3,yV (ai (↑((2:Nat)^j):Int))),(4,yV (ai (↑((nf c j s m).fst|||(2:Nat)^j):Int)))]] [.aa [5,50,30,8,18,4,2,0,1,7,9,6] [2]] [yI (yd Ra),yI (yc Cf),yO ((0:Int)≤(↑j:Int)),yI (yc sP)]<|zX (yH [(1,yV (ai ((↑(nf c j s m).snd:Int)+1)))]) [yN ((↑(nf c j s m).snd:Int)+1)]<|aL<|ak<|zX (yH [(1,yV (ai ((↑m:Int)+1)))]) [yN ((↑m:Int)+1)] (aH (m+1) (by assumption) aj (eJ [.aa [8,18,4,2,0,1,7,9,5,6] [2]] [5,6] [] [yB (ai (↑((nf c j s m).fst|||(2:Nat)^j):Int)=ai (↑(nf c j s (m+1)).fst:Int)) (by rw [h1]),yB (ai ((↑(nf c j s m).snd:Int)+1)=ai (↑(nf c j s (m+1)).snd:Int)) (by rw [h1];rfl)]))
 ·have em:m=c.gl.al.length:=aj
  subst em
  refine zE 2<|a_<|aP<|bo<|aL<|ak<|zX (yH [(1,yV (ai ((↑i:Int)+1)))]) [yN ((↑i:Int)+1)] (aH (i+1) (by assumption) aj (eJ [.aa [4,2,0,1,7,5,6] [2]] [5,6] [] [yB (ai (↑(nf c j s c.gl.al.length).fst:Int)=ai (↑(kS c k (i+1)).fst:Int)) (by rw [dL]),yB (ai (↑(nf c j s c.gl.al.length).snd:Int)=ai (↑(kS c k (i+1)).snd:Int)) (by rw [dL])]))
def Gu (f:Nat->Int) (i:Nat) (v:Int):Nat->Int:=fun j=>if j=i then v else f j
def ba (e:fo) (nx:Nat->Int) (bO:Nat):Nat->fo×(Nat->Int)
 | 0=>(e,nx)
 | i+1=>if bO.testBit i=true∧og (ba e nx bO i).1 (dY i).name 4 ((ba e nx bO i).2 i)=0 then (tn (ba e nx bO i).1 (dY i).name (300+u64 i) 4 ((ba e nx bO i).2 i),Gu (ba e nx bO i).2 i ((ba e nx bO i).2 i+1)) else ba e nx bO i
theorem Mo (f:Nat->Int) {i:Nat} (h:i<10) (v:Int):(vu f).set i (ai v)=vu (Gu f i v):=by
 rcases i with _|_|_|_|_|_|_|_|_|_|i<;>first|rfl|omega
theorem HI (l:List gA) (v:gA):(Aq l v).length=l.length+1:=by
 have:=DO l v.name
 unfold Aq
 simp only [List.length_append,List.length_take,List.length_drop,List.length_cons,List.length_nil]
 omega
theorem L7 {e:fo} (hB:mQ e) {n:List UInt8} {seed:UInt64} {h leaf:Int} (hq:og e n h leaf=0):mQ (tn e n seed h leaf)∧(tn e n seed h leaf).aq.length=e.aq.length+1:=by
 have cf:tn e n seed h leaf= {e with aq:=Aq e.aq ⟨n,oM h leaf,oi seed h leaf (de e),oh seed h leaf⟩}:=if_neg (fun q=>q hq)
 rw [cf]
 exact ⟨⟨hB.NI,hB.dep⟩,HI _ _⟩
theorem BH {e:fo} (hB:mQ e) (nx:Nat->Int) (bO:Nat):∀i,mQ (ba e nx bO i).1∧(ba e nx bO i).1.aq.length≤e.aq.length+i
 | 0=>⟨hB,Nat.le_refl _⟩
 | i+1=>by
  obtain ⟨h1,h2⟩:=BH hB nx bO i
  unfold ba
  split
  ·rename_i q
   obtain ⟨h3,h4⟩:=L7 (seed:=300+u64 i) h1 q.2
   exact ⟨h3,by show (tn _ _ _ _ _).aq.length≤_;omega⟩
  ·exact ⟨h1,aj⟩
theorem Gn {e:fo} {n:List UInt8} {leaf:Int} (h:og e n 4 leaf=0):0≤leaf∧leaf<16:=by
 have hs:vX 4 leaf=0:=by
  unfold og at h
  split at h
  ·rename_i q;exact absurd h q
  split at h
  ·omega
  ·exact h
 have nb:¬i3 4 leaf:=by
  intro q;unfold vX at hs;rw [if_pos q] at hs;omega
 unfold i3 at nb
 have:(2:Nat)^(4:Int).toNat=16:=rfl
 omega
theorem Ma {w i:Nat} (hw:w<1024) (hi:i<10):IntKind.i64.wrap ((BitVec.ofInt IntKind.i64.bits ((w/2^i:Nat):Int)&&&BitVec.ofInt IntKind.i64.bits 1).toNat:Nat)=if w.testBit i=true then 1 else 0:=by
 rw [BitVec.toNat_and,BitVec.toNat_ofInt,BitVec.toNat_ofInt,show ((1:Int)%((2^IntKind.i64.bits:Nat):Int)).toNat=1 by rfl]
 have hq:w/2^i<1024:=Nat.lt_of_le_of_lt (Nat.div_le_self _ _) hw
 rw [Nat.testBit_eq_decide_div_mod_eq]
 generalize w/2^i=q at *
 rw [show (((q:Nat):Int)%((2^IntKind.i64.bits:Nat):Int)).toNat=q by show (((q:Nat):Int)%18446744073709551616).toNat=_;omega]
 rw [Nat.and_one_is_mod]
 have:q%2<2:=Nat.mod_lt _ (by decide)
 by_cases c:q%2=1
 ·rw [c];decide
 ·rw [show q%2=0 by omega];decide
theorem JX (w:Nat) {i:Nat} (hi:i<10):((w:Nat):Int).fdiv (2^min ((i:Nat):Int).toNat IntKind.i64.bits)=((w/2^i:Nat):Int):=by
 rw [show min ((i:Nat):Int).toNat IntKind.i64.bits=i from Nat.min_eq_left (by show i≤64;omega),Int.fdiv_eq_ediv_of_nonneg _ (Int.pow_nonneg (by decide))]
 push_cast
 rfl
def K2 (e:fo):List AV:=[ai e.aA,aw e.prev,ai e.kind,cZ e.name,ai e.kh,aw e.kr,ai e.bt,aw e.dep.bF,aw e.dep.peer,.sl 1 (ag e.dep.box),.sl 1 (af ay e.dep.ae),.sl 1 (ah e.dep.au),ai e.dep.need,aw e.dep.target,aw e.bF,aw e.target,.own 4 (af aU e.aq)]
def tl (e:fo) (n:List UInt8) (seed:UInt64) (h leaf:Int):List AV:=if og e n h leaf=0 then K2 (tn e n seed h leaf) else yY
theorem xe (e:fo) (n:List UInt8) (seed:UInt64) (h leaf:Int) (hv:e.aq.length≤1000000) (mT:bK Tryz.prog 40 [.agg (bX e)] (.br [.own 1 (ag (fA e)),ai (eh e)])):bK Tryz.prog 26 [.agg (bX e),cZ n,aw seed,ai h,ai leaf] (.br [.agg (tl e n seed h leaf),ai (og e n h leaf)]):=by
 have uq:(af aU e.aq).length=e.aq.length*4:=aE (e:=4) (fun _=>rfl) ..
 by_cases cb:eh e=0
 case neg =>
  have ce:og e n h leaf=eh e:=if_pos cb
  have cf:tl e n seed h leaf=yY:=if_neg (by rw [ce];exact cb)
  rw [cf,ce]
  refine zO Tryz.func26 89<|zP 2 [{},yH [(1,yV (AV.br [AV.own 1 (ag (fA e)),ai (eh e)]))]] [.aa [13,12,11,10,5,0,1,2,3,4] [1020,10,5]] [yI mT,yI (aQ (fA e))]<|zS<|zQ 1 [yH [(1,yV (ao true))]] [yB (ao (eh e != (0:Int))=ao true) (by simp [cb])]<|zT 24<|zP 1 [{}] [.aa [11,24,13,12,10,5,0,1,2,3,4] [10,1020,5]] [yL 17 17]<|dt (bU)
 have pr:=uG e cb
 rw [cb] at mT
 have Ky:=oz (fA e) aj
 rw [show hash 16 (fA e)=de e from rfl] at Ky
 refine zO Tryz.func26 89<|zP 2 [{},yH [(1,yV (AV.br [AV.own 1 (ag (fA e)),ai 0]))]] [.aa [13,12,11,10,5,0,1,2,3,4] [1020,10,5]] [yI mT,yI (aQ (fA e))]<|zS<|zq<|zF 24<|a7<|zq<|zS<|zq<|zB 0 (zL (fun (p:Nat×Nat)=>(⟨[(24,ao ((0:Int) != (0:Int))),(13,ai 0),(12,AV.ref 1020),(10,AV.addr 10 0),(5,AV.addr 5 0),(0,AV.agg (bX e)),(1,cZ n),(2,aw seed),(3,ai h),(4,ai leaf),(15,ai p.1),(14,ai p.2)],[(1020,⟨1,true,false,ag (fA e)⟩),(10,⟨1,false,true,[ai 0,dW,ai 0,AV.val (Value.string (ByteArray.mk #[])),ai 0,dW,ai 0,dW,dW,AV.nil,AV.nil,AV.nil,ai 0,dW,dW,dW,AV.nil]⟩),(5,⟨1,false,true,List.map (aR 1020) (List.map (aR 10) (List.map (aR 5) (bX e)))⟩)]⟩:AS)) (fun p=>(p.1≤e.aq.length∧p.2=Ac (e.aq.take p.1) n∧ ∀j,j<p.1->(e.aq.getD j default).name≠n)) (fun p=>(e.aq.length-p.1)) ((0,0)) ?_ (zW [.aa [24,13,12,10,5,0,1,2,3,4,15,14] [1020,10,5]]) ?_)
 ·exact ⟨aj,rfl,aj⟩
 rintro ⟨i,a⟩ ⟨hi,ha,gb⟩
 simp only at hi ha gb
 refine zS<|zP 1 [yH [(3,{k:=e.aq.length})]] [.aa [31,24,13,12,10,5,0,1,2,3,4,15,14] [1020,10,5]] [yI uq] (zD 31 ((↑i:Int)<(↑e.aq.length:Int)) (fun q=>?_) (fun q=>?_))
 ·have dD:i<e.aq.length:=aj
  have gT:=jm dD
  have dL:=E3 e.aq n dD
  by_cases cn:(e.aq.getD i default).name=n
  ·have hd:=K6 dD cn
   have ce:og e n h leaf=10:=by unfold og;rw [if_neg (fun q=>q cb),if_pos hd]
   have cf:tl e n seed h leaf=yY:=if_neg aj
   rw [cf,ce]
   refine a7<|zS<|zB 1<|zS<|zP 1 [yH [(3,{k:=i}),(5,yV (cZ (e.aq.getD i default).name)),(7,yV (ao ((e.aq.getD i default).name == n)))]] [.aa [41,31,24,13,12,10,5,0,1,2,3,4,15,14] [1020,10,5]] [yR (↑i:Int),yO (i*4<(af aU e.aq).length),yA aU e.aq i 0,yI (fY ((e.aq.getD i default).name) n)]<|dr 41 ((e.aq.getD i default).name == n) (by simp_all)<|zP 1 [{}] [.aa [11,41,31,24,13,12,10,5,0,1,2,3,4,15,14] [10,1020,5]] [yL 17 17]<|dt<|bc<|aK<|dz<|bc<|aK (bU)
  by_cases cl:NJ (e.aq.getD i default).name n=true
  ·by_cases ca:a=i
   ·rw [if_pos ⟨cl,aj⟩] at dL
    have V8:((a:Int) == (i:Int))=true:=beq_iff_eq.2 aj
    clear ha ca
    refine a7<|zS<|zB 1<|zS<|zP 1 [yH [(3,{k:=i}),(5,yV (cZ (e.aq.getD i default).name)),(7,yV (ao ((e.aq.getD i default).name == n)))]] [.aa [41,31,24,13,12,10,5,0,1,2,3,4,15,14] [1020,10,5]] [yR (↑i:Int),yO (i*4<(af aU e.aq).length),yA aU e.aq i 0,yI (fY ((e.aq.getD i default).name) n)]<|bj 41 ((e.aq.getD i default).name == n) (by simp_all)<|a7<|zP 1 [yH [(3,{k:=i}),(5,yV (cZ (e.aq.getD i default).name))]] [.aa [55,41,31,24,13,12,10,5,0,1,2,3,4,15,14] [1020,10,5]] ([yR (↑i:Int),yO (i*4<(af aU e.aq).length),yA aU e.aq i 0]++yM 4 (yB (Op.bytesLess (ByteArray.mk (e.aq.getD i default).name.toArray).toList (ByteArray.mk n.toArray).toList=true) (by assumption)))<|dr 55 ((↑a:Int) == (↑i:Int)) (by assumption)<|zX (yH [(1,yV (ai ((↑i:Int)+1)))]) [yN ((↑i:Int)+1)]<|aL<|ak<|zX (yH [(1,yV (ai ((↑i:Int)+1)))]) [yN ((↑i:Int)+1)] (aH (i+1,i+1) ⟨aj,by show i+1=_;rw [dL],fun j hj=>by by_cases e2:j=i;(subst e2;exact cn);exact gb j aj⟩ aj (zW [.aa [24,13,12,10,5,0,1,2,3,4,15,14] [1020,10,5]]))
   ·rw [if_neg (fun q=>ca aj)] at dL
    refine a7<|zS<|zB 1<|zS<|zP 1 [yH [(3,{k:=i}),(5,yV (cZ (e.aq.getD i default).name)),(7,yV (ao ((e.aq.getD i default).name == n)))]] [.aa [41,31,24,13,12,10,5,0,1,2,3,4,15,14] [1020,10,5]] [yR (↑i:Int),yO (i*4<(af aU e.aq).length),yA aU e.aq i 0,yI (fY ((e.aq.getD i default).name) n)]<|bj 41 ((e.aq.getD i default).name == n) (by simp_all)<|a7<|zP 1 [yH [(3,{k:=i}),(5,yV (cZ (e.aq.getD i default).name))]] [.aa [55,41,31,24,13,12,10,5,0,1,2,3,4,15,14] [1020,10,5]] ([yR (↑i:Int),yO (i*4<(af aU e.aq).length),yA aU e.aq i 0]++yM 4 (yB (Op.bytesLess (ByteArray.mk (e.aq.getD i default).name.toArray).toList (ByteArray.mk n.toArray).toList=true) (by assumption)))<|bj 55 ((↑a:Int) == (↑i:Int)) bE<|zK<|aL<|ak<|zX (yH [(1,yV (ai ((↑i:Int)+1)))]) [yN ((↑i:Int)+1)] (aH (i+1,a) ⟨aj,by show a=_;rw [dL,ha],fun j hj=>by by_cases e2:j=i;(subst e2;exact cn);exact gb j aj⟩ aj (zW [.aa [24,13,12,10,5,0,1,2,3,4,15,14] [1020,10,5]]))
  ·rw [if_neg (fun q=>cl q.1)] at dL
   have V7:NJ (e.aq.getD i default).name n=false:=by simpa using cl
   refine a7<|zS<|zB 1<|zS<|zP 1 [yH [(3,{k:=i}),(5,yV (cZ (e.aq.getD i default).name)),(7,yV (ao ((e.aq.getD i default).name == n)))]] [.aa [41,31,24,13,12,10,5,0,1,2,3,4,15,14] [1020,10,5]] [yR (↑i:Int),yO (i*4<(af aU e.aq).length),yA aU e.aq i 0,yI (fY ((e.aq.getD i default).name) n)]<|bj 41 ((e.aq.getD i default).name == n) (by simp_all)<|a7<|zP 1 [yH ([(3,{k:=i}),(5,yV (cZ (e.aq.getD i default).name)),(12,{b:=false})]++yg [9,10,11])] [.aa [55,41,31,24,13,12,10,5,0,1,2,3,4,15,14] [1020,10,5]] ([yR (↑i:Int),yO (i*4<(af aU e.aq).length),yA aU e.aq i 0]++yM 4 (yB (Op.bytesLess (ByteArray.mk (e.aq.getD i default).name.toArray).toList (ByteArray.mk n.toArray).toList=false) (by assumption)))<|zF 55<|zK<|aL<|ak<|zX (yH [(1,yV (ai ((↑i:Int)+1)))]) [yN ((↑i:Int)+1)] (aH (i+1,a) ⟨aj,by show a=_;rw [dL,ha],fun j hj=>by by_cases e2:j=i;(subst e2;exact cn);exact gb j aj⟩ aj (zW [.aa [24,13,12,10,5,0,1,2,3,4,15,14] [1020,10,5]]))
 ·have ei:i=e.aq.length:=aj
  subst ei
  rw [List.take_length] at ha
  have hd:=K5 gb
  have hq:og e n h leaf=vX h leaf:=by unfold og;rw [if_neg (fun q=>q cb),if_neg (by rw [hd];decide)]
  by_cases cs:vX h leaf=0
  case neg =>
   have cf:tl e n seed h leaf=yY:=if_neg (by rw [hq];exact cs)
   rw [cf,hq]
   refine zE 0<|a_<|aP<|bo<|ak<|zP 1 [yH [(4,yV (aw (de e))),(5,yV (AV.br [AV.agg [ai (oM h leaf),AV.own 1 (ah (oi seed h leaf (de e))),AV.own 1 (ah (oh seed h leaf))],ai (vX h leaf)]))]] [.aa [13,16,31,24,12,10,5,0,1,2,3,4,15,14] [16,301064,201064,1020,10,5]] [yI Ky,yI (rL seed h leaf (de e)),yB (ld (ah (oi seed h leaf (de e)))) (gm _),yB (ld (ah (oh seed h leaf))) (gm _),yL 3 3]<|zS<|zQ 1 [yH [(1,yV (ao true))]] [yB (ao (vX h leaf != (0:Int))=ao true) (by simp [cs])]<|zT 68<|zP 1 [{}] [.aa [11,68,13,16,31,24,12,10,5,0,1,2,3,4,15,14] [10,16,301064,201064,1020,5]] [yL 17 17]<|dt (bU)
  have cr:tl e n seed h leaf=K2 (tn e n seed h leaf):=if_pos (by rw [hq];exact cs)
  have cf:tn e n seed h leaf= {e with aq:=Aq e.aq ⟨n,oM h leaf,oi seed h leaf (de e),oh seed h leaf⟩}:=if_neg (by rw [hq];exact fun q=>q cs)
  rw [cr,hq,cf,cs]
  have R0:=DO e.aq n
  have oG:cH (af aU e.aq):=dG (fun x=>dP rfl) _
  have s1:af aU (e.aq.take a)++aU ⟨n,oM h leaf,oi seed h leaf (de e),oh seed h leaf⟩=af aU (e.aq.take a++ [⟨n,oM h leaf,oi seed h leaf (de e),oh seed h leaf⟩]):=gJ _ _
  have s2:af aU (e.aq.take a++ [⟨n,oM h leaf,oi seed h leaf (de e),oh seed h leaf⟩])++(af aU e.aq).drop (a*4)=af aU (Aq e.aq ⟨n,oM h leaf,oi seed h leaf (de e),oh seed h leaf⟩):=by rw [nY (e:=4) (fun _=>rfl),fB];unfold Aq;rw [ha]
  have s0:(af aU e.aq).take (a*4)=af aU (e.aq.take a):=nX (e:=4) (fun _=>rfl) _ _
  have Pj:cH ((af aU e.aq).take (a*4)):=fun x hx=>oG x (List.mem_of_mem_take hx)
  have NR:cH ((af aU e.aq).drop (a*4)):=fun x hx=>oG x (List.mem_of_mem_drop hx)
  refine zE 0<|a_<|aP<|bo<|ak<|zP 1 [yH [(4,yV (aw (de e))),(5,yV (AV.br [AV.agg [ai (oM h leaf),AV.own 1 (ah (oi seed h leaf (de e))),AV.own 1 (ah (oh seed h leaf))],ai (vX h leaf)]))]] [.aa [13,16,31,24,12,10,5,0,1,2,3,4,15,14] [16,301064,201064,1020,10,5]] [yI Ky,yI (rL seed h leaf (de e)),yB (ld (ah (oi seed h leaf (de e)))) (gm _),yB (ld (ah (oh seed h leaf))) (gm _),yL 3 3]<|zS<|zQ 1 [yH [(1,yV (ao false))]] [yB (ao (vX h leaf != (0:Int))=ao false) (by simp [cs])]<|zF 68<|a7<|bf.rG [.gp 201064,.gp 301064] bD<|zS<|Bu 9 [4] [(3,{m:=a}),(4,{av:=some (AV.arr (af aU (List.take a e.aq))),b:=false}),(9,yV (AV.arr (af aU (List.take a e.aq++ [gA.mk n (oM h leaf) (oi seed h leaf (de e)) (oh seed h leaf)]))))] [yR (↑a:Int),yO (a*4≤(af aU e.aq).length),yI s0,yI Pj,yB ((0+(List.take (a*4) (af aU e.aq)).length)*72≤562949953421312) (by simp only [List.length_take];omega),yR (cZ n),yR (AV.agg [ai (oM h leaf),AV.sl 1 (ah (oi seed h leaf (de e))),AV.sl 1 (ah (oh seed h leaf))]),yR (AV.agg [cZ n,ai (oM h leaf),AV.sl 1 (ah (oi seed h leaf (de e))),AV.sl 1 (ah (oh seed h leaf))]),yR (AV.sl 4 [cZ n,ai (oM h leaf),AV.sl 1 (ah (oi seed h leaf (de e))),AV.sl 1 (ah (oh seed h leaf))]),yI s1,yB (((af aU (List.take a e.aq)).length+4)*72≤562949953421312) (by simp only [List.length_take,aE (f:=aU) (e:=4) (fun _=>rfl)];omega)]<|ak<|zP 2 [yH [(4,{k:=a}),(5,{av:=some (AV.arr (af aU (Aq e.aq (gA.mk n (oM h leaf) (oi seed h leaf (de e)) (oh seed h leaf))))),b:=false})],{}] [.aa [11,68,13,16,31,24,12,10,5,0,1,2,3,4,15,14] [10,5,86,16,1020]] [yR (↑a:Int),yO (a*4≤(af aU e.aq).length),yI s2,yI NR,yB (((af aU (List.take a e.aq++ [gA.mk n (oM h leaf) (oi seed h leaf (de e)) (oh seed h leaf)])).length+(List.drop (a*4) (af aU e.aq)).length)*72≤562949953421312) (by simp only [List.length_append,List.length_cons,List.length_nil,List.length_take,List.length_drop,aE (f:=aU) (e:=4) (fun _=>rfl)];omega),yL 17 17,yL 17 17]<|zR (bU)
end Go.Proofs.YtjgbhhnghedgdaaGreatDoor
