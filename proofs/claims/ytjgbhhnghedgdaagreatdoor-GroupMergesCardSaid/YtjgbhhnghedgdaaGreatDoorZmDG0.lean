import Derived.Test.YtjgbhhnghedgdaaGreatDoorZmRZ
set_option linter.all false
namespace Go.Proofs.YtjgbhhnghedgdaaGreatDoor
open Go.RowKit
set_option maxRecDepth 100000
set_option maxHeartbeats 4000000
theorem ob (x:UInt64) (k:Int) (hk:k=13∨k=16∨k=17∨k=21∨k=32):bC Tryz.prog 165 [aw x,ai k] (aw (rotl x (UInt64.ofNat k.toNat))):=by
 have h1:IntKind.u64.wrap ((BitVec.ofInt IntKind.u64.bits k&&&BitVec.ofInt IntKind.u64.bits 63).toNat:Nat)=k:=by rcases hk with rfl|rfl|rfl|rfl|rfl<;>decide
 have h0:IntKind.u64.wrap k=k:=by rcases hk with rfl|rfl|rfl|rfl|rfl<;>decide
 have h2:IntKind.u64.wrap (64-k)=64-k:=by rcases hk with rfl|rfl|rfl|rfl|rfl<;>decide
 have h3:UInt64.ofNat (64-k).toNat=64-UInt64.ofNat k.toNat:=by rcases hk with rfl|rfl|rfl|rfl|rfl<;>decide
 have hr:rotl x (UInt64.ofNat k.toNat)=x<<<UInt64.ofNat k.toNat|||x>>>UInt64.ofNat (64-k).toNat:=by rw [h3];rfl
 rw [hr]
 refine zO Tryz.func165 17<|zP 3 [{},yH [(1,yV (AV.val (Value.int .u64 k))),(2,yV (AV.val (Value.int .u64 k)))],yH [(2,yV (aw (x<<<UInt64.ofNat k.toNat))),(5,yV (AV.val (Value.int .u64 ((64:Int)-k)))),(6,yV (aw (x>>>UInt64.ofNat ((64:Int)-k).toNat))),(7,yV (aw (x<<<UInt64.ofNat k.toNat|||x>>>UInt64.ofNat ((64:Int)-k).toNat)))]] [.aa [4,5,0,1] []] [yI (yd h0),yI (yd h1),yI (jD x k ah ah),yO ((0:Int)≤k),yI (yd h2),yI (fq x ((64:Int)-k) ah ah),yO ((0:Int)≤64-k),yI (pL (x<<<UInt64.ofNat k.toNat) (x>>>UInt64.ofNat ((64:Int)-k).toNat))]<|zR (bL)
def eW (s:St):List AV:=[aw s.v0,aw s.v1,aw s.v2,aw s.v3]
def Hy (s:St):List (Nat×Row):=[(1000000000000,⟨1,false,true,eW s⟩)]
theorem sd (s:St) (n:Nat) (hn:n≤4):gm Tryz.prog 137 [.addr 1000000000000 0,ai n] (Hy s) (.bk []) (Hy (kH n s)):=by
 unfold Hy
 refine nj Tryz.func137 144<|zq<|zB 0 (zL (fun (i:Nat)=>(⟨[(4,ai ↑n),(0,AV.addr 1000000000000 0),(1,ai ↑n),(5,ai i)],[(1000000000000,⟨1,false,true,eW (kH i s)⟩)]⟩:AS)) (fun i=>(i≤n)) (fun i=>(n-i)) (0) ?_ (zW [.aa [4,0,1,5] [1000000000000]]) ?_)
 ·omega
 intro i hi
 refine bf.jJ 1 [{}] bt (s':=AS.mk [(6,ao (decide ((↑i:Int)<(↑n:Int)))),(4,ai ↑n),(0,AV.addr 1000000000000 0),(1,ai ↑n),(5,ai ↑i)] [(1000000000000,Row.mk 1 false true (eW (kH i s)))]) (C:=[]) bt trivial<|zS (zD 6 ((↑i:Int)<(↑n:Int)) (fun q=>?_) (fun q=>?_))
 ·have dC:kH (i+1) s=aV (kH i s):=rfl
  generalize kH i s=t at *
  refine aW<|zS<|zB 1<|zP 13 [{hs:=[(8,yV (aw (t.v0+t.v1)))],T:=8},yH [(5,yV (aw (rotl t.v1 (UInt64.ofNat (Int.toNat (13:Int))))))],{hs:=[(8,yV (aw (rotl t.v1 (UInt64.ofNat (Int.toNat (13:Int)))^^^t.v0+t.v1)))],T:=8},yH [(5,yV (aw (rotl (t.v0+t.v1) (UInt64.ofNat (Int.toNat (32:Int))))))],{hs:=[(8,yV (aw (t.v2+t.v3)))],T:=8},yH [(5,yV (aw (rotl t.v3 (UInt64.ofNat (Int.toNat (16:Int))))))],{hs:=[(8,yV (aw (rotl t.v3 (UInt64.ofNat (Int.toNat (16:Int)))^^^t.v2+t.v3)))],T:=8},{hs:=[(8,yV (aw (rotl (t.v0+t.v1) (UInt64.ofNat (Int.toNat (32:Int)))+(rotl t.v3 (UInt64.ofNat (Int.toNat (16:Int)))^^^t.v2+t.v3))))],T:=8},yH [(5,yV (aw (rotl (rotl t.v3 (UInt64.ofNat (Int.toNat (16:Int)))^^^t.v2+t.v3) (UInt64.ofNat (Int.toNat (21:Int))))))],{hs:=[(8,yV (aw (rotl (rotl t.v3 (UInt64.ofNat (Int.toNat (16:Int)))^^^t.v2+t.v3) (UInt64.ofNat (Int.toNat (21:Int)))^^^rotl (t.v0+t.v1) (UInt64.ofNat (Int.toNat (32:Int)))+(rotl t.v3 (UInt64.ofNat (Int.toNat (16:Int)))^^^t.v2+t.v3))))],T:=8},{hs:=[(8,yV (aw (t.v2+t.v3+(rotl t.v1 (UInt64.ofNat (Int.toNat (13:Int)))^^^t.v0+t.v1))))],T:=8},yH [(5,yV (aw (rotl (rotl t.v1 (UInt64.ofNat (Int.toNat (13:Int)))^^^t.v0+t.v1) (UInt64.ofNat (Int.toNat (17:Int))))))],{hs:=[(8,yV (aw (rotl (rotl t.v1 (UInt64.ofNat (Int.toNat (13:Int)))^^^t.v0+t.v1) (UInt64.ofNat (Int.toNat (17:Int)))^^^t.v2+t.v3+(rotl t.v1 (UInt64.ofNat (Int.toNat (13:Int)))^^^t.v0+t.v1))))],T:=8}] [.aa [6,4,0,1,5] [1000000000000]] [yR (aw (t.v0+t.v1)),yL 1 4,yI (ob t.v1 ((13:Int)) ah),yL 2 4,yI (cM (rotl t.v1 (UInt64.ofNat (Int.toNat (13:Int)))) (t.v0+t.v1)),yL 2 4,yI (ob (t.v0+t.v1) ((32:Int)) ah),yL 1 4,yR (aw (t.v2+t.v3)),yL 3 4,yI (ob t.v3 ((16:Int)) ah),yL 4 4,yI (cM (rotl t.v3 (UInt64.ofNat (Int.toNat (16:Int)))) (t.v2+t.v3)),yL 4 4,yR (aw (rotl (t.v0+t.v1) (UInt64.ofNat (Int.toNat (32:Int)))+(rotl t.v3 (UInt64.ofNat (Int.toNat (16:Int)))^^^t.v2+t.v3))),yL 1 4,yI (ob (rotl t.v3 (UInt64.ofNat (Int.toNat (16:Int)))^^^t.v2+t.v3) ((21:Int)) ah),yL 4 4,yI (cM (rotl (rotl t.v3 (UInt64.ofNat (Int.toNat (16:Int)))^^^t.v2+t.v3) (UInt64.ofNat (Int.toNat (21:Int)))) (rotl (t.v0+t.v1) (UInt64.ofNat (Int.toNat (32:Int)))+(rotl t.v3 (UInt64.ofNat (Int.toNat (16:Int)))^^^t.v2+t.v3))),yL 4 4,yR (aw (t.v2+t.v3+(rotl t.v1 (UInt64.ofNat (Int.toNat (13:Int)))^^^t.v0+t.v1))),yL 3 4,yI (ob (rotl t.v1 (UInt64.ofNat (Int.toNat (13:Int)))^^^t.v0+t.v1) ((17:Int)) ah),yL 2 4,yI (cM (rotl (rotl t.v1 (UInt64.ofNat (Int.toNat (13:Int)))^^^t.v0+t.v1) (UInt64.ofNat (Int.toNat (17:Int)))) (t.v2+t.v3+(rotl t.v1 (UInt64.ofNat (Int.toNat (13:Int)))^^^t.v0+t.v1))),yL 2 4]<|zX (yH [(5,yV (aw (rotl (t.v2+t.v3+(rotl t.v1 (UInt64.ofNat (Int.toNat (13:Int)))^^^t.v0+t.v1)) (UInt64.ofNat (Int.toNat (32:Int))))))]) [yI (ob (t.v2+t.v3+(rotl t.v1 (UInt64.ofNat (Int.toNat (13:Int)))^^^t.v0+t.v1)) ((32:Int)) ah),yL 3 4]<|aM<|ak<|zX (yH [(0,yV (ai ((↑i:Int)+1)))]) [yN ((↑i:Int)+1)] (aH (i+1) ah ah (eu [.aa [4,0,1,5] [1000000000000]] [] [1000000000000] [yB (((((((((((((((eW t).set 0 (aw (t.v0+t.v1))).set 1 (aw (rotl t.v1 (UInt64.ofNat (Int.toNat (13:Int)))))).set 1 (aw (rotl t.v1 (UInt64.ofNat (Int.toNat (13:Int)))^^^t.v0+t.v1))).set 0 (aw (rotl (t.v0+t.v1) (UInt64.ofNat (Int.toNat (32:Int)))))).set 2 (aw (t.v2+t.v3))).set 3 (aw (rotl t.v3 (UInt64.ofNat (Int.toNat (16:Int)))))).set 3 (aw (rotl t.v3 (UInt64.ofNat (Int.toNat (16:Int)))^^^t.v2+t.v3))).set 0 (aw (rotl (t.v0+t.v1) (UInt64.ofNat (Int.toNat (32:Int)))+(rotl t.v3 (UInt64.ofNat (Int.toNat (16:Int)))^^^t.v2+t.v3)))).set 3 (aw (rotl (rotl t.v3 (UInt64.ofNat (Int.toNat (16:Int)))^^^t.v2+t.v3) (UInt64.ofNat (Int.toNat (21:Int)))))).set 3 (aw (rotl (rotl t.v3 (UInt64.ofNat (Int.toNat (16:Int)))^^^t.v2+t.v3) (UInt64.ofNat (Int.toNat (21:Int)))^^^rotl (t.v0+t.v1) (UInt64.ofNat (Int.toNat (32:Int)))+(rotl t.v3 (UInt64.ofNat (Int.toNat (16:Int)))^^^t.v2+t.v3)))).set 2 (aw (t.v2+t.v3+(rotl t.v1 (UInt64.ofNat (Int.toNat (13:Int)))^^^t.v0+t.v1)))).set 1 (aw (rotl (rotl t.v1 (UInt64.ofNat (Int.toNat (13:Int)))^^^t.v0+t.v1) (UInt64.ofNat (Int.toNat (17:Int)))))).set 1 (aw (rotl (rotl t.v1 (UInt64.ofNat (Int.toNat (13:Int)))^^^t.v0+t.v1) (UInt64.ofNat (Int.toNat (17:Int)))^^^t.v2+t.v3+(rotl t.v1 (UInt64.ofNat (Int.toNat (13:Int)))^^^t.v0+t.v1)))).set 2 (aw (rotl (t.v2+t.v3+(rotl t.v1 (UInt64.ofNat (Int.toNat (13:Int)))^^^t.v0+t.v1)) (UInt64.ofNat (Int.toNat (32:Int)))))=eW (kH (i+1) s)) (by rw [dC];rfl)]))
 ·have e:i=n:=ah
  subst e
  refine zE 0<|aS<|aK<|bg (lq.tg [] (s2:=AS.mk [(6,ao (decide ((↑i:Int)<(↑i:Int)))),(4,ai ↑i),(0,AV.addr 1000000000000 0),(1,ai ↑i),(5,ai ↑i)] [(1000000000000,Row.mk 1 false true (eW (kH i s)))]) bt (C:=[eW (kH i s)=eW (kH i s)]) bt ⟨rfl,trivial⟩)
theorem sO (s:St) (m:UInt64):gm Tryz.prog 135 [.addr 1000000000000 0,aw m] (Hy s) (.bk []) (Hy (lO s m)):=by
 have N1:gm Tryz.prog 137 [.addr 1000000000000 0,ai 2] [(1000000000000,⟨1,false,true,[aw s.v0,aw s.v1,aw s.v2,aw (s.v3^^^m)]⟩)] (.bk []) (Hy (kH 2 (jF s m))):=sd (jF s m) 2 ah
 have e:lO s m=KA (kH 2 (jF s m)) m:=rfl
 rw [e]
 generalize kH 2 (jF s m)=t at *
 unfold Hy at *
 refine nj Tryz.func135 22<|zP 2 [yH [(5,yV (aw (s.v3^^^m)))],yH [(1,{av:=some (AV.bk []),ln:=[(1000000000000,1000000000000)],ho:=[(1000000000000,Row.mk 1 false true (eW t))]})]] [.aa [0,1] [1000000000000]] [yI (cM s.v3 m),yL 4 4,yI N1,yB (((eW s).set 3 (aw (s.v3^^^m))).length=(eW t).length∧0<(eW t).length) ⟨rfl,Nat.succ_pos _⟩]<|zX (yH [(5,yV (aw (t.v0^^^m)))]) [yI (cM t.v0 m),yL 1 4] (lq.tg [] (s2:=AS.mk [(21,AV.addr 1000000000000 0),(20,AV.addr 1000000000000 0),(19,aw (t.v0^^^m)),(18,aw m),(17,aw t.v0),(16,AV.addr 1000000000000 0),(15,AV.addr 1000000000000 0),(14,AV.addr 1000000000000 0),(0,AV.addr 1000000000000 0),(1,aw m)] [(1000000000000,Row.mk 1 false true ((List.map (gZ (inv [(1000000000000,1000000000000)])) (eW t)).set 0 (aw (t.v0^^^m))))]) bt (C:=[(List.map (gZ (inv [(1000000000000,1000000000000)])) (eW t)).set 0 (aw (t.v0^^^m))=eW (KA t m)]) bt ⟨rfl,trivial⟩)
theorem KD (n:Nat):u64 n=UInt64.ofNat n:=by
 unfold u64
 first|exact UInt64.ofInt_natCast n|exact UInt64.ofInt_ofNat n|(apply UInt64.toNat_inj.1;simp [UInt64.ofInt];omega)
theorem K9 (bs:List UInt8) {i:Nat} (h:i<bs.length) (h8:i<8):le (bs.take (i+1))=le (bs.take i)|||(bs.getD i 0).toUInt64<<<UInt64.ofNat (8*i):=by
 have hl:(bs.take i).length=i:=by rw [List.length_take];omega
 rw [List.take_add_one,List.getD_eq_getElem?_getD,List.getElem?_eq_getElem h]
 have:=yq (bs.take i) bs[i] ah
 rw [hl] at this
 exact this
theorem uK (bs:List UInt8) (h8:bs.length≤8):bC Tryz.prog 136 [.sl 1 (ag bs)] (aw (le bs)):=by
 refine zO Tryz.func136 22<|zQ 2 [{},{}] []<|zS<|zQ 1 [yH [(1,{k:=bs.length})]] [yI (aD bs)]<|zB 0 (zL (fun (i:Nat)=>(⟨[(7,ai (↑bs.length:Int)),(6,AV.sl 1 (ag bs)),(2,AV.val (Value.int .u64 0)),(0,AV.sl 1 (ag bs)),(8,ai i),(3,aw (le (bs.take i)))],[]⟩:AS)) (fun i=>(i≤bs.length)) (fun i=>(bs.length-i)) (0) ?_ (zW [.aa [7,6,2,0,8,3] []]) ?_)
 ·omega
 intro i hi
 refine zq<|zS (zD 9 ((↑i:Int)<(↑bs.length:Int)) (fun q=>?_) (fun q=>?_))
 ·have cX:i<bs.length:=ah
  have dC:=K9 bs cX ah
  have hm:IntKind.i64.wrap (8*(i:Int))=((8*i:Nat):Int):=by rw [IntKind.wrap_i64];omega
  refine aW<|zS<|zB 1<|zP 1 [yH [(1,{k:=i}),(2,yV (ab (bs.getD i 0)))]] [.aa [5,4,9,7,6,2,0,8,3] []] [yR (↑i:Int),yB (i<(ag bs).length) (by simp only [aD];omega),yB ((ag bs)[i]?=some (ab (bs.getD i 0))) (oB ah)]<|zX (yH [(2,yV (aw ((bs.getD i 0).toUInt64))),(4,yV (ai (↑(8*i):Int))),(5,yV (aw ((bs.getD i 0).toUInt64<<<UInt64.ofNat (8*i)))),(6,yV (aw (le (List.take i bs)|||(bs.getD i 0).toUInt64<<<UInt64.ofNat (8*i))))]) [yI (Eb (bs.getD i 0)),yB (ai (IntKind.i64.wrap ((8:Int)*(↑i:Int)))=ai (↑(8*i):Int)) (dE ah ah),yI (jD ((bs.getD i 0).toUInt64) ((↑(8*i):Int)) ah ah),yO ((0:Int)≤(↑(8*i):Int)),yI (pL (le (List.take i bs)) ((bs.getD i 0).toUInt64<<<UInt64.ofNat (8*i)))]<|aM<|ak<|zX (yH [(0,yV (ai ((↑i:Int)+1)))]) [yN ((↑i:Int)+1)] (aH (i+1) (by assumption) ah (eu [.aa [7,6,2,0,8,3] []] [3] [] [yB (aw (le (List.take i bs)|||(bs.getD i 0).toUInt64<<<UInt64.ofNat (8*i))=aw (le (List.take (i+1) bs))) (by rw [dC])]))
 ·have e:i=bs.length:=ah
  subst e
  rw [List.take_length]
  refine zE 0<|aS<|aK<|bg<|ak<|zq<|zR (bL)
theorem Fg (s:St):LJ s=(kH 4 (cR s 255)).v0^^^(kH 4 (cR s 255)).v1^^^(kH 4 (cR s 255)).v2^^^(kH 4 (cR s 255)).v3:=rfl
theorem Et (k0 k1:UInt64) (bs:List UInt8):bC Tryz.prog 89 [aw k0,aw k1,.sl 1 (ag bs)] (aw (sum k0 k1 bs)):=by
 refine bC.len 2 rfl fun hl=>?_
 rw [aD] at hl
 have hd:((bs.length:Int)).tdiv 8=((bs.length/8:Nat):Int):=by rw [Int.tdiv_eq_ediv_of_nonneg ah];rfl
 have Ko:IntKind.i64.wrap (((bs.length:Int)).tdiv 8)=((bs.length/8:Nat):Int):=by rw [hd,IntKind.wrap_i64];omega
 have hs:sum k0 k1 bs=LJ (lO (nh k0 k1 bs (bs.length/8)) (iV bs)):=by unfold sum;rfl
 rw [hs]
 refine zO Tryz.func89 63<|zP 3 [{},yH [(1,yV (aw (k0^^^(8317987319222330741:UInt64)))),(3,yV (aw (k1^^^(7237128888997146477:UInt64)))),(5,yV (aw (k0^^^(7816392313619706465:UInt64)))),(7,yV (aw (k1^^^(8387220255154660723:UInt64))))],yH [(1,{k:=bs.length}),(2,yV (ai (↑(bs.length/8):Int)))]] [.aa [8,7,6,0,1,2] [7]] [yI (cM k0 8317987319222330741),yI (cM k1 7237128888997146477),yI (cM k0 7816392313619706465),yI (cM k1 8387220255154660723),yL 4 4,yI (aD bs),yB (ai (IntKind.i64.wrap ((↑bs.length:Int).tdiv (8:Int)))=ai (↑(bs.length/8):Int)) (zC ah ah ah),yO ((8:Int)≠(0:Int))]<|zS<|zq<|zB 0 (zL (fun (i:Nat)=>(⟨[(22,ai (↑(bs.length/8):Int)),(8,ai (↑(bs.length/8):Int)),(7,AV.addr 7 0),(6,AV.val (Value.int .u64 0)),(0,aw k0),(1,aw k1),(2,AV.sl 1 (ag bs)),(23,ai i)],[(7,⟨1,false,true,eW (nh k0 k1 bs i)⟩)]⟩:AS)) (fun i=>(i≤bs.length/8)) (fun i=>(bs.length/8-i)) (0) ?_ (zW [.aa [22,8,7,6,0,1,2,23] [7]]) ?_)
 ·omega
 intro i hi
 refine zq<|zS (zD 24 ((↑i:Int)<(↑(bs.length/8):Int)) (fun q=>?_) (fun q=>?_))
 ·have cX:i<bs.length/8:=ah
  have hm:IntKind.i64.wrap (8*(i:Int))=((8*i:Nat):Int):=by rw [IntKind.wrap_i64];omega
  have IY:IntKind.i64.wrap (((8*i:Nat):Int)+8)=((8*i+8:Nat):Int):=by rw [IntKind.wrap_i64];omega
  have Rb:=uK ((bs.drop (8*i)).take 8) (by rw [List.length_take];omega)
  have Lz:=sO (nh k0 k1 bs i) (le ((bs.drop (8*i)).take 8))
  have PN:AV.sl 1 (List.take (8*i+8-8*i) (List.drop (8*i) (ag bs)))=AV.sl 1 (ag ((bs.drop (8*i)).take 8)):=by rw [show 8*i+8-8*i=8 by omega,sL,sK]
  have dC:nh k0 k1 bs (i+1)=lO (nh k0 k1 bs i) (le ((bs.drop (8*i)).take 8)):=rfl
  rw [←dC] at Lz
  unfold Hy at Lz
  refine aW<|zS<|zB 1<|zq<|zX (yH [(2,yV (ai (↑(8*i):Int))),(4,yV (ai (↑(8*i):Int))),(5,yV (ai (↑(8*i+8):Int))),(6,{av:=some (AV.sl 1 (ag (List.take 8 (List.drop (8*i) bs)))),k:=8*i,m:=8*i+8}),(7,yV (aw (le (List.take 8 (List.drop (8*i) bs))))),(8,{av:=some (AV.bk []),ln:=[(7,1000000000000)],ho:=[(1000000000000,Row.mk 1 false true (eW (nh k0 k1 bs (i+1))))]})]) (yM 2 (yB (ai (IntKind.i64.wrap ((8:Int)*(↑i:Int)))=ai (↑(8*i):Int)) (dE ah ah))++ [yB (ai (IntKind.i64.wrap ((↑(8*i):Int)+8))=ai (↑(8*i+8):Int)) (dE ah ah),yI PN,yR (↑(8*i):Int),yR (↑(8*i+8):Int),yO (8*i≤8*i+8),yB (8*i+8≤(ag bs).length) (by simp only [aD];omega),yI Rb,yI Lz,yB ((eW (nh k0 k1 bs i)).length=(eW (nh k0 k1 bs (i+1))).length∧0<(eW (nh k0 k1 bs (i+1))).length) ⟨rfl,Nat.succ_pos _⟩])<|aM<|ak<|bf.OG {hs:=[(0,{av:=some (ai ((↑i:Int)+1))})]} (s':=AS.mk [(23,ai ((↑i:Int)+1)),(35,ai ((↑i:Int)+1)),(34,AV.bk []),(33,aw (le (List.take 8 (List.drop (8*i) bs)))),(32,AV.sl 1 (ag (List.take 8 (List.drop (8*i) bs)))),(31,ai (↑(8*i+8):Int)),(30,ai (↑(8*i):Int)),(29,ai ↑i),(28,ai (↑(8*i):Int)),(27,ai ↑i),(26,AV.sl 1 (ag bs)),(9,ai ↑i),(25,ai ↑i),(24,ao (decide ((↑i:Int)<(↑(bs.length/8):Int)))),(22,ai (↑(bs.length/8):Int)),(8,ai (↑(bs.length/8):Int)),(7,AV.addr 7 0),(6,AV.val (Value.int .u64 0)),(0,aw k0),(1,aw k1),(2,AV.sl 1 (ag bs))] [(7,Row.mk 1 false true (List.map (gZ (inv [(7,1000000000000)])) (eW (nh k0 k1 bs (i+1)))))]) (C:=[ai (IntKind.i64.wrap ((↑i:Int)+1))=ai ((↑i:Int)+1)]) bt ⟨(dE ah ah),trivial⟩ (aH (i+1) (by assumption) ah (zW [.aa [22,8,7,6,0,1,2,23] [7]]))
 ·have ei:i=bs.length/8:=ah
  subst ei
  have hm:IntKind.i64.wrap (8*((bs.length/8:Nat):Int))=((8*(bs.length/8):Nat):Int):=by rw [IntKind.wrap_i64];omega
  have Rb:=uK (bs.drop (8*(bs.length/8))) (by rw [List.length_drop];omega)
  have Lz:=sO (nh k0 k1 bs (bs.length/8)) (iV bs)
  have Ms:iV bs=le (bs.drop (8*(bs.length/8)))|||u64 bs.length<<<56:=by unfold iV;rw [KD]
  generalize lO (nh k0 k1 bs (bs.length/8)) (iV bs)=A at *
  have Q8:gm Tryz.prog 137 [.addr 1000000000000 0,ai 4] [(1000000000000,⟨1,false,true,[aw A.v0,aw A.v1,aw (A.v2^^^255),aw A.v3]⟩)] (.bk []) (Hy (kH 4 (cR A 255))):=sd (cR A 255) 4 ah
  rw [Fg]
  generalize kH 4 (cR A 255)=R at *
  rw [Ms] at Lz
  replace Lz:gm Tryz.prog 135 [.addr 1000000000000 0,aw (le (bs.drop (8*(bs.length/8)))|||u64 bs.length<<<56)] (Hy (nh k0 k1 bs (bs.length/8))) (.bk []) [(1000000000000,⟨1,false,true,(eW A)⟩)]:=Lz
  replace Q8:gm Tryz.prog 137 [.addr 1000000000000 0,ai 4] [(1000000000000,⟨1,false,true,[aw A.v0,aw A.v1,aw (A.v2^^^255),aw A.v3]⟩)] (.bk []) [(1000000000000,⟨1,false,true,(eW R)⟩)]:=Q8
  unfold Hy at Lz Q8
  refine zE 0<|aS<|aK<|bg<|ak<|zP 4 [yH [(2,yV (ai (↑(8*(bs.length/8)):Int))),(3,{av:=some (AV.sl 1 (ag (List.drop (8*(bs.length/8)) bs))),k:=8*(bs.length/8)}),(4,yV (aw (le (List.drop (8*(bs.length/8)) bs)))),(6,{k:=bs.length}),(7,yV (aw (u64 (↑bs.length:Int)))),(8,yV (aw (u64 (↑bs.length:Int)<<<(56:UInt64)))),(9,yV (aw (le (List.drop (8*(bs.length/8)) bs)|||u64 (↑bs.length:Int)<<<(56:UInt64)))),(10,{av:=some (AV.bk []),ln:=[(7,1000000000000)],ho:=[(1000000000000,Row.mk 1 false true (eW A))]})],yH [(2,yV (aw (A.v2^^^(255:UInt64))))],yH [(0,{av:=some (AV.bk []),ln:=[(7,1000000000000)],ho:=[(1000000000000,Row.mk 1 false true (eW R))]})],yH [(4,yV (aw (R.v0^^^R.v1))),(7,yV (aw (R.v0^^^R.v1^^^R.v2))),(10,yV (aw (R.v0^^^R.v1^^^R.v2^^^R.v3)))]] [.aa [6,24,22,8,7,0,1,2,23] [7]] [yB (ai (IntKind.i64.wrap ((8:Int)*(↑(bs.length/8):Int)))=ai (↑(8*(bs.length/8)):Int)) (dE ah ah),yB (AV.sl 1 (List.drop (8*(bs.length/8)) (ag bs))=AV.sl 1 (ag (List.drop (8*(bs.length/8)) bs))) (congrArg (AV.sl 1) (sL _ _)),yR (↑(8*(bs.length/8)):Int),yB (8*(bs.length/8)≤(ag bs).length) (by simp only [aD];omega),yI Rb,yI (aD bs),yI (ba ((↑bs.length:Int))),yI (jD (u64 (↑bs.length:Int)) ((56:Int)) ah ah),yO ((0:Int)≤56),yI (pL (le (List.drop (8*(bs.length/8)) bs)) (u64 (↑bs.length:Int)<<<(56:UInt64))),yI Lz,yB ((eW (nh k0 k1 bs (bs.length/8))).length=(eW A).length∧0<(eW A).length) ⟨rfl,Nat.succ_pos _⟩,yI (cM A.v2 255),yL 3 4,yI Q8,yB ([aw A.v0,aw A.v1,aw (A.v2^^^(255:UInt64)),aw A.v3].length=(eW R).length∧0<(eW R).length) ⟨rfl,Nat.succ_pos _⟩,yI (cM R.v0 R.v1),yI (cM (R.v0^^^R.v1) R.v2),yI (cM (R.v0^^^R.v1^^^R.v2) R.v3)]<|zR (bL)
theorem tL (l:List UInt64) {i:Nat} (h:i<l.length):words (l.take (i+1))=words (l.take i)++be (l.getD i 0):=by
 rw [List.take_add_one,wA,List.getD_eq_getElem?_getD,List.getElem?_eq_getElem h]
 show _++(be l[i]++ [])=_
 rw [List.append_nil];rfl
theorem J6 (x:UInt64):(be x).length=8:=rfl
theorem lR (l:List UInt64) (hl:l.length≤1000000):bC Tryz.prog 88 [.sl 1 (aj l)] (.own 1 (ag (words l))):=by
 have hm:IntKind.i64.wrap (8*(l.length:Int))=((8*l.length:Nat):Int):=by rw [IntKind.wrap_i64];omega
 refine zO Tryz.func88 32<|zP 2 [{},yH [(1,{k:=l.length}),(2,yV (ai (↑(8*l.length):Int))),(3,{av:=some (AV.arr (ag (List.replicate 0 0))),k:=0,m:=8*l.length})]] [.aa [3,2,0] [10]] [yI (aC l),yB (ai (IntKind.i64.wrap ((8:Int)*(↑l.length:Int)))=ai (↑(8*l.length):Int)) (dE ah ah),yR (ag (List.replicate 0 0)),yR (0:Int),yR (↑(8*l.length):Int),yO (0≤8*l.length),yO (1*(8*l.length)≤281474976710656),yB (8*l.length≤maxLen) (by unfold maxLen;omega)]<|zS<|zQ 1 [yH [(1,{k:=l.length})]] [yI (aC l)]<|zB 0 (zL (fun (i:Nat)=>(⟨[(12,ai (↑l.length:Int)),(11,AV.sl 1 (aj l)),(2,AV.nil),(0,AV.sl 1 (aj l)),(13,ai i),(3,AV.ref 10)],[(10,⟨1,true,false,ag (words (l.take i))⟩)]⟩:AS)) (fun i=>(i≤l.length)) (fun i=>(l.length-i)) (0) ?_ (zW [.aa [12,11,2,0,13,3] [10]]) ?_)
 ·omega
 intro i hi
 refine zq<|zS (zD 14 ((↑i:Int)<(↑l.length:Int)) (fun q=>?_) (fun q=>?_))
 ·have cX:i<l.length:=ah
  have dC:=tL l cX
  have Q4:=dW (l.take i)
  rw [List.length_take] at Q4
  have lJ:=J6 (l.getD i 0)
  refine aW<|zS<|zB 1<|zP 2 [yH [(0,{k:=i}),(1,yV (aw (l.getD i 0)))],{}] [.aa [17,5,14,12,11,2,0,13,3] [10]] [yR (↑i:Int),yB (i<(aj l).length) (by simp only [aC];omega),yB ((aj l)[i]?=some (aw (l.getD i 0))) (dK ah)]<|zB 2 (zL (fun (k:Nat)=>(⟨[(5,aw (l.getD i 0)),(14,ao (decide ((↑i:Int)<(↑l.length:Int)))),(12,ai (↑l.length:Int)),(11,AV.sl 1 (aj l)),(2,AV.nil),(0,AV.sl 1 (aj l)),(13,ai ↑i),(17,ai k),(3,AV.ref 10)],[(10,⟨1,true,false,ag (words (l.take i)++(be (l.getD i 0)).take k)⟩)]⟩:AS)) (fun k=>(k≤8)) (fun k=>(8-k)) (0) ?_ (eu [.aa [5,14,12,11,2,0,13,17,3] [10]] [] [10] [yB (ag (words (List.take i l))=ag (words (List.take i l)++List.take 0 (be (l.getD i 0)))) (by rw [List.take_zero,List.append_nil])]) ?_)
  ·omega
  intro k hk
  have Bl:((be (l.getD i 0)).take k).length≤8:=by rw [List.length_take];omega
  refine zq<|zS (zD 18 ((↑k:Int)<8) (fun q2=>?_) (fun q2=>?_))
  ·have pB:k<8:=ah
   have E9:=Fo (l.getD i 0) k pB
   have Gg:IntKind.i64.wrap (8*(k:Int))=((8*k:Nat):Int):=by rw [IntKind.wrap_i64];omega
   have IY:IntKind.i64.wrap (56-((8*k:Nat):Int))=((56-8*k:Nat):Int):=by rw [IntKind.wrap_i64];omega
   refine aW<|zS<|zB 3<|zq<|zX (yH [(3,yV (ai (↑(8*k):Int))),(4,yV (ai (↑(56-8*k):Int))),(5,yV (aw (l.getD i (0:UInt64)>>>UInt64.ofNat (56-8*k)))),(6,yV (ab ((l.getD i (0:UInt64)>>>UInt64.ofNat (56-8*k)).toUInt8))),(7,yV (AV.arr (ag [(l.getD i (0:UInt64)>>>UInt64.ofNat (56-8*k)).toUInt8]))),(8,yV (AV.arr (ag (words (List.take i l)++List.take k (be (l.getD i 0))++ [(l.getD i (0:UInt64)>>>UInt64.ofNat (56-8*k)).toUInt8]))))]) [yB (ai (IntKind.i64.wrap ((8:Int)*(↑k:Int)))=ai (↑(8*k):Int)) (dE ah ah),yI (yc IY),yI (fq (l.getD i 0) ((↑(56-8*k):Int)) ah ah),yO ((0:Int)≤(↑(56-8*k):Int)),yR (ab ((l.getD i (0:UInt64)>>>UInt64.ofNat (56-8*k)).toUInt8)),yR [ab ((l.getD i (0:UInt64)>>>UInt64.ofNat (56-8*k)).toUInt8)],yB (ag (words (List.take i l)++List.take k (be (l.getD i 0)))++ag [(l.getD i (0:UInt64)>>>UInt64.ofNat (56-8*k)).toUInt8]=ag (words (List.take i l)++List.take k (be (l.getD i 0))++ [(l.getD i (0:UInt64)>>>UInt64.ofNat (56-8*k)).toUInt8])) (da _ _),yB (((ag (words (List.take i l)++List.take k (be (l.getD i 0)))).length+1)*1≤140737488355328) (by simp only [aD,List.length_append];omega)]<|aM<|ak<|zX (yH [(0,yV (ai ((↑k:Int)+1)))]) [yN ((↑k:Int)+1)] (aH (k+1) (by assumption) ah (eu [.vK 28 10,.aa [5,14,12,11,2,0,13,17,3] [10]] [] [10] [yB (ag (words (List.take i l)++List.take k (be (l.getD i 0))++ [(l.getD i (0:UInt64)>>>UInt64.ofNat (56-8*k)).toUInt8])=ag (words (List.take i l)++List.take (k+1) (be (l.getD i 0)))) (by rw [E9,←List.append_assoc])]))
  ·have ek:k=8:=ah
   subst ek
   refine zE 2<|aS<|aK<|bg<|aM<|ak<|zX (yH [(0,yV (ai ((↑i:Int)+1)))]) [yN ((↑i:Int)+1)] (aH (i+1) (by assumption) ah (eu [.aa [12,11,2,0,13,3] [10]] [] [10] [yB (ag (words (List.take i l)++List.take 8 (be (l.getD i 0)))=ag (words (List.take (i+1) l))) (by rw [dC];rfl)]))
 ·have ei:i=l.length:=ah
  subst ei
  rw [List.take_length]
  refine zE 0<|aS<|aK<|bg<|ak<|zq<|zR (bL)
theorem nQ (d:Int) (bs:List UInt8):bC Tryz.prog 44 [ai d,.sl 1 (ag bs)] (aw (hash d bs)):=by
 refine zO Tryz.func44 9<|zP 2 [{},yH [(1,yV (aw (u64 d))),(3,yV (aw (sum (u64 d) 0 bs)))]] [.aa [4,0,1] []] [yI (ba d),yI (Et (u64 d) 0 bs)]<|zR (bL)
theorem K5 (key:UInt64) (d:Int) (bs:List UInt8):bC Tryz.prog 167 [aw key,ai d,.sl 1 (ag bs)] (aw (z1 key d bs)):=by
 refine zO Tryz.func167 13<|zP 2 [{},yH [(2,yV (aw (u64 d))),(3,yV (aw (1+u64 d))),(5,yV (aw (sum key (1+u64 d) bs)))]] [.aa [6,0,1,2] []] [yI (ba d),yR (aw (1+u64 d)),yI (Et key (1+u64 d) bs)]<|zR (bL)
end Go.Proofs.YtjgbhhnghedgdaaGreatDoor
