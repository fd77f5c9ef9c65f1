import Derived.Test.YtjgbhhnghedgdaaGreatDoorZfGrB3
set_option linter.all false
namespace Go.Proofs.YtjgbhhnghedgdaaGreatDoor
open Go.RowKit
set_option maxRecDepth 100000
set_option maxHeartbeats 4000000
theorem dp (n:UInt64):bA Tryz.prog 83 [aw n] (.agg (bn (aL n))):=by
 refine zO Tryz.func83 5<|zP 2 [{},{}] [.aa [2,0] [2]] [yL 3 3]<|zR (bL)
theorem kD (b:List UInt8):bA Tryz.prog 130 [di b] (.agg (bn (cL b))):=by
 refine zO Tryz.func130 5<|zP 2 [{},{}] [.aa [2,0] [2]] [yL 3 3]<|zR (bL)
theorem oG (b:List UInt8) (hb:b.length≤1000000):bA Tryz.prog 131 [.sl 1 (ah b)] (.agg (bn (fj b))):=by
 refine zO Tryz.func131 6<|zP 2 [{},yH [(1,yV (di b))]] [.aa [2,0] [2]] [yR (ah b),yL 3 3]<|zR (bL)
theorem mh (n:Int):bA Tryz.prog 81 [ai n] (.agg (bn (bG (u64 n)))):=by
 refine zO Tryz.func81 6<|zP 2 [{},yH [(1,yV (aw (u64 n)))]] [.aa [2,0] [2]] [yI (a8 n),yL 3 3]<|zR (bL)
def nr (x:fP):UInt64:=if x.kind=3∨x.kind=4 then u64 x.cJ.length else x.num
theorem MK (x:fP) (h:x.kind=3∨x.kind=4∨x.cJ= []):gS x=bW (u8 (x.kind-1)) (nr x)++x.cJ:=by
 unfold gS nr
 by_cases c:x.kind=3∨x.kind=4
 ·rw [if_pos c,if_pos c]
 ·rw [if_neg c,if_neg c,show x.cJ= [] by rcases h with h|h|h;exact absurd (.inl h) c;exact absurd (.inr h) c;exact h,List.append_nil]
theorem R0 (n:UInt64):words [n]=nz n 8 8:=rfl
theorem Mo {m:UInt8} {n:UInt64} (h:wv n<24):bW m n= [m<<<5+n.toUInt8]:=if_pos h
theorem O4 {m:UInt8} {n:UInt64} (h1:¬wv n<24) (h:wv n<256):bW m n= [m<<<5+24,n.toUInt8]:=by unfold bW;rw [if_neg h1,if_pos h];simp [nz]
theorem O3 {m:UInt8} {n:UInt64} (h1:¬wv n<256) (h:wv n<65536):bW m n= [m<<<5+25,(n>>>8).toUInt8,n.toUInt8]:=by unfold bW;rw [if_neg ag,if_neg h1,if_pos h];simp [nz,List.range_succ]
theorem OZ {m:UInt8} {n:UInt64} (h1:¬wv n<65536) (h:wv n<4294967296):bW m n= [m<<<5+26,(n>>>24).toUInt8,(n>>>16).toUInt8,(n>>>8).toUInt8,n.toUInt8]:=by unfold bW;rw [if_neg ag,if_neg ag,if_neg h1,if_pos h];simp [nz,List.range_succ]
theorem OY {m:UInt8} {n:UInt64} (h1:¬wv n<4294967296):bW m n=(m<<<5+27)::words [n]:=by unfold bW;rw [if_neg ag,if_neg ag,if_neg ag,if_neg h1,R0]
theorem Bs (x:fP) (hk:fg x.kind) (hd:x.cJ.length≤100000):bA Tryz.prog 133 [.agg (bn x)] (.own 1 (ah (bW (u8 (x.kind-1)) (nr x)))):=by
 refine zO Tryz.func133 87<|zP 3 [{},{},{}] [.aa [4,3,2,1,0] [1]] [] (bf.pr (fun (p:UInt64×UInt8)=>(⟨[(1,AV.addr 1 0),(0,AV.agg (bn x)),(3,aw p.1),(4,ab p.2)],[(1,⟨1,false,true,List.map (aH 1) (bn x)⟩)]⟩:AS)) (fun p=>(p=(nr x,u8 (x.kind-1)<<<5))) bC ?_ ?_)
 ·rcases hk with k|k|k|k
  ·have e:nr x=x.num:=if_neg ag
   have e2:u8 (x.kind-1)<<<5=0:=by rw [k];decide
   refine zq<|zB 0<|zP 1 [{}] [.aa [9,8,4,3,2,1,0] [1]] []<|bj 9 (x.kind == (7:Int)) bx<|zq<|bj 15 (x.kind == (8:Int)) bx<|zP 1 [{}] [.aa [18,15,9,8,4,3,2,1,0] [1]] []<|bj 18 (x.kind == (2:Int)) bx<|zq<|bj 20 (x.kind == (3:Int)) bx<|zP 1 [{}] [.aa [26,20,18,15,9,8,4,3,2,1,0] [1]] []<|bj 26 (x.kind == (4:Int)) bx<|zq<|bj 32 (x.kind == (5:Int)) bx<|zP 1 [{}] [.aa [34,32,26,20,18,15,9,8,4,3,2,1,0] [1]] []<|bj 34 (x.kind == (6:Int)) bx<|zK<|aK<|al (⟨(nr x,u8 (x.kind-1)<<<5),rfl,(eX [.aa [1,0,3,4] [1]] [3,4] [] [yB (aw x.num=aw (nr x)) (by rw [e]),yB (AV.val (Value.int .u8 0)=ab (u8 (x.kind-1)<<<(5:UInt8))) (by rw [e2];rfl)])⟩)
  ·have e:nr x=u64 x.cJ.length:=if_pos (.inl k)
   have e2:u8 (x.kind-1)<<<5=64:=by rw [k];decide
   refine zq<|zB 0<|zP 1 [{}] [.aa [9,8,4,3,2,1,0] [1]] []<|bj 9 (x.kind == (7:Int)) bx<|zq<|bj 15 (x.kind == (8:Int)) bx<|zP 1 [{}] [.aa [18,15,9,8,4,3,2,1,0] [1]] []<|bj 18 (x.kind == (2:Int)) bx<|zq<|du 20 (x.kind == (3:Int)) fh<|zX ({hs:=[(2,yV (ai (↑x.cJ.length:Int))),(3,yV (aw (u64 (↑x.cJ.length:Int))))],T:=5}) [yR (ai (↑x.cJ.length:Int)),yI (a8 ((↑x.cJ.length:Int)))]<|aK<|al (⟨(nr x,u8 (x.kind-1)<<<5),rfl,(eX [.aa [1,0,3,4] [1]] [3,4] [] [yB (aw (u64 (↑x.cJ.length:Int))=aw (nr x)) (by rw [e]),yB (AV.val (Value.int .u8 64)=ab (u8 (x.kind-1)<<<(5:UInt8))) (by rw [e2];rfl)])⟩)
  ·have e:nr x=u64 x.cJ.length:=if_pos (.inr k)
   have e2:u8 (x.kind-1)<<<5=96:=by rw [k];decide
   refine zq<|zB 0<|zP 1 [{}] [.aa [9,8,4,3,2,1,0] [1]] []<|bj 9 (x.kind == (7:Int)) bx<|zq<|bj 15 (x.kind == (8:Int)) bx<|zP 1 [{}] [.aa [18,15,9,8,4,3,2,1,0] [1]] []<|bj 18 (x.kind == (2:Int)) bx<|zq<|bj 20 (x.kind == (3:Int)) bx<|zP 1 [{}] [.aa [26,20,18,15,9,8,4,3,2,1,0] [1]] []<|du 26 (x.kind == (4:Int)) fh<|zX ({hs:=[(2,yV (ai (↑x.cJ.length:Int))),(3,yV (aw (u64 (↑x.cJ.length:Int))))],T:=5}) [yR (ai (↑x.cJ.length:Int)),yI (a8 ((↑x.cJ.length:Int)))]<|aK<|al (⟨(nr x,u8 (x.kind-1)<<<5),rfl,(eX [.aa [1,0,3,4] [1]] [3,4] [] [yB (aw (u64 (↑x.cJ.length:Int))=aw (nr x)) (by rw [e]),yB (AV.val (Value.int .u8 96)=ab (u8 (x.kind-1)<<<(5:UInt8))) (by rw [e2];rfl)])⟩)
  ·have e:nr x=x.num:=if_neg ag
   have e2:u8 (x.kind-1)<<<5=128:=by rw [k];decide
   refine zq<|zB 0<|zP 1 [{}] [.aa [9,8,4,3,2,1,0] [1]] []<|bj 9 (x.kind == (7:Int)) bx<|zq<|bj 15 (x.kind == (8:Int)) bx<|zP 1 [{}] [.aa [18,15,9,8,4,3,2,1,0] [1]] []<|bj 18 (x.kind == (2:Int)) bx<|zq<|bj 20 (x.kind == (3:Int)) bx<|zP 1 [{}] [.aa [26,20,18,15,9,8,4,3,2,1,0] [1]] []<|bj 26 (x.kind == (4:Int)) bx<|zq<|du 32 (x.kind == (5:Int)) fh<|zX {} []<|aK<|al (⟨(nr x,u8 (x.kind-1)<<<5),rfl,(eX [.aa [1,0,3,4] [1]] [3,4] [] [yB (aw x.num=aw (nr x)) (by rw [e]),yB (AV.val (Value.int .u8 128)=ab (u8 (x.kind-1)<<<(5:UInt8))) (by rw [e2];rfl)])⟩)
 rintro ⟨n,M⟩ hp
 injection hp with hn hM
 rw [←hn]
 clear hn
 simp only
 by_cases c1:wv n<24
 ·have e:=Mo (m:=u8 (x.kind-1)) c1
  rw [←hM] at e
  rw [e]
  refine zS<|zB 1<|zP 1 [{}] [.aa [36,1,0,3,4] [1]] []<|gX 36 (wv n<24)<|zP 1 [yH [(2,yV (ab n.toUInt8)),(3,yV (ab (M+n.toUInt8))),(4,yV (AV.arr (ah [M+n.toUInt8])))]] [.aa [2,36,1,0,3,4] [43,1]] [yR (ab n.toUInt8),yR (ab (M+n.toUInt8)),yR [ab (M+n.toUInt8)]]<|zR<|ba<|aI (bL)
 by_cases c2:wv n<256
 ·have e:=O4 (m:=u8 (x.kind-1)) c1 c2
  rw [←hM] at e
  rw [e]
  refine zS<|zB 1<|zP 1 [{}] [.aa [36,1,0,3,4] [1]] []<|dm 36 (wv n<24)<|zP 1 [{}] [.aa [44,36,1,0,3,4] [1]] []<|gX 44 (wv n<256)<|zP 1 [yH [(1,yV (ab (M+24))),(3,yV (ab n.toUInt8)),(4,yV (AV.arr (ah [M+24,n.toUInt8])))]] [.aa [2,44,36,1,0,3,4] [51,1]] [yR (ab (M+24)),yR (ab n.toUInt8),yR (ah [M+24,n.toUInt8])]<|zR<|ba<|aI (bL)
 by_cases c3:wv n<65536
 ·have e:=O3 (m:=u8 (x.kind-1)) c2 c3
  rw [←hM] at e
  rw [e]
  refine zS<|zB 1<|zP 1 [{}] [.aa [36,1,0,3,4] [1]] []<|dm 36 (wv n<24)<|zP 1 [{}] [.aa [44,36,1,0,3,4] [1]] []<|dm 44 (wv n<256)<|zP 1 [{}] [.aa [52,44,36,1,0,3,4] [1]] []<|gX 52 (wv n<65536)<|zP 1 [yH [(1,yV (ab (M+25))),(3,yV (aw (n>>>(8:UInt64)))),(4,yV (ab ((n>>>(8:UInt64)).toUInt8))),(6,yV (ab n.toUInt8)),(7,yV (AV.arr (ah [M+25,(n>>>(8:UInt64)).toUInt8,n.toUInt8])))]] [.aa [2,52,44,36,1,0,3,4] [62,1]] [yR (ab (M+25)),yI (fE n ((8:Int)) ag ag),yO ((0:Int)≤8),yR (ab ((n>>>(8:UInt64)).toUInt8)),yR (ab n.toUInt8),yR (ah [M+25,(n>>>(8:UInt64)).toUInt8,n.toUInt8])]<|zR<|ba<|aI (bL)
 by_cases c4:wv n<4294967296
 ·have e:=OZ (m:=u8 (x.kind-1)) c3 c4
  rw [←hM] at e
  rw [e]
  refine zS<|zB 1<|zP 1 [{}] [.aa [36,1,0,3,4] [1]] []<|dm 36 (wv n<24)<|zP 1 [{}] [.aa [44,36,1,0,3,4] [1]] []<|dm 44 (wv n<256)<|zP 1 [{}] [.aa [52,44,36,1,0,3,4] [1]] []<|dm 52 (wv n<65536)<|zP 1 [{}] [.aa [63,52,44,36,1,0,3,4] [1]] []<|gX 63 (wv n<4294967296)<|zP 1 [yH [(1,yV (ab (M+26))),(3,yV (aw (n>>>(24:UInt64)))),(4,yV (ab ((n>>>(24:UInt64)).toUInt8))),(6,yV (aw (n>>>(16:UInt64)))),(7,yV (ab ((n>>>(16:UInt64)).toUInt8))),(9,yV (aw (n>>>(8:UInt64)))),(10,yV (ab ((n>>>(8:UInt64)).toUInt8))),(12,yV (ab n.toUInt8)),(13,yV (AV.arr (ah [M+26,(n>>>(24:UInt64)).toUInt8,(n>>>(16:UInt64)).toUInt8,(n>>>(8:UInt64)).toUInt8,n.toUInt8])))]] [.aa [2,63,52,44,36,1,0,3,4] [79,1]] [yR (ab (M+26)),yI (fE n ((24:Int)) ag ag),yO ((0:Int)≤24),yR (ab ((n>>>(24:UInt64)).toUInt8)),yI (fE n ((16:Int)) ag ag),yO ((0:Int)≤16),yR (ab ((n>>>(16:UInt64)).toUInt8)),yI (fE n ((8:Int)) ag ag),yO ((0:Int)≤8),yR (ab ((n>>>(8:UInt64)).toUInt8)),yR (ab n.toUInt8),yR (ah [M+26,(n>>>(24:UInt64)).toUInt8,(n>>>(16:UInt64)).toUInt8,(n>>>(8:UInt64)).toUInt8,n.toUInt8])]<|zR<|ba<|aI (bL)
 ·have e:=OY (m:=u8 (x.kind-1)) c4
  rw [←hM] at e
  rw [e]
  refine zS<|zB 1<|zP 1 [{}] [.aa [36,1,0,3,4] [1]] []<|dm 36 (wv n<24)<|zP 1 [{}] [.aa [44,36,1,0,3,4] [1]] []<|dm 44 (wv n<256)<|zP 1 [{}] [.aa [52,44,36,1,0,3,4] [1]] []<|dm 52 (wv n<65536)<|zP 1 [{}] [.aa [63,52,44,36,1,0,3,4] [1]] []<|dm 63 (wv n<4294967296)<|zK<|aK<|al<|zP 1 [yH [(1,yV (ab (M+27))),(2,yV (AV.arr (ah [M+27]))),(4,yV (AV.arr (aj [n]))),(5,yV (AV.own 1 (ah (words [n])))),(6,yV (AV.arr (ah ([M+27]++words [n]))))]] [.aa [2,63,52,44,36,1,0,3,4] [86,1]] [yR (ab (M+27)),yR [ab (M+27)],yR [aw n],yI (dG [n] (by simp only [List.length_cons,List.length_nil];omega)),yI (aQ (words [n])),yR (ah ([M+27]++words [n])),yL 9 140737488355328]<|zR (bL)
theorem vy {T:Type} (f:T->fP) (p:List fP) (l:List T) {i:Nat} (h:i<l.length) (z:T):ae bn (p++(l.take i).map f)++bn (f (l.getD i z))=ae bn (p++(l.take (i+1)).map f):=by
 rw [List.take_add_one,List.map_append,←List.append_assoc,List.getD_eq_getElem?_getD,List.getElem?_eq_getElem h]
 exact fT (p++(l.take i).map f) [f l[i]]
theorem Dq (d:oD) (hB:AG d):bA Tryz.prog 132 [.agg (bk d)] (.b_ [.own 3 (ae bn (if fZ d=0 then wC d else [])),ai (fZ d)]):=by
 have tK:(ae au d.af).length=d.af.length:=by rw [aA (e:=1) (fun _=>rfl)];omega
 obtain ⟨b1,b2,b3,hh⟩:=hB
 by_cases c1:1024<d.box.length
 ·have e:fZ d=8:=if_pos c1
  rw [e,if_neg ag]
  refine zO Tryz.func132 102<|zq<|zS<|zB 0<|zP 1 [yH [(2,{k:=d.box.length})]] [.aa [8,3,2,1,0] [1]] [yI (aB d.box)]<|gX 8 ((↑d.box.length:Int)>1024)<|zq<|zR<|ba<|aI (bL)
 by_cases c2:ow d.af.length d.need
 ·have e:fZ d=9:=by unfold fZ;rw [if_neg c1,if_pos c2]
  unfold ow at c2
  rw [e,if_neg ag]
  by_cases k1:1≤d.af.length∧d.af.length≤8
  ·have k2:¬(1≤d.need∧d.need≤d.af.length):=ag
   have UQ:1≤(d.af.length:Int)∧(d.af.length:Int)≤8:=ag
   refine zO Tryz.func132 102<|zq<|zS<|zB 0<|zP 1 [yH [(2,{k:=d.box.length})]] [.aa [8,3,2,1,0] [1]] [yI (aB d.box)]<|dm 8 ((↑d.box.length:Int)>1024)<|zP 1 [yH ([(2,{k:=(ae au d.af).length}),(3,yC (aM ((↑(ae au d.af).length:Int)) ((1:Int)) ((8:Int)))),(10,{k:=(ae au d.af).length,g:=false}),(11,{av:=some (ao (decide ((1:Int)≤d.need∧d.need≤(↑(ae au d.af).length:Int)))),g:=false}),(13,{b:=false})]++yg [6,7,8,9,12])] [.aa [13,8,3,2,1,0] [1]] ([yR ((ae au d.af).length),yI (aM (↑(ae au d.af).length:Int) ((1:Int)) ((8:Int)))]++yM 5 (yS ((!decide ((1:Int)≤(↑(ae au d.af).length:Int)∧(↑(ae au d.af).length:Int)≤8))=false))++ [yR ((ae au d.af).length),yS ((!decide ((1:Int)≤(↑(ae au d.af).length:Int)∧(↑(ae au d.af).length:Int)≤8))=false),yI (aM d.need ((1:Int)) (↑(ae au d.af).length:Int))]++yM 2 (yS ((!decide ((1:Int)≤(↑(ae au d.af).length:Int)∧(↑(ae au d.af).length:Int)≤8))=false)))<|du 13 (!decide ((1:Int)≤d.need∧d.need≤(↑(ae au d.af).length:Int))) (by simp;omega)<|zq<|zR<|ba<|aI (bL)
  ·have UQ:¬(1≤(d.af.length:Int)∧(d.af.length:Int)≤8):=ag
   refine zO Tryz.func132 102<|zq<|zS<|zB 0<|zP 1 [yH [(2,{k:=d.box.length})]] [.aa [8,3,2,1,0] [1]] [yI (aB d.box)]<|dm 8 ((↑d.box.length:Int)>1024)<|zP 1 [yH [(2,{k:=(ae au d.af).length}),(3,yC (aM ((↑(ae au d.af).length:Int)) ((1:Int)) ((8:Int))))]] [.aa [13,8,3,2,1,0] [1]] ([yR ((ae au d.af).length),yI (aM (↑(ae au d.af).length:Int) ((1:Int)) ((8:Int)))]++yM 8 (yB ((!decide ((1:Int)≤(↑(ae au d.af).length:Int)∧(↑(ae au d.af).length:Int)≤8))=true) (by simp;omega)))<|zT 13<|zq<|zR<|ba<|aI (bL)
 unfold ow at c2
 have UQ:1≤(d.af.length:Int)∧(d.af.length:Int)≤8:=ag
 have Sf:1≤d.need∧d.need≤(d.af.length:Int):=ag
 by_cases c3:d.ay.length≠d.af.length
 ·have e:fZ d=4:=by unfold fZ;rw [if_neg c1,if_neg (by unfold ow;exact c2),if_pos c3]
  rw [e,if_neg ag]
  refine zO Tryz.func132 102<|zq<|zS<|zB 0<|zP 1 [yH [(2,{k:=d.box.length})]] [.aa [8,3,2,1,0] [1]] [yI (aB d.box)]<|dm 8 ((↑d.box.length:Int)>1024)<|zP 1 [yH ([(2,{k:=(ae au d.af).length}),(3,yC (aM ((↑(ae au d.af).length:Int)) ((1:Int)) ((8:Int)))),(10,{k:=(ae au d.af).length,g:=false}),(11,{av:=some (ao (decide ((1:Int)≤d.need∧d.need≤(↑(ae au d.af).length:Int)))),g:=false}),(13,{b:=false})]++yg [6,7,8,9,12])] [.aa [13,8,3,2,1,0] [1]] ([yR ((ae au d.af).length),yI (aM (↑(ae au d.af).length:Int) ((1:Int)) ((8:Int)))]++yM 5 (yS ((!decide ((1:Int)≤(↑(ae au d.af).length:Int)∧(↑(ae au d.af).length:Int)≤8))=false))++ [yR ((ae au d.af).length),yS ((!decide ((1:Int)≤(↑(ae au d.af).length:Int)∧(↑(ae au d.af).length:Int)≤8))=false),yI (aM d.need ((1:Int)) (↑(ae au d.af).length:Int))]++yM 2 (yS ((!decide ((1:Int)≤(↑(ae au d.af).length:Int)∧(↑(ae au d.af).length:Int)≤8))=false)))<|bj 13 (!decide ((1:Int)≤d.need∧d.need≤(↑(ae au d.af).length:Int))) (by simp_all)<|zP 1 [yH [(2,{k:=d.ay.length}),(5,{k:=(ae au d.af).length})]] [.aa [28,13,8,3,2,1,0] [1]] [yI (aE d.ay),yR ((ae au d.af).length)]<|du 28 ((↑d.ay.length:Int) != (↑(ae au d.af).length:Int)) (by simp;omega)<|zq<|zR<|ba<|aI (bL)
 have e:fZ d=ff (nt d.af) d.af.length:=by unfold fZ;rw [if_neg c1,if_neg (by unfold ow;exact c2),if_neg c3]
 have Xs:d.ay.length=d.af.length:=ag
 have hr:=i7 d.af b2 hh
 rw [←e] at hr
 by_cases c:fZ d=0
 case neg =>
  rw [if_neg c]
  refine zO Tryz.func132 102<|zq<|zS<|zB 0<|zP 1 [yH [(2,{k:=d.box.length})]] [.aa [8,3,2,1,0] [1]] [yI (aB d.box)]<|dm 8 ((↑d.box.length:Int)>1024)<|zP 1 [yH ([(2,{k:=(ae au d.af).length}),(3,yC (aM ((↑(ae au d.af).length:Int)) ((1:Int)) ((8:Int)))),(10,{k:=(ae au d.af).length,g:=false}),(11,{av:=some (ao (decide ((1:Int)≤d.need∧d.need≤(↑(ae au d.af).length:Int)))),g:=false}),(13,{b:=false})]++yg [6,7,8,9,12])] [.aa [13,8,3,2,1,0] [1]] ([yR ((ae au d.af).length),yI (aM (↑(ae au d.af).length:Int) ((1:Int)) ((8:Int)))]++yM 5 (yS ((!decide ((1:Int)≤(↑(ae au d.af).length:Int)∧(↑(ae au d.af).length:Int)≤8))=false))++ [yR ((ae au d.af).length),yS ((!decide ((1:Int)≤(↑(ae au d.af).length:Int)∧(↑(ae au d.af).length:Int)≤8))=false),yI (aM d.need ((1:Int)) (↑(ae au d.af).length:Int))]++yM 2 (yS ((!decide ((1:Int)≤(↑(ae au d.af).length:Int)∧(↑(ae au d.af).length:Int)≤8))=false)))<|bj 13 (!decide ((1:Int)≤d.need∧d.need≤(↑(ae au d.af).length:Int))) (by simp_all)<|zP 1 [yH [(2,{k:=d.ay.length}),(5,{k:=(ae au d.af).length})]] [.aa [28,13,8,3,2,1,0] [1]] [yI (aE d.ay),yR ((ae au d.af).length)]<|bj 28 ((↑d.ay.length:Int) != (↑(ae au d.af).length:Int)) (by simp_all)<|zK<|aK<|al<|zS<|zP 2 [yH [(2,yC hr)],yH [(1,yV (ao true))]] [.aa [40,4,28,13,8,3,2,1,0] [1]] [yI hr,yB (ao (fZ d != (0:Int))=ao true) (by simp [c])]<|zT 40<|zq<|dk (bL)
 rw [if_pos c,c]
 rw [c] at hr
 clear e c2
 refine zO Tryz.func132 102<|zq<|zS<|zB 0<|zP 1 [yH [(2,{k:=d.box.length})]] [.aa [8,3,2,1,0] [1]] [yI (aB d.box)]<|dm 8 ((↑d.box.length:Int)>1024)<|zP 1 [yH ([(2,{k:=(ae au d.af).length}),(3,yC (aM ((↑(ae au d.af).length:Int)) ((1:Int)) ((8:Int)))),(10,{k:=(ae au d.af).length,g:=false}),(11,{av:=some (ao (decide ((1:Int)≤d.need∧d.need≤(↑(ae au d.af).length:Int)))),g:=false}),(13,{b:=false})]++yg [6,7,8,9,12])] [.aa [13,8,3,2,1,0] [1]] ([yR ((ae au d.af).length),yI (aM (↑(ae au d.af).length:Int) ((1:Int)) ((8:Int)))]++yM 5 (yS ((!decide ((1:Int)≤(↑(ae au d.af).length:Int)∧(↑(ae au d.af).length:Int)≤8))=false))++ [yR ((ae au d.af).length),yS ((!decide ((1:Int)≤(↑(ae au d.af).length:Int)∧(↑(ae au d.af).length:Int)≤8))=false),yI (aM d.need ((1:Int)) (↑(ae au d.af).length:Int))]++yM 2 (yS ((!decide ((1:Int)≤(↑(ae au d.af).length:Int)∧(↑(ae au d.af).length:Int)≤8))=false)))<|bj 13 (!decide ((1:Int)≤d.need∧d.need≤(↑(ae au d.af).length:Int))) (by simp_all)<|zP 1 [yH [(2,{k:=d.ay.length}),(5,{k:=(ae au d.af).length})]] [.aa [28,13,8,3,2,1,0] [1]] [yI (aE d.ay),yR ((ae au d.af).length)]<|bj 28 ((↑d.ay.length:Int) != (↑(ae au d.af).length:Int)) (by simp_all)<|zK<|aK<|al<|zS<|zP 2 [yH [(2,yC hr)],{}] [.aa [40,4,28,13,8,3,2,1,0] [1]] [yI hr]<|zF 40<|a6<|zP 1 [{hs:=[(2,yC (dp (d.cm))),(5,yC (dp (d.peer))),(8,yC (oG (d.box) b1)),(11,{k:=(ae au d.af).length}),(12,yC (mh ((↑(ae au d.af).length:Int))))],T:=12}] [.aa [5,40,4,28,13,8,3,2,1,0] [55,1]] [yI (dp d.cm),yI (dp d.peer),yI (oG d.box b1),yR ((ae au d.af).length),yI (mh (↑(ae au d.af).length:Int))]<|zS<|zq<|zB 1 (zL (fun (i:Nat)=>(⟨[(40,ao ((0:Int) != (0:Int))),(4,ai 0),(28,ao ((↑d.ay.length:Int) != (↑(ae au d.af).length:Int))),(13,ao (!decide ((1:Int)≤d.need∧d.need≤(↑(ae au d.af).length:Int)))),(8,ao (decide ((↑d.box.length:Int)>1024))),(3,ai 0),(2,AV.nil),(1,AV.addr 1 0),(0,AV.agg (bk d)),(6,ai i),(5,AV.ref 5)],[(5,⟨3,true,false,ae bn ([aL d.cm,aL d.peer,fj d.box,bG (u64 d.af.length)]++(d.af.take i).map cL)⟩),(1,⟨1,false,true,bk d⟩)]⟩:AS)) (fun i=>(i≤d.af.length)) (fun i=>(d.af.length-i)) (0) ?_ (eX [.wU 55 5,.loose 5,.aa [40,4,28,13,8,3,2,1,0,6,5] [5,1]] [] [5] [yB ([ai ((aL d.cm).kind),aw ((aL d.cm).num),di (aL d.cm).cJ,ai ((aL d.peer).kind),aw ((aL d.peer).num),di (aL d.peer).cJ,ai ((fj d.box).kind),aw ((fj d.box).num),di (fj d.box).cJ,ai ((bG (u64 (↑(ae au d.af).length:Int))).kind),aw ((bG (u64 (↑(ae au d.af).length:Int))).num),AV.val (Value.string (ByteArray.mk (bG (u64 (↑(ae au d.af).length:Int))).cJ.toArray))]=ae bn ([aL d.cm,aL d.peer,fj d.box,bG (u64 (↑d.af.length:Int))]++List.map cL (List.take 0 d.af))) (by rw [tK];rfl)]) ?_)
 ·omega
 intro i hi
 refine zS<|zP 1 [yH [(3,{k:=(ae au d.af).length})]] [.aa [60,40,4,28,13,8,3,2,1,0,6,5] [5,1]] [yR ((ae au d.af).length)] (zD 60 ((↑i:Int)<(↑(ae au d.af).length:Int)) (fun g=>?_) (fun g=>?_))
 ·have dc:i<d.af.length:=ag
  have ic:=iZ dc
  have hA:=hh i dc
  have s1:=vy cL [aL d.cm,aL d.peer,fj d.box,bG (u64 d.af.length)] d.af dc default
  refine a6<|zS<|zB 2<|zX (yH [(4,{k:=i}),(5,yV (di (d.af.getD i default))),(6,yC (kD (d.af.getD i default)))]) [yR (↑i:Int),yO (i<(ae au d.af).length),yI ic,yI (kD (d.af.getD i default)),yB (((ae bn ([aL d.cm,aL d.peer,fj d.box,bG (u64 (↑d.af.length:Int))]++List.map cL (List.take i d.af))).length+3)*32≤422212465065984) (by simp only [List.length_append,List.length_cons,List.length_nil,List.length_take,List.length_map,aA (f:=bn) (e:=3) (fun _=>rfl)];omega)]<|aK<|al<|bf.QD {hs:=[(1,{av:=some (ai ((↑i:Int)+1))})]} (s':=AS.mk [(6,ai ((↑i:Int)+1)),(62,ai ((↑i:Int)+1)),(61,ai ↑i),(5,AV.ref 71),(71,AV.ref 71),(70,AV.ref 70),(69,AV.agg (bn (cL (d.af.getD i default)))),(68,di (d.af.getD i default)),(67,AV.ptr (ae au d.af) i),(66,ai ↑i),(65,AV.sl 1 (ae au d.af)),(64,AV.addr 1 3),(63,AV.dead),(60,ao (decide ((↑i:Int)<(↑(ae au d.af).length:Int)))),(40,ao ((0:Int) != (0:Int))),(4,ai 0),(28,ao ((↑d.ay.length:Int) != (↑(ae au d.af).length:Int))),(13,ao (!decide ((1:Int)≤d.need∧d.need≤(↑(ae au d.af).length:Int)))),(8,ao (decide ((↑d.box.length:Int)>1024))),(3,ai 0),(2,AV.nil),(1,AV.addr 1 0),(0,AV.agg (bk d))] [(71,Row.mk 3 true false (ae bn ([aL d.cm,aL d.peer,fj d.box,bG (u64 (↑d.af.length:Int))]++List.map cL (List.take i d.af))++(bn (cL (d.af.getD i default))))),(70,Row.mk 3 true true (bn (cL (d.af.getD i default)))),(1,Row.mk 1 false true (List.map (aH 71) (cF 5 (Row.mk 1 false true (List.map (aH 70) (bk d)))).cells))]) (C:=[ai (IntKind.i64.wrap ((↑i:Int)+1))=ai ((↑i:Int)+1)]) bC ⟨(eG ag ag),trivial⟩ (aF (i+1) (by assumption) ag (eX [.wU 71 5,.aa [40,4,28,13,8,3,2,1,0,6,5] [5,1]] [] [5] [yB (ae bn ([aL d.cm,aL d.peer,fj d.box,bG (u64 (↑d.af.length:Int))]++List.map cL (List.take i d.af))++(bn (cL (d.af.getD i default)))=ae bn ([aL d.cm,aL d.peer,fj d.box,bG (u64 (↑d.af.length:Int))]++List.map cL (List.take (i+1) d.af))) (by assumption)]))
 ·have ei:i=d.af.length:=ag
  subst ei
  rw [show d.af.take d.af.length=d.af from List.take_length]
  have pv:wC d=([aL d.cm,aL d.peer,fj d.box,bG (u64 d.af.length)]++d.af.map cL++ [bG (u64 d.ay.length)])++d.ay.map aL++ [aL (u64 d.need)]:=by unfold wC;simp
  rw [pv]
  have XY:([aL d.cm,aL d.peer,fj d.box,bG (u64 d.af.length)]++d.af.map cL).length≤12:=by rw [List.length_append,List.length_map];show 4+_≤12;omega
  generalize [aL d.cm,aL d.peer,fj d.box,bG (u64 d.af.length)]++d.af.map cL=A at *
  have Xc:(ae bn A).length≤36:=by rw [aA (e:=3) (fun _=>rfl)];omega
  refine zE 1<|a7<|aP<|bp<|al<|zP 1 [yH [(3,{k:=d.ay.length}),(4,yC (mh ((↑d.ay.length:Int))))]] [.aa [5,60,40,4,28,13,8,3,2,1,0,6] [78,1]] [yI (aE d.ay),yI (mh ((↑d.ay.length:Int))),yO (((ae bn A).length+3)*32≤422212465065984)]<|zS<|zq<|zB 3 (zL (fun (j:Nat)=>(⟨[(60,ao (decide ((↑d.af.length:Int)<(↑(ae au d.af).length:Int)))),(40,ao ((0:Int) != (0:Int))),(4,ai 0),(28,ao ((↑d.ay.length:Int) != (↑(ae au d.af).length:Int))),(13,ao (!decide ((1:Int)≤d.need∧d.need≤(↑(ae au d.af).length:Int)))),(8,ao (decide ((↑d.box.length:Int)>1024))),(3,ai 0),(2,AV.nil),(1,AV.addr 1 0),(0,AV.agg (bk d)),(6,ai (↑d.af.length:Int)),(7,ai j),(5,AV.ref 5)],[(5,⟨3,true,false,ae bn (A++ [bG (u64 d.ay.length)]++(d.ay.take j).map aL)⟩),(1,⟨1,false,true,bk d⟩)]⟩:AS)) (fun j=>(j≤d.ay.length)) (fun j=>(d.ay.length-j)) (0) ?_ (eX [.wU 78 5,.aa [60,40,4,28,13,8,3,2,1,0,6,7,5] [5,1]] [] [5] [yB (ae bn A++(bn (bG (u64 (↑d.ay.length:Int))))=ae bn (A++ [bG (u64 (↑d.ay.length:Int))]++List.map aL (List.take 0 d.ay))) (by rw [List.take_zero];exact (fT A [bG (u64 d.ay.length)]).trans (by simp))]) ?_)
  ·omega
  intro j hj
  refine zS<|zP 1 [yH [(3,{k:=d.ay.length})]] [.aa [83,60,40,4,28,13,8,3,2,1,0,6,7,5] [5,1]] [yI (aE d.ay)] (zD 83 ((↑j:Int)<(↑d.ay.length:Int)) (fun g2=>?_) (fun g2=>?_))
  ·have CX:j<d.ay.length:=ag
   have ic:=eM (l:=d.ay) CX
   have s2:=vy aL (A++ [bG (u64 d.ay.length)]) d.ay CX 0
   refine a6<|zS<|zB 4<|zX (yH [(4,{k:=j}),(5,yV (aw (d.ay.getD j 0))),(6,yC (dp (d.ay.getD j 0)))]) [yR (↑j:Int),yB (j<(aj d.ay).length) (by simp only [aE];omega),yI ic,yI (dp (d.ay.getD j 0)),yB (((ae bn (A++ [bG (u64 (↑d.ay.length:Int))]++List.map aL (List.take j d.ay))).length+3)*32≤422212465065984) (by simp only [List.length_append,List.length_cons,List.length_nil,List.length_take,List.length_map,aA (f:=bn) (e:=3) (fun _=>rfl)];omega)]<|aK<|al<|zX (yH [(1,yV (ai ((↑j:Int)+1)))]) [yN ((↑j:Int)+1)] (aF (j+1) (by assumption) ag (eX [.wU 94 5,.aa [60,40,4,28,13,8,3,2,1,0,6,7,5] [5,1]] [] [5] [yB (ae bn (A++ [bG (u64 (↑d.ay.length:Int))]++List.map aL (List.take j d.ay))++(bn (aL (d.ay.getD j 0)))=ae bn (A++ [bG (u64 (↑d.ay.length:Int))]++List.map aL (List.take (j+1) d.ay))) (by assumption)]))
  ·have ej:j=d.ay.length:=ag
   subst ej
   rw [show d.ay.take d.ay.length=d.ay from List.take_length]
   refine zE 3<|a7<|aP<|bp<|al<|zP 1 [yH [(3,yV (aw (u64 d.need))),(4,yC (dp (u64 d.need)))]] [.aa [3,2,83,60,40,4,28,13,8,1,0,6,7] [101,1]] [yI (a8 d.need),yI (dp (u64 d.need)),yB (((ae bn (A++ [bG (u64 (↑d.ay.length:Int))]++List.map aL d.ay)).length+3)*32≤422212465065984) (by simp only [List.length_append,List.length_cons,List.length_nil,List.length_map,aA (f:=bn) (e:=3) (fun _=>rfl)];omega)]<|zR (zV [yB (ae bn (A++ [bG (u64 (↑d.ay.length:Int))]++List.map aL d.ay)++(bn (aL (u64 d.need)))=ae bn (A++ [bG (u64 (↑d.ay.length:Int))]++List.map aL d.ay++ [aL (u64 d.need)])) (fT _ [aL (u64 d.need)]),yR (Value.int .i64 0)])
theorem y9 (x:fP) (hk:fg x.kind) (hd:x.cJ.length≤100000) (h:x.kind=3∨x.kind=4∨x.cJ= []):bA Tryz.prog 84 [.agg (bn x)] (di (gS x)):=by
 rw [MK x h]
 have hl:=mr (u8 (x.kind-1)) (nr x)
 have hh:=Bs x hk hd
 generalize bW (u8 (x.kind-1)) (nr x)=H at *
 have hs:(⟨H.toArray⟩:ByteArray).size+(⟨x.cJ.toArray⟩:ByteArray).size≤9223372036854775807:=by
  show H.toArray.size+x.cJ.toArray.size≤_
  rw [List.size_toArray,List.size_toArray]
  omega
 refine zO Tryz.func84 9<|zP 2 [{},{hs:=[(1,yC hh),(2,yV (di H))],T:=5}] [.aa [2,1,0] [1]] [yI hh,yI (aQ H),yR (ah H),yI hs]<|zR (bL)
end Go.Proofs.YtjgbhhnghedgdaaGreatDoor
