import Derived.Test.YtjgbhhnghedgdaaGreatDoorZvGrB3
set_option linter.all false
namespace Go.Proofs.YtjgbhhnghedgdaaGreatDoor
open Go.RowKit
set_option maxRecDepth 100000
set_option maxHeartbeats 4000000
theorem dp (n:UInt64):bG Tryz.prog 83 [aw n] (.agg (bp (aN n))):=by
 refine zO Tryz.func83 5<|zP 2 [{},{}] [.aa [2,0] [2]] [yL 3 3]<|zR (bP)
theorem kG (b:List UInt8):bG Tryz.prog 130 [cV b] (.agg (bp (cX b))):=by
 refine zO Tryz.func130 5<|zP 2 [{},{}] [.aa [2,0] [2]] [yL 3 3]<|zR (bP)
theorem oJ (b:List UInt8) (hb:b.length≤1000000):bG Tryz.prog 131 [.sl 1 (aj b)] (.agg (bp (fj b))):=by
 refine zO Tryz.func131 6<|zP 2 [{},yH [(1,yV (cV b))]] [.aa [2,0] [2]] [yR (aj b),yL 3 3]<|zR (bP)
theorem mm (n:Int):bG Tryz.prog 81 [ai n] (.agg (bp (bM (u64 n)))):=by
 refine zO Tryz.func81 6<|zP 2 [{},yH [(1,yV (aw (u64 n)))]] [.aa [2,0] [2]] [yI (a7 n),yL 3 3]<|zR (bP)
def nu (x:fS):UInt64:=if x.kind=3∨x.kind=4 then u64 x.cL.length else x.num
theorem L4 (x:fS) (h:x.kind=3∨x.kind=4∨x.cL= []):kb x=cQ (u8 (x.kind-1)) (nu x)++x.cL:=by
 unfold kb nu
 by_cases c:x.kind=3∨x.kind=4
 ·rw [if_pos c,if_pos c]
 ·rw [if_neg c,if_neg c,show x.cL= [] by rcases h with h|h|h;exact absurd (.inl h) c;exact absurd (.inr h) c;exact h,List.append_nil]
theorem Ri (n:UInt64):words [n]=pD n 8 8:=rfl
theorem LI {m:UInt8} {n:UInt64} (h:wv n<24):cQ m n= [m<<<5+n.toUInt8]:=if_pos h
theorem N8 {m:UInt8} {n:UInt64} (h1:¬wv n<24) (h:wv n<256):cQ m n= [m<<<5+24,n.toUInt8]:=by unfold cQ;rw [if_neg h1,if_pos h];simp [pD]
theorem N7 {m:UInt8} {n:UInt64} (h1:¬wv n<256) (h:wv n<65536):cQ m n= [m<<<5+25,(n>>>8).toUInt8,n.toUInt8]:=by unfold cQ;rw [if_neg ag,if_neg h1,if_pos h];simp [pD,List.range_succ]
theorem N6 {m:UInt8} {n:UInt64} (h1:¬wv n<65536) (h:wv n<4294967296):cQ m n= [m<<<5+26,(n>>>24).toUInt8,(n>>>16).toUInt8,(n>>>8).toUInt8,n.toUInt8]:=by unfold cQ;rw [if_neg ag,if_neg ag,if_neg h1,if_pos h];simp [pD,List.range_succ]
theorem NZ {m:UInt8} {n:UInt64} (h1:¬wv n<4294967296):cQ m n=(m<<<5+27)::words [n]:=by unfold cQ;rw [if_neg ag,if_neg ag,if_neg ag,if_neg h1,Ri]
theorem Bd (x:fS) (hk:fg x.kind) (hd:x.cL.length≤100000):bG Tryz.prog 133 [.agg (bp x)] (.own 1 (aj (cQ (u8 (x.kind-1)) (nu x)))):=by
 refine zO Tryz.func133 87<|zP 3 [{},{},{}] [.aa [4,3,2,1,0] [1]] [] (bg.ob (fun (p:UInt64×UInt8)=>(⟨[(1,AV.addr 1 0),(0,AV.agg (bp x)),(3,aw p.1),(4,ab p.2)],[(1,⟨1,false,true,List.map (aF 1) (bp x)⟩)]⟩:AS)) (fun p=>(p=(nu x,u8 (x.kind-1)<<<5))) bu ?_ ?_)
 ·rcases hk with k|k|k|k
  ·have e:nu x=x.num:=if_neg ag
   have e2:u8 (x.kind-1)<<<5=0:=by rw [k];decide
   refine zq<|zB 0<|zP 1 [{}] [.aa [9,8,4,3,2,1,0] [1]] []<|bk 9 (x.kind == (7:Int)) bD<|zq<|bk 15 (x.kind == (8:Int)) bD<|zP 1 [{}] [.aa [18,15,9,8,4,3,2,1,0] [1]] []<|bk 18 (x.kind == (2:Int)) bD<|zq<|bk 20 (x.kind == (3:Int)) bD<|zP 1 [{}] [.aa [26,20,18,15,9,8,4,3,2,1,0] [1]] []<|bk 26 (x.kind == (4:Int)) bD<|zq<|bk 32 (x.kind == (5:Int)) bD<|zP 1 [{}] [.aa [34,32,26,20,18,15,9,8,4,3,2,1,0] [1]] []<|bk 34 (x.kind == (6:Int)) bD<|zK<|aJ<|al (⟨(nu x,u8 (x.kind-1)<<<5),rfl,(eS [.aa [1,0,3,4] [1]] [3,4] [] [yB (aw x.num=aw (nu x)) (by rw [e]),yB (AV.val (Value.int .u8 0)=ab (u8 (x.kind-1)<<<(5:UInt8))) (by rw [e2];rfl)])⟩)
  ·have e:nu x=u64 x.cL.length:=if_pos (.inl k)
   have e2:u8 (x.kind-1)<<<5=64:=by rw [k];decide
   refine zq<|zB 0<|zP 1 [{}] [.aa [9,8,4,3,2,1,0] [1]] []<|bk 9 (x.kind == (7:Int)) bD<|zq<|bk 15 (x.kind == (8:Int)) bD<|zP 1 [{}] [.aa [18,15,9,8,4,3,2,1,0] [1]] []<|bk 18 (x.kind == (2:Int)) bD<|zq<|dB 20 (x.kind == (3:Int)) eJ<|zX ({hs:=[(2,yV (ai (↑x.cL.length:Int))),(3,yV (aw (u64 (↑x.cL.length:Int))))],T:=5}) [yR (ai (↑x.cL.length:Int)),yI (a7 ((↑x.cL.length:Int)))]<|aJ<|al (⟨(nu x,u8 (x.kind-1)<<<5),rfl,(eS [.aa [1,0,3,4] [1]] [3,4] [] [yB (aw (u64 (↑x.cL.length:Int))=aw (nu x)) (by rw [e]),yB (AV.val (Value.int .u8 64)=ab (u8 (x.kind-1)<<<(5:UInt8))) (by rw [e2];rfl)])⟩)
  ·have e:nu x=u64 x.cL.length:=if_pos (.inr k)
   have e2:u8 (x.kind-1)<<<5=96:=by rw [k];decide
   refine zq<|zB 0<|zP 1 [{}] [.aa [9,8,4,3,2,1,0] [1]] []<|bk 9 (x.kind == (7:Int)) bD<|zq<|bk 15 (x.kind == (8:Int)) bD<|zP 1 [{}] [.aa [18,15,9,8,4,3,2,1,0] [1]] []<|bk 18 (x.kind == (2:Int)) bD<|zq<|bk 20 (x.kind == (3:Int)) bD<|zP 1 [{}] [.aa [26,20,18,15,9,8,4,3,2,1,0] [1]] []<|dB 26 (x.kind == (4:Int)) eJ<|zX ({hs:=[(2,yV (ai (↑x.cL.length:Int))),(3,yV (aw (u64 (↑x.cL.length:Int))))],T:=5}) [yR (ai (↑x.cL.length:Int)),yI (a7 ((↑x.cL.length:Int)))]<|aJ<|al (⟨(nu x,u8 (x.kind-1)<<<5),rfl,(eS [.aa [1,0,3,4] [1]] [3,4] [] [yB (aw (u64 (↑x.cL.length:Int))=aw (nu x)) (by rw [e]),yB (AV.val (Value.int .u8 96)=ab (u8 (x.kind-1)<<<(5:UInt8))) (by rw [e2];rfl)])⟩)
  ·have e:nu x=x.num:=if_neg ag
   have e2:u8 (x.kind-1)<<<5=128:=by rw [k];decide
   refine zq<|zB 0<|zP 1 [{}] [.aa [9,8,4,3,2,1,0] [1]] []<|bk 9 (x.kind == (7:Int)) bD<|zq<|bk 15 (x.kind == (8:Int)) bD<|zP 1 [{}] [.aa [18,15,9,8,4,3,2,1,0] [1]] []<|bk 18 (x.kind == (2:Int)) bD<|zq<|bk 20 (x.kind == (3:Int)) bD<|zP 1 [{}] [.aa [26,20,18,15,9,8,4,3,2,1,0] [1]] []<|bk 26 (x.kind == (4:Int)) bD<|zq<|dB 32 (x.kind == (5:Int)) eJ<|zX {} []<|aJ<|al (⟨(nu x,u8 (x.kind-1)<<<5),rfl,(eS [.aa [1,0,3,4] [1]] [3,4] [] [yB (aw x.num=aw (nu x)) (by rw [e]),yB (AV.val (Value.int .u8 128)=ab (u8 (x.kind-1)<<<(5:UInt8))) (by rw [e2];rfl)])⟩)
 rintro ⟨n,M⟩ hp
 injection hp with hn hM
 rw [←hn]
 clear hn
 simp only
 by_cases c1:wv n<24
 ·have e:=LI (m:=u8 (x.kind-1)) c1
  rw [←hM] at e
  rw [e]
  refine zS<|zB 1<|zP 1 [{}] [.aa [36,1,0,3,4] [1]] []<|iw 36 (wv n<24)<|zP 1 [yH [(2,yV (ab n.toUInt8)),(3,yV (ab (M+n.toUInt8))),(4,yV (AV.arr (aj [M+n.toUInt8])))]] [.aa [2,36,1,0,3,4] [43,1]] [yR (ab n.toUInt8),yR (ab (M+n.toUInt8)),yR [ab (M+n.toUInt8)]]<|zR<|bc<|aK (bP)
 by_cases c2:wv n<256
 ·have e:=N8 (m:=u8 (x.kind-1)) c1 c2
  rw [←hM] at e
  rw [e]
  refine zS<|zB 1<|zP 1 [{}] [.aa [36,1,0,3,4] [1]] []<|dF 36 (wv n<24)<|zP 1 [{}] [.aa [44,36,1,0,3,4] [1]] []<|iw 44 (wv n<256)<|zP 1 [yH [(1,yV (ab (M+24))),(3,yV (ab n.toUInt8)),(4,yV (AV.arr (aj [M+24,n.toUInt8])))]] [.aa [2,44,36,1,0,3,4] [51,1]] [yR (ab (M+24)),yR (ab n.toUInt8),yR (aj [M+24,n.toUInt8])]<|zR<|bc<|aK (bP)
 by_cases c3:wv n<65536
 ·have e:=N7 (m:=u8 (x.kind-1)) c2 c3
  rw [←hM] at e
  rw [e]
  refine zS<|zB 1<|zP 1 [{}] [.aa [36,1,0,3,4] [1]] []<|dF 36 (wv n<24)<|zP 1 [{}] [.aa [44,36,1,0,3,4] [1]] []<|dF 44 (wv n<256)<|zP 1 [{}] [.aa [52,44,36,1,0,3,4] [1]] []<|iw 52 (wv n<65536)<|zP 1 [yH [(1,yV (ab (M+25))),(3,yV (aw (n>>>(8:UInt64)))),(4,yV (ab ((n>>>(8:UInt64)).toUInt8))),(6,yV (ab n.toUInt8)),(7,yV (AV.arr (aj [M+25,(n>>>(8:UInt64)).toUInt8,n.toUInt8])))]] [.aa [2,52,44,36,1,0,3,4] [62,1]] [yR (ab (M+25)),yI (fB n ((8:Int)) ag ag),yO ((0:Int)≤8),yR (ab ((n>>>(8:UInt64)).toUInt8)),yR (ab n.toUInt8),yR (aj [M+25,(n>>>(8:UInt64)).toUInt8,n.toUInt8])]<|zR<|bc<|aK (bP)
 by_cases c4:wv n<4294967296
 ·have e:=N6 (m:=u8 (x.kind-1)) c3 c4
  rw [←hM] at e
  rw [e]
  refine zS<|zB 1<|zP 1 [{}] [.aa [36,1,0,3,4] [1]] []<|dF 36 (wv n<24)<|zP 1 [{}] [.aa [44,36,1,0,3,4] [1]] []<|dF 44 (wv n<256)<|zP 1 [{}] [.aa [52,44,36,1,0,3,4] [1]] []<|dF 52 (wv n<65536)<|zP 1 [{}] [.aa [63,52,44,36,1,0,3,4] [1]] []<|iw 63 (wv n<4294967296)<|zP 1 [yH [(1,yV (ab (M+26))),(3,yV (aw (n>>>(24:UInt64)))),(4,yV (ab ((n>>>(24:UInt64)).toUInt8))),(6,yV (aw (n>>>(16:UInt64)))),(7,yV (ab ((n>>>(16:UInt64)).toUInt8))),(9,yV (aw (n>>>(8:UInt64)))),(10,yV (ab ((n>>>(8:UInt64)).toUInt8))),(12,yV (ab n.toUInt8)),(13,yV (AV.arr (aj [M+26,(n>>>(24:UInt64)).toUInt8,(n>>>(16:UInt64)).toUInt8,(n>>>(8:UInt64)).toUInt8,n.toUInt8])))]] [.aa [2,63,52,44,36,1,0,3,4] [79,1]] [yR (ab (M+26)),yI (fB n ((24:Int)) ag ag),yO ((0:Int)≤24),yR (ab ((n>>>(24:UInt64)).toUInt8)),yI (fB n ((16:Int)) ag ag),yO ((0:Int)≤16),yR (ab ((n>>>(16:UInt64)).toUInt8)),yI (fB n ((8:Int)) ag ag),yO ((0:Int)≤8),yR (ab ((n>>>(8:UInt64)).toUInt8)),yR (ab n.toUInt8),yR (aj [M+26,(n>>>(24:UInt64)).toUInt8,(n>>>(16:UInt64)).toUInt8,(n>>>(8:UInt64)).toUInt8,n.toUInt8])]<|zR<|bc<|aK (bP)
 ·have e:=NZ (m:=u8 (x.kind-1)) c4
  rw [←hM] at e
  rw [e]
  refine zS<|zB 1<|zP 1 [{}] [.aa [36,1,0,3,4] [1]] []<|dF 36 (wv n<24)<|zP 1 [{}] [.aa [44,36,1,0,3,4] [1]] []<|dF 44 (wv n<256)<|zP 1 [{}] [.aa [52,44,36,1,0,3,4] [1]] []<|dF 52 (wv n<65536)<|zP 1 [{}] [.aa [63,52,44,36,1,0,3,4] [1]] []<|dF 63 (wv n<4294967296)<|zK<|aJ<|al<|zP 1 [yH [(1,yV (ab (M+27))),(2,yV (AV.arr (aj [M+27]))),(4,yV (AV.arr (ah [n]))),(5,yV (AV.own 1 (aj (words [n])))),(6,yV (AV.arr (aj ([M+27]++words [n]))))]] [.aa [2,63,52,44,36,1,0,3,4] [86,1]] [yR (ab (M+27)),yR [ab (M+27)],yR [aw n],yI (dO [n] (by simp only [List.length_cons,List.length_nil];omega)),yI (aV (words [n])),yR (aj ([M+27]++words [n])),yL 9 140737488355328]<|zR (bP)
theorem vy {T:Type} (f:T->fS) (p:List fS) (l:List T) {i:Nat} (h:i<l.length) (z:T):af bp (p++(l.take i).map f)++bp (f (l.getD i z))=af bp (p++(l.take (i+1)).map f):=by
 rw [List.take_add_one,List.map_append,←List.append_assoc,List.getD_eq_getElem?_getD,List.getElem?_eq_getElem h]
 exact fb (p++(l.take i).map f) [f l[i]]
theorem CS (d:nH) (hB:Aq d):bG Tryz.prog 132 [.agg (bj d)] (.cw [.own 3 (af bp (if fX d=0 then wx d else [])),ai (fX d)]):=by
 have ud:(af ay d.ae).length=d.ae.length:=by rw [aE (e:=1) (fun _=>rfl)];omega
 obtain ⟨b1,b2,b3,hh⟩:=hB
 by_cases c1:1024<d.box.length
 ·have e:fX d=8:=if_pos c1
  rw [e,if_neg ag]
  refine zO Tryz.func132 102<|zq<|zS<|zB 0<|zP 1 [yH [(2,{k:=d.box.length})]] [.aa [8,3,2,1,0] [1]] [yI (aB d.box)]<|iw 8 ((↑d.box.length:Int)>1024)<|zq<|zR<|bc<|aK (bP)
 by_cases c2:oB d.ae.length d.need
 ·have e:fX d=9:=by unfold fX;rw [if_neg c1,if_pos c2]
  unfold oB at c2
  rw [e,if_neg ag]
  by_cases k1:1≤d.ae.length∧d.ae.length≤8
  ·have k2:¬(1≤d.need∧d.need≤d.ae.length):=ag
   have Uv:1≤(d.ae.length:Int)∧(d.ae.length:Int)≤8:=ag
   refine zO Tryz.func132 102<|zq<|zS<|zB 0<|zP 1 [yH [(2,{k:=d.box.length})]] [.aa [8,3,2,1,0] [1]] [yI (aB d.box)]<|dF 8 ((↑d.box.length:Int)>1024)<|zP 1 [yH ([(2,{k:=(af ay d.ae).length}),(3,yC (aO ((↑(af ay d.ae).length:Int)) ((1:Int)) ((8:Int)))),(10,{k:=(af ay d.ae).length,g:=false}),(11,{av:=some (ao (decide ((1:Int)≤d.need∧d.need≤(↑(af ay d.ae).length:Int)))),g:=false}),(13,{b:=false})]++yg [6,7,8,9,12])] [.aa [13,8,3,2,1,0] [1]] ([yR ((af ay d.ae).length),yI (aO (↑(af ay d.ae).length:Int) ((1:Int)) ((8:Int)))]++yM 5 (yS ((!decide ((1:Int)≤(↑(af ay d.ae).length:Int)∧(↑(af ay d.ae).length:Int)≤8))=false))++ [yR ((af ay d.ae).length),yS ((!decide ((1:Int)≤(↑(af ay d.ae).length:Int)∧(↑(af ay d.ae).length:Int)≤8))=false),yI (aO d.need ((1:Int)) (↑(af ay d.ae).length:Int))]++yM 2 (yS ((!decide ((1:Int)≤(↑(af ay d.ae).length:Int)∧(↑(af ay d.ae).length:Int)≤8))=false)))<|dB 13 (!decide ((1:Int)≤d.need∧d.need≤(↑(af ay d.ae).length:Int))) (by simp;omega)<|zq<|zR<|bc<|aK (bP)
  ·have Uv:¬(1≤(d.ae.length:Int)∧(d.ae.length:Int)≤8):=ag
   refine zO Tryz.func132 102<|zq<|zS<|zB 0<|zP 1 [yH [(2,{k:=d.box.length})]] [.aa [8,3,2,1,0] [1]] [yI (aB d.box)]<|dF 8 ((↑d.box.length:Int)>1024)<|zP 1 [yH [(2,{k:=(af ay d.ae).length}),(3,yC (aO ((↑(af ay d.ae).length:Int)) ((1:Int)) ((8:Int))))]] [.aa [13,8,3,2,1,0] [1]] ([yR ((af ay d.ae).length),yI (aO (↑(af ay d.ae).length:Int) ((1:Int)) ((8:Int)))]++yM 8 (yB ((!decide ((1:Int)≤(↑(af ay d.ae).length:Int)∧(↑(af ay d.ae).length:Int)≤8))=true) (by simp;omega)))<|zT 13<|zq<|zR<|bc<|aK (bP)
 unfold oB at c2
 have Uv:1≤(d.ae.length:Int)∧(d.ae.length:Int)≤8:=ag
 have Rx:1≤d.need∧d.need≤(d.ae.length:Int):=ag
 by_cases c3:d.ax.length≠d.ae.length
 ·have e:fX d=4:=by unfold fX;rw [if_neg c1,if_neg (by unfold oB;exact c2),if_pos c3]
  rw [e,if_neg ag]
  refine zO Tryz.func132 102<|zq<|zS<|zB 0<|zP 1 [yH [(2,{k:=d.box.length})]] [.aa [8,3,2,1,0] [1]] [yI (aB d.box)]<|dF 8 ((↑d.box.length:Int)>1024)<|zP 1 [yH ([(2,{k:=(af ay d.ae).length}),(3,yC (aO ((↑(af ay d.ae).length:Int)) ((1:Int)) ((8:Int)))),(10,{k:=(af ay d.ae).length,g:=false}),(11,{av:=some (ao (decide ((1:Int)≤d.need∧d.need≤(↑(af ay d.ae).length:Int)))),g:=false}),(13,{b:=false})]++yg [6,7,8,9,12])] [.aa [13,8,3,2,1,0] [1]] ([yR ((af ay d.ae).length),yI (aO (↑(af ay d.ae).length:Int) ((1:Int)) ((8:Int)))]++yM 5 (yS ((!decide ((1:Int)≤(↑(af ay d.ae).length:Int)∧(↑(af ay d.ae).length:Int)≤8))=false))++ [yR ((af ay d.ae).length),yS ((!decide ((1:Int)≤(↑(af ay d.ae).length:Int)∧(↑(af ay d.ae).length:Int)≤8))=false),yI (aO d.need ((1:Int)) (↑(af ay d.ae).length:Int))]++yM 2 (yS ((!decide ((1:Int)≤(↑(af ay d.ae).length:Int)∧(↑(af ay d.ae).length:Int)≤8))=false)))<|bk 13 (!decide ((1:Int)≤d.need∧d.need≤(↑(af ay d.ae).length:Int))) (by simp_all)<|zP 1 [yH [(2,{k:=d.ax.length}),(5,{k:=(af ay d.ae).length})]] [.aa [28,13,8,3,2,1,0] [1]] [yI (aA d.ax),yR ((af ay d.ae).length)]<|dB 28 ((↑d.ax.length:Int) != (↑(af ay d.ae).length:Int)) (by simp;omega)<|zq<|zR<|bc<|aK (bP)
 have e:fX d=ff (ny d.ae) d.ae.length:=by unfold fX;rw [if_neg c1,if_neg (by unfold oB;exact c2),if_neg c3]
 have Xa:d.ax.length=d.ae.length:=ag
 have hr:=ja d.ae b2 hh
 rw [←e] at hr
 by_cases c:fX d=0
 case neg =>
  rw [if_neg c]
  refine zO Tryz.func132 102<|zq<|zS<|zB 0<|zP 1 [yH [(2,{k:=d.box.length})]] [.aa [8,3,2,1,0] [1]] [yI (aB d.box)]<|dF 8 ((↑d.box.length:Int)>1024)<|zP 1 [yH ([(2,{k:=(af ay d.ae).length}),(3,yC (aO ((↑(af ay d.ae).length:Int)) ((1:Int)) ((8:Int)))),(10,{k:=(af ay d.ae).length,g:=false}),(11,{av:=some (ao (decide ((1:Int)≤d.need∧d.need≤(↑(af ay d.ae).length:Int)))),g:=false}),(13,{b:=false})]++yg [6,7,8,9,12])] [.aa [13,8,3,2,1,0] [1]] ([yR ((af ay d.ae).length),yI (aO (↑(af ay d.ae).length:Int) ((1:Int)) ((8:Int)))]++yM 5 (yS ((!decide ((1:Int)≤(↑(af ay d.ae).length:Int)∧(↑(af ay d.ae).length:Int)≤8))=false))++ [yR ((af ay d.ae).length),yS ((!decide ((1:Int)≤(↑(af ay d.ae).length:Int)∧(↑(af ay d.ae).length:Int)≤8))=false),yI (aO d.need ((1:Int)) (↑(af ay d.ae).length:Int))]++yM 2 (yS ((!decide ((1:Int)≤(↑(af ay d.ae).length:Int)∧(↑(af ay d.ae).length:Int)≤8))=false)))<|bk 13 (!decide ((1:Int)≤d.need∧d.need≤(↑(af ay d.ae).length:Int))) (by simp_all)<|zP 1 [yH [(2,{k:=d.ax.length}),(5,{k:=(af ay d.ae).length})]] [.aa [28,13,8,3,2,1,0] [1]] [yI (aA d.ax),yR ((af ay d.ae).length)]<|bk 28 ((↑d.ax.length:Int) != (↑(af ay d.ae).length:Int)) (by simp_all)<|zK<|aJ<|al<|zS<|zP 2 [yH [(2,yC hr)],yH [(1,yV (ao true))]] [.aa [40,4,28,13,8,3,2,1,0] [1]] [yI hr,yB (ao (fX d != (0:Int))=ao true) (by simp [c])]<|zT 40<|zq<|dC (bP)
 rw [if_pos c,c]
 rw [c] at hr
 clear e c2
 refine zO Tryz.func132 102<|zq<|zS<|zB 0<|zP 1 [yH [(2,{k:=d.box.length})]] [.aa [8,3,2,1,0] [1]] [yI (aB d.box)]<|dF 8 ((↑d.box.length:Int)>1024)<|zP 1 [yH ([(2,{k:=(af ay d.ae).length}),(3,yC (aO ((↑(af ay d.ae).length:Int)) ((1:Int)) ((8:Int)))),(10,{k:=(af ay d.ae).length,g:=false}),(11,{av:=some (ao (decide ((1:Int)≤d.need∧d.need≤(↑(af ay d.ae).length:Int)))),g:=false}),(13,{b:=false})]++yg [6,7,8,9,12])] [.aa [13,8,3,2,1,0] [1]] ([yR ((af ay d.ae).length),yI (aO (↑(af ay d.ae).length:Int) ((1:Int)) ((8:Int)))]++yM 5 (yS ((!decide ((1:Int)≤(↑(af ay d.ae).length:Int)∧(↑(af ay d.ae).length:Int)≤8))=false))++ [yR ((af ay d.ae).length),yS ((!decide ((1:Int)≤(↑(af ay d.ae).length:Int)∧(↑(af ay d.ae).length:Int)≤8))=false),yI (aO d.need ((1:Int)) (↑(af ay d.ae).length:Int))]++yM 2 (yS ((!decide ((1:Int)≤(↑(af ay d.ae).length:Int)∧(↑(af ay d.ae).length:Int)≤8))=false)))<|bk 13 (!decide ((1:Int)≤d.need∧d.need≤(↑(af ay d.ae).length:Int))) (by simp_all)<|zP 1 [yH [(2,{k:=d.ax.length}),(5,{k:=(af ay d.ae).length})]] [.aa [28,13,8,3,2,1,0] [1]] [yI (aA d.ax),yR ((af ay d.ae).length)]<|bk 28 ((↑d.ax.length:Int) != (↑(af ay d.ae).length:Int)) (by simp_all)<|zK<|aJ<|al<|zS<|zP 2 [yH [(2,yC hr)],{}] [.aa [40,4,28,13,8,3,2,1,0] [1]] [yI hr]<|zF 40<|a_<|zP 1 [{hs:=[(2,yC (dp (d.bV))),(5,yC (dp (d.peer))),(8,yC (oJ (d.box) b1)),(11,{k:=(af ay d.ae).length}),(12,yC (mm ((↑(af ay d.ae).length:Int))))],T:=12}] [.aa [5,40,4,28,13,8,3,2,1,0] [55,1]] [yI (dp d.bV),yI (dp d.peer),yI (oJ d.box b1),yR ((af ay d.ae).length),yI (mm (↑(af ay d.ae).length:Int))]<|zS<|zq<|zB 1 (zL (fun (i:Nat)=>(⟨[(40,ao ((0:Int) != (0:Int))),(4,ai 0),(28,ao ((↑d.ax.length:Int) != (↑(af ay d.ae).length:Int))),(13,ao (!decide ((1:Int)≤d.need∧d.need≤(↑(af ay d.ae).length:Int)))),(8,ao (decide ((↑d.box.length:Int)>1024))),(3,ai 0),(2,AV.nil),(1,AV.addr 1 0),(0,AV.agg (bj d)),(6,ai i),(5,AV.ref 5)],[(5,⟨3,true,false,af bp ([aN d.bV,aN d.peer,fj d.box,bM (u64 d.ae.length)]++(d.ae.take i).map cX)⟩),(1,⟨1,false,true,bj d⟩)]⟩:AS)) (fun i=>(i≤d.ae.length)) (fun i=>(d.ae.length-i)) (0) ?_ (eS [.uX 55 5,.loose 5,.aa [40,4,28,13,8,3,2,1,0,6,5] [5,1]] [] [5] [yB ([ai ((aN d.bV).kind),aw ((aN d.bV).num),cV (aN d.bV).cL,ai ((aN d.peer).kind),aw ((aN d.peer).num),cV (aN d.peer).cL,ai ((fj d.box).kind),aw ((fj d.box).num),cV (fj d.box).cL,ai ((bM (u64 (↑(af ay d.ae).length:Int))).kind),aw ((bM (u64 (↑(af ay d.ae).length:Int))).num),AV.val (Value.string (ByteArray.mk (bM (u64 (↑(af ay d.ae).length:Int))).cL.toArray))]=af bp ([aN d.bV,aN d.peer,fj d.box,bM (u64 (↑d.ae.length:Int))]++List.map cX (List.take 0 d.ae))) (by rw [ud];rfl)]) ?_)
 ·omega
 intro i hi
 refine zS<|zP 1 [yH [(3,{k:=(af ay d.ae).length})]] [.aa [60,40,4,28,13,8,3,2,1,0,6,5] [5,1]] [yR ((af ay d.ae).length)] (zD 60 ((↑i:Int)<(↑(af ay d.ae).length:Int)) (fun g=>?_) (fun g=>?_))
 ·have dI:i<d.ae.length:=ag
  have gM:=i6 dI
  have hA:=hh i dI
  have s1:=vy cX [aN d.bV,aN d.peer,fj d.box,bM (u64 d.ae.length)] d.ae dI default
  refine a_<|zS<|zB 2<|zX (yH [(4,{k:=i}),(5,yV (cV (d.ae.getD i default))),(6,yC (kG (d.ae.getD i default)))]) [yR (↑i:Int),yO (i<(af ay d.ae).length),yI gM,yI (kG (d.ae.getD i default)),yB (((af bp ([aN d.bV,aN d.peer,fj d.box,bM (u64 (↑d.ae.length:Int))]++List.map cX (List.take i d.ae))).length+3)*32≤422212465065984) (by simp only [List.length_append,List.length_cons,List.length_nil,List.length_take,List.length_map,aE (f:=bp) (e:=3) (fun _=>rfl)];omega)]<|aJ<|al<|bg.PL {hs:=[(1,{av:=some (ai ((↑i:Int)+1))})]} (s':=AS.mk [(6,ai ((↑i:Int)+1)),(62,ai ((↑i:Int)+1)),(61,ai ↑i),(5,AV.ref 71),(71,AV.ref 71),(70,AV.ref 70),(69,AV.agg (bp (cX (d.ae.getD i default)))),(68,cV (d.ae.getD i default)),(67,AV.ptr (af ay d.ae) i),(66,ai ↑i),(65,AV.sl 1 (af ay d.ae)),(64,AV.addr 1 3),(63,AV.dead),(60,ao (decide ((↑i:Int)<(↑(af ay d.ae).length:Int)))),(40,ao ((0:Int) != (0:Int))),(4,ai 0),(28,ao ((↑d.ax.length:Int) != (↑(af ay d.ae).length:Int))),(13,ao (!decide ((1:Int)≤d.need∧d.need≤(↑(af ay d.ae).length:Int)))),(8,ao (decide ((↑d.box.length:Int)>1024))),(3,ai 0),(2,AV.nil),(1,AV.addr 1 0),(0,AV.agg (bj d))] [(71,Row.mk 3 true false (af bp ([aN d.bV,aN d.peer,fj d.box,bM (u64 (↑d.ae.length:Int))]++List.map cX (List.take i d.ae))++(bp (cX (d.ae.getD i default))))),(70,Row.mk 3 true true (bp (cX (d.ae.getD i default)))),(1,Row.mk 1 false true (List.map (aF 71) (bE 5 (Row.mk 1 false true (List.map (aF 70) (bj d)))).cells))]) (C:=[ai (IntKind.i64.wrap ((↑i:Int)+1))=ai ((↑i:Int)+1)]) bu ⟨(eN ag ag),trivial⟩ (aH (i+1) (by assumption) ag (eS [.uX 71 5,.aa [40,4,28,13,8,3,2,1,0,6,5] [5,1]] [] [5] [yB (af bp ([aN d.bV,aN d.peer,fj d.box,bM (u64 (↑d.ae.length:Int))]++List.map cX (List.take i d.ae))++(bp (cX (d.ae.getD i default)))=af bp ([aN d.bV,aN d.peer,fj d.box,bM (u64 (↑d.ae.length:Int))]++List.map cX (List.take (i+1) d.ae))) (by assumption)]))
 ·have ei:i=d.ae.length:=ag
  subst ei
  rw [show d.ae.take d.ae.length=d.ae from List.take_length]
  have nw:wx d=([aN d.bV,aN d.peer,fj d.box,bM (u64 d.ae.length)]++d.ae.map cX++ [bM (u64 d.ax.length)])++d.ax.map aN++ [aN (u64 d.need)]:=by unfold wx;simp
  rw [nw]
  have XQ:([aN d.bV,aN d.peer,fj d.box,bM (u64 d.ae.length)]++d.ae.map cX).length≤12:=by rw [List.length_append,List.length_map];show 4+_≤12;omega
  generalize [aN d.bV,aN d.peer,fj d.box,bM (u64 d.ae.length)]++d.ae.map cX=A at *
  have WR:(af bp A).length≤36:=by rw [aE (e:=3) (fun _=>rfl)];omega
  refine zE 1<|a6<|aM<|bm<|al<|zP 1 [yH [(3,{k:=d.ax.length}),(4,yC (mm ((↑d.ax.length:Int))))]] [.aa [5,60,40,4,28,13,8,3,2,1,0,6] [78,1]] [yI (aA d.ax),yI (mm ((↑d.ax.length:Int))),yO (((af bp A).length+3)*32≤422212465065984)]<|zS<|zq<|zB 3 (zL (fun (j:Nat)=>(⟨[(60,ao (decide ((↑d.ae.length:Int)<(↑(af ay d.ae).length:Int)))),(40,ao ((0:Int) != (0:Int))),(4,ai 0),(28,ao ((↑d.ax.length:Int) != (↑(af ay d.ae).length:Int))),(13,ao (!decide ((1:Int)≤d.need∧d.need≤(↑(af ay d.ae).length:Int)))),(8,ao (decide ((↑d.box.length:Int)>1024))),(3,ai 0),(2,AV.nil),(1,AV.addr 1 0),(0,AV.agg (bj d)),(6,ai (↑d.ae.length:Int)),(7,ai j),(5,AV.ref 5)],[(5,⟨3,true,false,af bp (A++ [bM (u64 d.ax.length)]++(d.ax.take j).map aN)⟩),(1,⟨1,false,true,bj d⟩)]⟩:AS)) (fun j=>(j≤d.ax.length)) (fun j=>(d.ax.length-j)) (0) ?_ (eS [.uX 78 5,.aa [60,40,4,28,13,8,3,2,1,0,6,7,5] [5,1]] [] [5] [yB (af bp A++(bp (bM (u64 (↑d.ax.length:Int))))=af bp (A++ [bM (u64 (↑d.ax.length:Int))]++List.map aN (List.take 0 d.ax))) (by rw [List.take_zero];exact (fb A [bM (u64 d.ax.length)]).trans (by simp))]) ?_)
  ·omega
  intro j hj
  refine zS<|zP 1 [yH [(3,{k:=d.ax.length})]] [.aa [83,60,40,4,28,13,8,3,2,1,0,6,7,5] [5,1]] [yI (aA d.ax)] (zD 83 ((↑j:Int)<(↑d.ax.length:Int)) (fun g2=>?_) (fun g2=>?_))
  ·have Cv:j<d.ax.length:=ag
   have gM:=dX (l:=d.ax) Cv
   have s2:=vy aN (A++ [bM (u64 d.ax.length)]) d.ax Cv 0
   refine a_<|zS<|zB 4<|zX (yH [(4,{k:=j}),(5,yV (aw (d.ax.getD j 0))),(6,yC (dp (d.ax.getD j 0)))]) [yR (↑j:Int),yB (j<(ah d.ax).length) (by simp only [aA];omega),yI gM,yI (dp (d.ax.getD j 0)),yB (((af bp (A++ [bM (u64 (↑d.ax.length:Int))]++List.map aN (List.take j d.ax))).length+3)*32≤422212465065984) (by simp only [List.length_append,List.length_cons,List.length_nil,List.length_take,List.length_map,aE (f:=bp) (e:=3) (fun _=>rfl)];omega)]<|aJ<|al<|zX (yH [(1,yV (ai ((↑j:Int)+1)))]) [yN ((↑j:Int)+1)] (aH (j+1) (by assumption) ag (eS [.uX 94 5,.aa [60,40,4,28,13,8,3,2,1,0,6,7,5] [5,1]] [] [5] [yB (af bp (A++ [bM (u64 (↑d.ax.length:Int))]++List.map aN (List.take j d.ax))++(bp (aN (d.ax.getD j 0)))=af bp (A++ [bM (u64 (↑d.ax.length:Int))]++List.map aN (List.take (j+1) d.ax))) (by assumption)]))
  ·have ej:j=d.ax.length:=ag
   subst ej
   rw [show d.ax.take d.ax.length=d.ax from List.take_length]
   refine zE 3<|a6<|aM<|bm<|al<|zP 1 [yH [(3,yV (aw (u64 d.need))),(4,yC (dp (u64 d.need)))]] [.aa [3,2,83,60,40,4,28,13,8,1,0,6,7] [101,1]] [yI (a7 d.need),yI (dp (u64 d.need)),yB (((af bp (A++ [bM (u64 (↑d.ax.length:Int))]++List.map aN d.ax)).length+3)*32≤422212465065984) (by simp only [List.length_append,List.length_cons,List.length_nil,List.length_map,aE (f:=bp) (e:=3) (fun _=>rfl)];omega)]<|zR (zV [yB (af bp (A++ [bM (u64 (↑d.ax.length:Int))]++List.map aN d.ax)++(bp (aN (u64 d.need)))=af bp (A++ [bM (u64 (↑d.ax.length:Int))]++List.map aN d.ax++ [aN (u64 d.need)])) (fb _ [aN (u64 d.need)]),yR (Value.int .i64 0)])
theorem yQ (x:fS) (hk:fg x.kind) (hd:x.cL.length≤100000) (h:x.kind=3∨x.kind=4∨x.cL= []):bG Tryz.prog 84 [.agg (bp x)] (cV (kb x)):=by
 rw [L4 x h]
 have hl:=my (u8 (x.kind-1)) (nu x)
 have hh:=Bd x hk hd
 generalize cQ (u8 (x.kind-1)) (nu x)=H at *
 have hs:(⟨H.toArray⟩:ByteArray).size+(⟨x.cL.toArray⟩:ByteArray).size≤9223372036854775807:=by
  show H.toArray.size+x.cL.toArray.size≤_
  rw [List.size_toArray,List.size_toArray]
  omega
 refine zO Tryz.func84 9<|zP 2 [{},{hs:=[(1,yC hh),(2,yV (cV H))],T:=5}] [.aa [2,1,0] [1]] [yI hh,yI (aV H),yR (aj H),yI hs]<|zR (bP)
def Pu (cs:List AV) (p:Nat) (v:Bool):AS:=⟨[(1,.addr 1 0),(p,ao v)],[(1,⟨1,false,true,cs⟩)]⟩
theorem yP (d:nH):bG Tryz.prog 129 [.agg (bj d)] (ao (decide (wu d))):=by
 have RM:(af ay d.ae).length=d.ae.length:=by rw [aE (e:=1) (fun _=>rfl)];omega
 have hR:(((((((d.bV == 0) && (d.peer == 0)) && ((d.box.length:Int) == 0)) && (((af ay d.ae).length:Int) == 0)) && ((d.ax.length:Int) == 0)) && (d.need == 0)) && (d.target == 0))=decide (wu d):=by
  unfold wu
  rw [Bool.eq_iff_iff,RM]
  simp [and_assoc]
 refine zO Tryz.func129 39<|bg.mj 1 [{}] bu (s':=AS.mk [(2,ao false),(1,AV.addr 1 0),(0,AV.agg (bj d))] [(1,Row.mk 1 false true (List.map (aF 1) (bj d)))]) (C:=[]) bu trivial<|zS (bg.Ik ⟨[(2,ao (decide (wu d)))],[]⟩ bu ?_ (al ?_))
 ·rw [←hR]
  refine dj.step 4 (Pu (bj d) 6 (d.bV == 0)) ?_ ?_
  ·refine mL [(2,yV (ao (d.bV == 0)))] [.aa [1,6] [1]] [yI (fe d.bV 0)]
  generalize (d.bV == 0)=b
  refine dj.step 5 (Pu (bj d) 11 (b && (d.peer == 0))) ?_ ?_
  ·cases b
   ·refine mL [(0,{g:=false}),(1,{g:=false}),(2,{g:=false}),(3,{b:=false})] [.aa [1,11] [1]] (yM 4 (yR false))
   refine mL [(2,yV (ao (d.peer == 0)))] [.aa [1,11] [1]] (yM 3 (yR true)++ [yI (fe d.peer 0),yR true])
  generalize (b && (d.peer == 0))=b
  refine dj.step 6 (Pu (bj d) 17 (b && ((d.box.length:Int) == 0))) ?_ ?_
  ·cases b
   ·refine mL [(0,{g:=false}),(1,{g:=false}),(2,{g:=false}),(3,{g:=false}),(4,{b:=false})] [.aa [1,17] [1]] (yM 5 (yR false))
   refine mL [(2,{k:=d.box.length})] [.aa [1,17] [1]] (yM 3 (yR true)++ [yI (aB d.box),yR true,yR true])
  generalize (b && ((d.box.length:Int) == 0))=b
  refine dj.step 6 (Pu (bj d) 23 (b && (((af ay d.ae).length:Int) == 0))) ?_ ?_
  ·cases b
   ·refine mL [(0,{g:=false}),(1,{g:=false}),(2,{g:=false}),(3,{g:=false}),(4,{b:=false})] [.aa [1,23] [1]] (yM 5 (yR false))
   refine mL [(2,{k:=(af ay d.ae).length})] [.aa [1,23] [1]] (yM 3 (yR true)++ [yR ((af ay d.ae).length),yR true,yR true])
  generalize (b && (((af ay d.ae).length:Int) == 0))=b
  refine dj.step 6 (Pu (bj d) 29 (b && ((d.ax.length:Int) == 0))) ?_ ?_
  ·cases b
   ·refine mL [(0,{g:=false}),(1,{g:=false}),(2,{g:=false}),(3,{g:=false}),(4,{b:=false})] [.aa [1,29] [1]] (yM 5 (yR false))
   refine mL [(2,{k:=d.ax.length})] [.aa [1,29] [1]] (yM 3 (yR true)++ [yI (aA d.ax),yR true,yR true])
  generalize (b && ((d.ax.length:Int) == 0))=b
  refine dj.step 5 (Pu (bj d) 34 (b && (d.need == 0))) ?_ ?_
  ·cases b
   ·refine mL [(0,{g:=false}),(1,{g:=false}),(2,{g:=false}),(3,{b:=false})] [.aa [1,34] [1]] (yM 4 (yR false))
   refine mL [] [.aa [1,34] [1]] (yM 4 (yR true))
  generalize (b && (d.need == 0))=b
  cases b
  ·refine mL [(0,{g:=false}),(1,{g:=false}),(2,{g:=false}),(3,{b:=false})] [.aa [2] []] (yM 4 (yR false))
  refine mL [(2,yV (ao (d.target == 0)))] [.aa [2] []] (yM 3 (yR true)++ [yI (fe d.target 0),yR true])
 refine zR (bP)
theorem M4 {x:UInt64} (h:wv x=0):x=0:=by
 have h:((x.toNat:Nat):Int)=0:=h
 exact UInt64.toNat_inj.1 (by rw [show x.toNat=0 by omega];rfl)
def OI (cs:List AV) (k:Int) (p:Nat) (v:Bool):AS:=⟨[(1,.addr 1 0),(3,ai k),(p,ao v)],[(1,⟨1,false,true,cs⟩)]⟩
def R0 (cs:List AV) (k:Int) (q p:Nat) (v:Bool):AS:=⟨[(1,.addr 1 0),(3,ai k),(q,ao true),(p,ao v)],[(1,⟨1,false,true,cs⟩)]⟩
def W9 (cs:List AV) (k:Int) (q p r:Nat) (v:Bool):AS:=⟨[(1,.addr 1 0),(3,ai k),(q,ao true),(p,ao false),(r,ao v)],[(1,⟨1,false,true,cs⟩)]⟩
theorem eO (e:fC):bG Tryz.prog 79 [.agg (bf e)] (ao (decide (fV e))):=by
 have hR:((((((((e.kind == 1) || (e.kind == 2)) || (e.name == [])) && ((e.kind == 1) || (e.kh == 0 && (wv e.kr == 0 && true)))) && ((e.kind == 3) || (e.bA == 0))) && ((e.kind == 4) || (decide (wu e.dep)))) && ((e.kind == 5) || ((e.bV == 0) && (e.target == 0)))) && (e.dep.target == 0))=decide (fV e):=by
  rw [Bool.eq_iff_iff,decide_eq_true_iff]
  unfold fV
  have hz:((e.kh == 0 && (wv e.kr == 0 && true))=true)↔(e.kh=0∧e.kr=0):=by
   rw [Bool.and_true,Bool.and_eq_true,beq_iff_eq,beq_iff_eq]
   exact ⟨fun h=>⟨h.1,M4 h.2⟩,fun h=>⟨h.1,by rw [h.2];rfl⟩⟩
  simp only [Bool.and_eq_true,Bool.or_eq_true,beq_iff_eq,hz,decide_eq_true_eq,and_assoc,or_assoc]
 refine zO Tryz.func79 65<|bg.qm 2 [{},{}] [.aa [3,2,1,0] [1]] bu (s':=AS.mk [(3,ai e.kind),(2,ao false),(1,AV.addr 1 0),(0,AV.agg (bf e))] [(1,Row.mk 1 false true (List.map (aF 1) (bf e)))]) (C:=[]) bu trivial<|zS (bg.Ik ⟨[(2,ao (decide (fV e)))],[]⟩ bu ?_ (al ?_))
 ·rw [←hR]
  refine dj.step 7 (OI (bf e) e.kind 12 ((e.kind == 1) || (e.kind == 2))) ?_ ?_
  ·refine dj.step 3 (OI (bf e) e.kind 8 (e.kind == 1)) ?_ ?_
   ·refine mL [] [.aa [1,3,8] [1]] []
   generalize (e.kind == 1)=b1
   cases b1
   ·refine mL [(0,{g:=false}),(1,{g:=false}),(2,{b:=false})] [.aa [1,3,12] [1]] (yM 3 (yR false))
   refine mL [] [.aa [1,3,12] [1]] (yM 3 (yR true))
  generalize ((e.kind == 1) || (e.kind == 2))=b
  refine dj.step 5 (OI (bf e) e.kind 17 (b || (e.name == []))) ?_ ?_
  ·cases b
   ·refine mL [(0,{g:=false}),(1,{g:=false}),(2,{av:=some (ao (e.name == [])),g:=false}),(3,{b:=false})] [.aa [1,3,17] [1]] (yM 3 (yR false)++ [yI (fF e.name []),yR false])
   refine mL [] [.aa [1,3,17] [1]] (yM 4 (yR true))
  generalize (b || (e.name == []))=b
  refine dj.step 10 (OI (bf e) e.kind 27 (b && ((e.kind == 1) || (e.kh == 0 && (wv e.kr == 0 && true))))) ?_ ?_
  ·cases b
   ·refine mL [(0,{g:=false}),(1,{g:=false}),(2,{g:=false}),(7,{g:=false}),(8,{b:=false})] [.aa [1,3,27] [1]] (yM 5 (yR false))
   refine dj.step 3 (R0 (bf e) e.kind 17 20 (e.kind == 1)) ?_ ?_
   ·refine mL [] [.aa [1,3,17,20] [1]] (yM 3 (yR true))
   generalize (e.kind == 1)=c
   cases c
   ·refine mL [(0,{g:=false}),(1,{g:=false}),(2,{g:=false}),(3,{g:=false}),(4,{b:=false})] [.aa [1,3,27] [1]] (yM 4 (yR false)++ [yR true,yR false,yR true])
   refine mL [] [.aa [1,3,27] [1]] (yM 7 (yR true))
  generalize (b && ((e.kind == 1) || (e.kh == 0 && (wv e.kr == 0 && true))))=b
  refine dj.step 9 (OI (bf e) e.kind 36 (b && ((e.kind == 3) || (e.bA == 0)))) ?_ ?_
  ·cases b
   ·refine mL [(0,{g:=false}),(1,{g:=false}),(2,{g:=false}),(6,{g:=false}),(7,{b:=false})] [.aa [1,3,36] [1]] (yM 5 (yR false))
   refine dj.step 3 (R0 (bf e) e.kind 27 30 (e.kind == 3)) ?_ ?_
   ·refine mL [] [.aa [1,3,27,30] [1]] (yM 3 (yR true))
   generalize (e.kind == 3)=c
   cases c
   ·refine mL [(0,{g:=false}),(1,{g:=false}),(2,{g:=false}),(3,{b:=false})] [.aa [1,3,36] [1]] (yM 3 (yR false)++ [yR true,yR false,yR true])
   refine mL [] [.aa [1,3,36] [1]] (yM 6 (yR true))
  generalize (b && ((e.kind == 3) || (e.bA == 0)))=b
  refine dj.step 9 (OI (bf e) e.kind 45 (b && ((e.kind == 4) || (decide (wu e.dep))))) ?_ ?_
  ·cases b
   ·refine mL [(0,{g:=false}),(1,{g:=false}),(2,{g:=false}),(6,{g:=false}),(7,{b:=false})] [.aa [1,3,45] [1]] (yM 5 (yR false))
   refine dj.step 3 (R0 (bf e) e.kind 36 39 (e.kind == 4)) ?_ ?_
   ·refine mL [] [.aa [1,3,36,39] [1]] (yM 3 (yR true))
   generalize (e.kind == 4)=c
   cases c
   ·refine mL [(0,{g:=false}),(1,{g:=false}),(2,{av:=some (ao (decide (wu e.dep))),g:=false}),(3,{b:=false})] [.aa [1,3,45] [1]] (yM 3 (yR false)++ [yI (yP e.dep),yR true,yR false,yR true])
   refine mL [] [.aa [1,3,45] [1]] (yM 6 (yR true))
  generalize (b && ((e.kind == 4) || (decide (wu e.dep))))=b
  refine dj.step 14 (OI (bf e) e.kind 59 (b && ((e.kind == 5) || ((e.bV == 0) && (e.target == 0))))) ?_ ?_
  ·cases b
   ·refine mL [(0,{g:=false}),(1,{g:=false}),(2,{g:=false}),(11,{g:=false}),(12,{b:=false})] [.aa [1,3,59] [1]] (yM 5 (yR false))
   refine dj.step 3 (R0 (bf e) e.kind 45 48 (e.kind == 5)) ?_ ?_
   ·refine mL [] [.aa [1,3,45,48] [1]] (yM 3 (yR true))
   generalize (e.kind == 5)=c
   cases c
   ·refine dj.step 4 (W9 (bf e) e.kind 45 48 52 (e.bV == 0)) ?_ ?_
    ·refine mL [(0,{g:=false}),(1,{g:=false}),(2,{av:=some (ao (e.bV == 0)),g:=false}),(3,{g:=false})] [.aa [1,3,45,48,52] [1]] (yM 3 (yR false)++ [yI (fe e.bV 0),yR false])
    generalize (e.bV == 0)=c
    cases c
    ·refine mL [(0,{g:=false}),(1,{g:=false}),(2,{g:=false}),(3,{b:=false,g:=false}),(4,{b:=false})] [.aa [1,3,59] [1]] (yM 5 (yR false)++ [yR true,yR false,yR true])
    refine mL [(2,yV (ao (e.target == 0))),(3,{g:=false}),(4,{b:=false})] [.aa [1,3,59] [1]] (yM 3 (yR true)++ [yI (fe e.target 0),yR false,yR true,yR true,yR false,yR true])
   refine mL [] [.aa [1,3,59] [1]] (yM 8 (yR true))
  generalize (b && ((e.kind == 5) || ((e.bV == 0) && (e.target == 0))))=b
  cases b
  ·refine mL [(0,{g:=false}),(1,{g:=false}),(2,{g:=false}),(3,{g:=false}),(4,{b:=false})] [.aa [2] []] (yM 5 (yR false))
  refine mL [(3,yV (ao (e.dep.target == 0)))] [.aa [2] []] (yM 4 (yR true)++ [yI (fe e.dep.target 0),yR true])
 refine zR (bP)
end Go.Proofs.YtjgbhhnghedgdaaGreatDoor
