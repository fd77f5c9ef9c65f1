import Derived.Test.YtjgbhhnghedgdaaGreatDoorZmGrB3
set_option linter.all false
namespace Go.Proofs.YtjgbhhnghedgdaaGreatDoor
open Go.RowKit
set_option maxRecDepth 100000
set_option maxHeartbeats 4000000
theorem gY (n:UInt64):bC Tryz.prog 83 [aw n] (.agg (aY (aJ n))):=by
 refine zO Tryz.func83 5<|zP 2 [{},{}] [.aa [2,0] [2]] [yL 3 3]<|zR (bL)
theorem q7 (b:List UInt8):bC Tryz.prog 130 [cQ b] (.agg (aY (cz b))):=by
 refine zO Tryz.func130 5<|zP 2 [{},{}] [.aa [2,0] [2]] [yL 3 3]<|zR (bL)
theorem wX (b:List UInt8) (hb:b.length≤1000000):bC Tryz.prog 131 [.sl 1 (ag b)] (.agg (aY (dY b))):=by
 refine zO Tryz.func131 6<|zP 2 [{},yH [(1,yV (cQ b))]] [.aa [2,0] [2]] [yR (ag b),yL 3 3]<|zR (bL)
theorem um (n:Int):bC Tryz.prog 81 [ai n] (.agg (aY (bF (u64 n)))):=by
 refine zO Tryz.func81 6<|zP 2 [{},yH [(1,yV (aw (u64 n)))]] [.aa [2,0] [2]] [yI (ba n),yL 3 3]<|zR (bL)
def nc (x:fJ):UInt64:=if x.kind=3∨x.kind=4 then u64 x.cI.length else x.num
theorem LO (x:fJ) (h:x.kind=3∨x.kind=4∨x.cI= []):jl x=cG (u8 (x.kind-1)) (nc x)++x.cI:=by
 unfold jl nc
 by_cases c:x.kind=3∨x.kind=4
 ·rw [if_pos c,if_pos c]
 ·rw [if_neg c,if_neg c,show x.cI= [] by rcases h with h|h|h;exact absurd (.inl h) c;exact absurd (.inr h) c;exact h,List.append_nil]
theorem QN (n:UInt64):words [n]=o8 n 8 8:=rfl
theorem Ls {m:UInt8} {n:UInt64} (h:wv n<24):cG m n= [m<<<5+n.toUInt8]:=if_pos h
theorem NJ {m:UInt8} {n:UInt64} (h1:¬wv n<24) (h:wv n<256):cG m n= [m<<<5+24,n.toUInt8]:=by unfold cG;rw [if_neg h1,if_pos h];simp [o8]
theorem NI {m:UInt8} {n:UInt64} (h1:¬wv n<256) (h:wv n<65536):cG m n= [m<<<5+25,(n>>>8).toUInt8,n.toUInt8]:=by unfold cG;rw [if_neg ah,if_neg h1,if_pos h];simp [o8,List.range_succ]
theorem NH {m:UInt8} {n:UInt64} (h1:¬wv n<65536) (h:wv n<4294967296):cG m n= [m<<<5+26,(n>>>24).toUInt8,(n>>>16).toUInt8,(n>>>8).toUInt8,n.toUInt8]:=by unfold cG;rw [if_neg ah,if_neg ah,if_neg h1,if_pos h];simp [o8,List.range_succ]
theorem NG {m:UInt8} {n:UInt64} (h1:¬wv n<4294967296):cG m n=(m<<<5+27)::words [n]:=by unfold cG;rw [if_neg ah,if_neg ah,if_neg ah,if_neg h1,QN]
theorem AR (x:fJ) (hk:eO x.kind) (hd:x.cI.length≤100000):bC Tryz.prog 133 [.agg (aY x)] (.own 1 (ag (cG (u8 (x.kind-1)) (nc x)))):=by
 refine zO Tryz.func133 87<|zP 3 [{},{},{}] [.aa [4,3,2,1,0] [1]] [] (bf.nJ (fun (p:UInt64×UInt8)=>(⟨[(1,AV.addr 1 0),(0,AV.agg (aY x)),(3,aw p.1),(4,ab p.2)],[(1,⟨1,false,true,List.map (aB 1) (aY x)⟩)]⟩:AS)) (fun p=>(p=(nc x,u8 (x.kind-1)<<<5))) bt ?_ ?_)
 ·rcases hk with k|k|k|k
  ·have e:nc x=x.num:=if_neg ah
   have e2:u8 (x.kind-1)<<<5=0:=by rw [k];decide
   refine zq<|zB 0<|zP 1 [{}] [.aa [9,8,4,3,2,1,0] [1]] []<|bj 9 (x.kind == (7:Int)) bD<|zq<|bj 15 (x.kind == (8:Int)) bD<|zP 1 [{}] [.aa [18,15,9,8,4,3,2,1,0] [1]] []<|bj 18 (x.kind == (2:Int)) bD<|zq<|bj 20 (x.kind == (3:Int)) bD<|zP 1 [{}] [.aa [26,20,18,15,9,8,4,3,2,1,0] [1]] []<|bj 26 (x.kind == (4:Int)) bD<|zq<|bj 32 (x.kind == (5:Int)) bD<|zP 1 [{}] [.aa [34,32,26,20,18,15,9,8,4,3,2,1,0] [1]] []<|bj 34 (x.kind == (6:Int)) bD<|zK<|aM<|ak (⟨(nc x,u8 (x.kind-1)<<<5),rfl,(eu [.aa [1,0,3,4] [1]] [3,4] [] [yB (aw x.num=aw (nc x)) (by rw [e]),yB (AV.val (Value.int .u8 0)=ab (u8 (x.kind-1)<<<(5:UInt8))) (by rw [e2];rfl)])⟩)
  ·have e:nc x=u64 x.cI.length:=if_pos (.inl k)
   have e2:u8 (x.kind-1)<<<5=64:=by rw [k];decide
   refine zq<|zB 0<|zP 1 [{}] [.aa [9,8,4,3,2,1,0] [1]] []<|bj 9 (x.kind == (7:Int)) bD<|zq<|bj 15 (x.kind == (8:Int)) bD<|zP 1 [{}] [.aa [18,15,9,8,4,3,2,1,0] [1]] []<|bj 18 (x.kind == (2:Int)) bD<|zq<|dm 20 (x.kind == (3:Int)) eg<|zX ({hs:=[(2,yV (ai (↑x.cI.length:Int))),(3,yV (aw (u64 (↑x.cI.length:Int))))],T:=5}) [yR (ai (↑x.cI.length:Int)),yI (ba ((↑x.cI.length:Int)))]<|aM<|ak (⟨(nc x,u8 (x.kind-1)<<<5),rfl,(eu [.aa [1,0,3,4] [1]] [3,4] [] [yB (aw (u64 (↑x.cI.length:Int))=aw (nc x)) (by rw [e]),yB (AV.val (Value.int .u8 64)=ab (u8 (x.kind-1)<<<(5:UInt8))) (by rw [e2];rfl)])⟩)
  ·have e:nc x=u64 x.cI.length:=if_pos (.inr k)
   have e2:u8 (x.kind-1)<<<5=96:=by rw [k];decide
   refine zq<|zB 0<|zP 1 [{}] [.aa [9,8,4,3,2,1,0] [1]] []<|bj 9 (x.kind == (7:Int)) bD<|zq<|bj 15 (x.kind == (8:Int)) bD<|zP 1 [{}] [.aa [18,15,9,8,4,3,2,1,0] [1]] []<|bj 18 (x.kind == (2:Int)) bD<|zq<|bj 20 (x.kind == (3:Int)) bD<|zP 1 [{}] [.aa [26,20,18,15,9,8,4,3,2,1,0] [1]] []<|dm 26 (x.kind == (4:Int)) eg<|zX ({hs:=[(2,yV (ai (↑x.cI.length:Int))),(3,yV (aw (u64 (↑x.cI.length:Int))))],T:=5}) [yR (ai (↑x.cI.length:Int)),yI (ba ((↑x.cI.length:Int)))]<|aM<|ak (⟨(nc x,u8 (x.kind-1)<<<5),rfl,(eu [.aa [1,0,3,4] [1]] [3,4] [] [yB (aw (u64 (↑x.cI.length:Int))=aw (nc x)) (by rw [e]),yB (AV.val (Value.int .u8 96)=ab (u8 (x.kind-1)<<<(5:UInt8))) (by rw [e2];rfl)])⟩)
  ·have e:nc x=x.num:=if_neg ah
   have e2:u8 (x.kind-1)<<<5=128:=by rw [k];decide
   refine zq<|zB 0<|zP 1 [{}] [.aa [9,8,4,3,2,1,0] [1]] []<|bj 9 (x.kind == (7:Int)) bD<|zq<|bj 15 (x.kind == (8:Int)) bD<|zP 1 [{}] [.aa [18,15,9,8,4,3,2,1,0] [1]] []<|bj 18 (x.kind == (2:Int)) bD<|zq<|bj 20 (x.kind == (3:Int)) bD<|zP 1 [{}] [.aa [26,20,18,15,9,8,4,3,2,1,0] [1]] []<|bj 26 (x.kind == (4:Int)) bD<|zq<|dm 32 (x.kind == (5:Int)) eg<|zX {} []<|aM<|ak (⟨(nc x,u8 (x.kind-1)<<<5),rfl,(eu [.aa [1,0,3,4] [1]] [3,4] [] [yB (aw x.num=aw (nc x)) (by rw [e]),yB (AV.val (Value.int .u8 128)=ab (u8 (x.kind-1)<<<(5:UInt8))) (by rw [e2];rfl)])⟩)
 rintro ⟨n,M⟩ hp
 injection hp with hn hM
 rw [←hn]
 clear hn
 simp only
 by_cases c1:wv n<24
 ·have e:=Ls (m:=u8 (x.kind-1)) c1
  rw [←hM] at e
  rw [e]
  refine zS<|zB 1<|zP 1 [{}] [.aa [36,1,0,3,4] [1]] []<|gN 36 (wv n<24)<|zP 1 [yH [(2,yV (ab n.toUInt8)),(3,yV (ab (M+n.toUInt8))),(4,yV (AV.arr (ag [M+n.toUInt8])))]] [.aa [2,36,1,0,3,4] [43,1]] [yR (ab n.toUInt8),yR (ab (M+n.toUInt8)),yR [ab (M+n.toUInt8)]]<|zR<|bc<|aN (bL)
 by_cases c2:wv n<256
 ·have e:=NJ (m:=u8 (x.kind-1)) c1 c2
  rw [←hM] at e
  rw [e]
  refine zS<|zB 1<|zP 1 [{}] [.aa [36,1,0,3,4] [1]] []<|dq 36 (wv n<24)<|zP 1 [{}] [.aa [44,36,1,0,3,4] [1]] []<|gN 44 (wv n<256)<|zP 1 [yH [(1,yV (ab (M+24))),(3,yV (ab n.toUInt8)),(4,yV (AV.arr (ag [M+24,n.toUInt8])))]] [.aa [2,44,36,1,0,3,4] [51,1]] [yR (ab (M+24)),yR (ab n.toUInt8),yR (ag [M+24,n.toUInt8])]<|zR<|bc<|aN (bL)
 by_cases c3:wv n<65536
 ·have e:=NI (m:=u8 (x.kind-1)) c2 c3
  rw [←hM] at e
  rw [e]
  refine zS<|zB 1<|zP 1 [{}] [.aa [36,1,0,3,4] [1]] []<|dq 36 (wv n<24)<|zP 1 [{}] [.aa [44,36,1,0,3,4] [1]] []<|dq 44 (wv n<256)<|zP 1 [{}] [.aa [52,44,36,1,0,3,4] [1]] []<|gN 52 (wv n<65536)<|zP 1 [yH [(1,yV (ab (M+25))),(3,yV (aw (n>>>(8:UInt64)))),(4,yV (ab ((n>>>(8:UInt64)).toUInt8))),(6,yV (ab n.toUInt8)),(7,yV (AV.arr (ag [M+25,(n>>>(8:UInt64)).toUInt8,n.toUInt8])))]] [.aa [2,52,44,36,1,0,3,4] [62,1]] [yR (ab (M+25)),yI (fq n ((8:Int)) ah ah),yO ((0:Int)≤8),yR (ab ((n>>>(8:UInt64)).toUInt8)),yR (ab n.toUInt8),yR (ag [M+25,(n>>>(8:UInt64)).toUInt8,n.toUInt8])]<|zR<|bc<|aN (bL)
 by_cases c4:wv n<4294967296
 ·have e:=NH (m:=u8 (x.kind-1)) c3 c4
  rw [←hM] at e
  rw [e]
  refine zS<|zB 1<|zP 1 [{}] [.aa [36,1,0,3,4] [1]] []<|dq 36 (wv n<24)<|zP 1 [{}] [.aa [44,36,1,0,3,4] [1]] []<|dq 44 (wv n<256)<|zP 1 [{}] [.aa [52,44,36,1,0,3,4] [1]] []<|dq 52 (wv n<65536)<|zP 1 [{}] [.aa [63,52,44,36,1,0,3,4] [1]] []<|gN 63 (wv n<4294967296)<|zP 1 [yH [(1,yV (ab (M+26))),(3,yV (aw (n>>>(24:UInt64)))),(4,yV (ab ((n>>>(24:UInt64)).toUInt8))),(6,yV (aw (n>>>(16:UInt64)))),(7,yV (ab ((n>>>(16:UInt64)).toUInt8))),(9,yV (aw (n>>>(8:UInt64)))),(10,yV (ab ((n>>>(8:UInt64)).toUInt8))),(12,yV (ab n.toUInt8)),(13,yV (AV.arr (ag [M+26,(n>>>(24:UInt64)).toUInt8,(n>>>(16:UInt64)).toUInt8,(n>>>(8:UInt64)).toUInt8,n.toUInt8])))]] [.aa [2,63,52,44,36,1,0,3,4] [79,1]] [yR (ab (M+26)),yI (fq n ((24:Int)) ah ah),yO ((0:Int)≤24),yR (ab ((n>>>(24:UInt64)).toUInt8)),yI (fq n ((16:Int)) ah ah),yO ((0:Int)≤16),yR (ab ((n>>>(16:UInt64)).toUInt8)),yI (fq n ((8:Int)) ah ah),yO ((0:Int)≤8),yR (ab ((n>>>(8:UInt64)).toUInt8)),yR (ab n.toUInt8),yR (ag [M+26,(n>>>(24:UInt64)).toUInt8,(n>>>(16:UInt64)).toUInt8,(n>>>(8:UInt64)).toUInt8,n.toUInt8])]<|zR<|bc<|aN (bL)
 ·have e:=NG (m:=u8 (x.kind-1)) c4
  rw [←hM] at e
  rw [e]
  refine zS<|zB 1<|zP 1 [{}] [.aa [36,1,0,3,4] [1]] []<|dq 36 (wv n<24)<|zP 1 [{}] [.aa [44,36,1,0,3,4] [1]] []<|dq 44 (wv n<256)<|zP 1 [{}] [.aa [52,44,36,1,0,3,4] [1]] []<|dq 52 (wv n<65536)<|zP 1 [{}] [.aa [63,52,44,36,1,0,3,4] [1]] []<|dq 63 (wv n<4294967296)<|zK<|aM<|ak<|zP 1 [yH [(1,yV (ab (M+27))),(2,yV (AV.arr (ag [M+27]))),(4,yV (AV.arr (aj [n]))),(5,yV (AV.own 1 (ag (words [n])))),(6,yV (AV.arr (ag ([M+27]++words [n]))))]] [.aa [2,63,52,44,36,1,0,3,4] [86,1]] [yR (ab (M+27)),yR [ab (M+27)],yR [aw n],yI (dA [n] (by simp only [List.length_cons,List.length_nil];omega)),yI (aP (words [n])),yR (ag ([M+27]++words [n])),yL 9 140737488355328]<|zR (bL)
theorem uN {T:Type} (f:T->fJ) (p:List fJ) (l:List T) {i:Nat} (h:i<l.length) (z:T):ae aY (p++(l.take i).map f)++aY (f (l.getD i z))=ae aY (p++(l.take (i+1)).map f):=by
 rw [List.take_add_one,List.map_append,←List.append_assoc,List.getD_eq_getElem?_getD,List.getElem?_eq_getElem h]
 exact fG (p++(l.take i).map f) [f l[i]]
theorem CI (d:np) (hB:zZ d):bC Tryz.prog 132 [.agg (a_ d)] (.bk [.own 3 (ae aY (if fH d=0 then vw d else [])),ai (fH d)]):=by
 have oJ:(ae ax d.af).length=d.af.length:=by rw [aE (e:=1) (fun _=>rfl)];omega
 obtain ⟨b1,b2,b3,hh⟩:=hB
 by_cases c1:1024<d.box.length
 ·have e:fH d=8:=if_pos c1
  rw [e,if_neg ah]
  refine zO Tryz.func132 102<|zq<|zS<|zB 0<|zP 1 [yH [(2,{k:=d.box.length})]] [.aa [8,3,2,1,0] [1]] [yI (aD d.box)]<|gN 8 ((↑d.box.length:Int)>1024)<|zq<|zR<|bc<|aN (bL)
 by_cases c2:nX d.af.length d.need
 ·have e:fH d=9:=by unfold fH;rw [if_neg c1,if_pos c2]
  unfold nX at c2
  rw [e,if_neg ah]
  by_cases k1:1≤d.af.length∧d.af.length≤8
  ·have k2:¬(1≤d.need∧d.need≤d.af.length):=ah
   have TF:1≤(d.af.length:Int)∧(d.af.length:Int)≤8:=ah
   refine zO Tryz.func132 102<|zq<|zS<|zB 0<|zP 1 [yH [(2,{k:=d.box.length})]] [.aa [8,3,2,1,0] [1]] [yI (aD d.box)]<|dq 8 ((↑d.box.length:Int)>1024)<|zP 1 [yH ([(2,{k:=(ae ax d.af).length}),(3,yV (ao (decide ((1:Int)≤(↑(ae ax d.af).length:Int)∧(↑(ae ax d.af).length:Int)≤8)))),(10,{k:=(ae ax d.af).length,g:=false}),(11,{av:=some (ao (decide ((1:Int)≤d.need∧d.need≤(↑(ae ax d.af).length:Int)))),g:=false}),(13,{b:=false})]++yg [6,7,8,9,12])] [.aa [13,8,3,2,1,0] [1]] ([yR ((ae ax d.af).length),yI (bq (↑(ae ax d.af).length:Int) ((1:Int)) ((8:Int)))]++yM 5 (yS ((!decide ((1:Int)≤(↑(ae ax d.af).length:Int)∧(↑(ae ax d.af).length:Int)≤8))=false))++ [yR ((ae ax d.af).length),yS ((!decide ((1:Int)≤(↑(ae ax d.af).length:Int)∧(↑(ae ax d.af).length:Int)≤8))=false),yI (bq d.need ((1:Int)) (↑(ae ax d.af).length:Int))]++yM 2 (yS ((!decide ((1:Int)≤(↑(ae ax d.af).length:Int)∧(↑(ae ax d.af).length:Int)≤8))=false)))<|dm 13 (!decide ((1:Int)≤d.need∧d.need≤(↑(ae ax d.af).length:Int))) (by simp;omega)<|zq<|zR<|bc<|aN (bL)
  ·have TF:¬(1≤(d.af.length:Int)∧(d.af.length:Int)≤8):=ah
   refine zO Tryz.func132 102<|zq<|zS<|zB 0<|zP 1 [yH [(2,{k:=d.box.length})]] [.aa [8,3,2,1,0] [1]] [yI (aD d.box)]<|dq 8 ((↑d.box.length:Int)>1024)<|zP 1 [yH [(2,{k:=(ae ax d.af).length}),(3,yV (ao (decide ((1:Int)≤(↑(ae ax d.af).length:Int)∧(↑(ae ax d.af).length:Int)≤8))))]] [.aa [13,8,3,2,1,0] [1]] ([yR ((ae ax d.af).length),yI (bq (↑(ae ax d.af).length:Int) ((1:Int)) ((8:Int)))]++yM 8 (yB ((!decide ((1:Int)≤(↑(ae ax d.af).length:Int)∧(↑(ae ax d.af).length:Int)≤8))=true) (by simp;omega)))<|zT 13<|zq<|zR<|bc<|aN (bL)
 unfold nX at c2
 have TF:1≤(d.af.length:Int)∧(d.af.length:Int)≤8:=ah
 have Q2:1≤d.need∧d.need≤(d.af.length:Int):=ah
 by_cases c3:d.ay.length≠d.af.length
 ·have e:fH d=4:=by unfold fH;rw [if_neg c1,if_neg (by unfold nX;exact c2),if_pos c3]
  rw [e,if_neg ah]
  refine zO Tryz.func132 102<|zq<|zS<|zB 0<|zP 1 [yH [(2,{k:=d.box.length})]] [.aa [8,3,2,1,0] [1]] [yI (aD d.box)]<|dq 8 ((↑d.box.length:Int)>1024)<|zP 1 [yH ([(2,{k:=(ae ax d.af).length}),(3,yV (ao (decide ((1:Int)≤(↑(ae ax d.af).length:Int)∧(↑(ae ax d.af).length:Int)≤8)))),(10,{k:=(ae ax d.af).length,g:=false}),(11,{av:=some (ao (decide ((1:Int)≤d.need∧d.need≤(↑(ae ax d.af).length:Int)))),g:=false}),(13,{b:=false})]++yg [6,7,8,9,12])] [.aa [13,8,3,2,1,0] [1]] ([yR ((ae ax d.af).length),yI (bq (↑(ae ax d.af).length:Int) ((1:Int)) ((8:Int)))]++yM 5 (yS ((!decide ((1:Int)≤(↑(ae ax d.af).length:Int)∧(↑(ae ax d.af).length:Int)≤8))=false))++ [yR ((ae ax d.af).length),yS ((!decide ((1:Int)≤(↑(ae ax d.af).length:Int)∧(↑(ae ax d.af).length:Int)≤8))=false),yI (bq d.need ((1:Int)) (↑(ae ax d.af).length:Int))]++yM 2 (yS ((!decide ((1:Int)≤(↑(ae ax d.af).length:Int)∧(↑(ae ax d.af).length:Int)≤8))=false)))<|bj 13 (!decide ((1:Int)≤d.need∧d.need≤(↑(ae ax d.af).length:Int))) (by simp_all)<|zP 1 [yH [(2,{k:=d.ay.length}),(5,{k:=(ae ax d.af).length})]] [.aa [28,13,8,3,2,1,0] [1]] [yI (aC d.ay),yR ((ae ax d.af).length)]<|dm 28 ((↑d.ay.length:Int) != (↑(ae ax d.af).length:Int)) (by simp;omega)<|zq<|zR<|bc<|aN (bL)
 have e:fH d=ff (mN d.af) d.af.length:=by unfold fH;rw [if_neg c1,if_neg (by unfold nX;exact c2),if_neg c3]
 have We:d.ay.length=d.af.length:=ah
 have hr:=mu d.af b2 hh
 rw [←e] at hr
 by_cases c:fH d=0
 case neg =>
  rw [if_neg c]
  refine zO Tryz.func132 102<|zq<|zS<|zB 0<|zP 1 [yH [(2,{k:=d.box.length})]] [.aa [8,3,2,1,0] [1]] [yI (aD d.box)]<|dq 8 ((↑d.box.length:Int)>1024)<|zP 1 [yH ([(2,{k:=(ae ax d.af).length}),(3,yV (ao (decide ((1:Int)≤(↑(ae ax d.af).length:Int)∧(↑(ae ax d.af).length:Int)≤8)))),(10,{k:=(ae ax d.af).length,g:=false}),(11,{av:=some (ao (decide ((1:Int)≤d.need∧d.need≤(↑(ae ax d.af).length:Int)))),g:=false}),(13,{b:=false})]++yg [6,7,8,9,12])] [.aa [13,8,3,2,1,0] [1]] ([yR ((ae ax d.af).length),yI (bq (↑(ae ax d.af).length:Int) ((1:Int)) ((8:Int)))]++yM 5 (yS ((!decide ((1:Int)≤(↑(ae ax d.af).length:Int)∧(↑(ae ax d.af).length:Int)≤8))=false))++ [yR ((ae ax d.af).length),yS ((!decide ((1:Int)≤(↑(ae ax d.af).length:Int)∧(↑(ae ax d.af).length:Int)≤8))=false),yI (bq d.need ((1:Int)) (↑(ae ax d.af).length:Int))]++yM 2 (yS ((!decide ((1:Int)≤(↑(ae ax d.af).length:Int)∧(↑(ae ax d.af).length:Int)≤8))=false)))<|bj 13 (!decide ((1:Int)≤d.need∧d.need≤(↑(ae ax d.af).length:Int))) (by simp_all)<|zP 1 [yH [(2,{k:=d.ay.length}),(5,{k:=(ae ax d.af).length})]] [.aa [28,13,8,3,2,1,0] [1]] [yI (aC d.ay),yR ((ae ax d.af).length)]<|bj 28 ((↑d.ay.length:Int) != (↑(ae ax d.af).length:Int)) (by simp_all)<|zK<|aM<|ak<|zS<|zP 2 [yH [(2,yV (ai (fH d)))],yH [(1,yV (ao true))]] [.aa [40,4,28,13,8,3,2,1,0] [1]] [yI hr,yB (ao (fH d != (0:Int))=ao true) (by simp [c])]<|zT 40<|zq<|dd (bL)
 rw [if_pos c,c]
 rw [c] at hr
 clear e c2
 refine zO Tryz.func132 102<|zq<|zS<|zB 0<|zP 1 [yH [(2,{k:=d.box.length})]] [.aa [8,3,2,1,0] [1]] [yI (aD d.box)]<|dq 8 ((↑d.box.length:Int)>1024)<|zP 1 [yH ([(2,{k:=(ae ax d.af).length}),(3,yV (ao (decide ((1:Int)≤(↑(ae ax d.af).length:Int)∧(↑(ae ax d.af).length:Int)≤8)))),(10,{k:=(ae ax d.af).length,g:=false}),(11,{av:=some (ao (decide ((1:Int)≤d.need∧d.need≤(↑(ae ax d.af).length:Int)))),g:=false}),(13,{b:=false})]++yg [6,7,8,9,12])] [.aa [13,8,3,2,1,0] [1]] ([yR ((ae ax d.af).length),yI (bq (↑(ae ax d.af).length:Int) ((1:Int)) ((8:Int)))]++yM 5 (yS ((!decide ((1:Int)≤(↑(ae ax d.af).length:Int)∧(↑(ae ax d.af).length:Int)≤8))=false))++ [yR ((ae ax d.af).length),yS ((!decide ((1:Int)≤(↑(ae ax d.af).length:Int)∧(↑(ae ax d.af).length:Int)≤8))=false),yI (bq d.need ((1:Int)) (↑(ae ax d.af).length:Int))]++yM 2 (yS ((!decide ((1:Int)≤(↑(ae ax d.af).length:Int)∧(↑(ae ax d.af).length:Int)≤8))=false)))<|bj 13 (!decide ((1:Int)≤d.need∧d.need≤(↑(ae ax d.af).length:Int))) (by simp_all)<|zP 1 [yH [(2,{k:=d.ay.length}),(5,{k:=(ae ax d.af).length})]] [.aa [28,13,8,3,2,1,0] [1]] [yI (aC d.ay),yR ((ae ax d.af).length)]<|bj 28 ((↑d.ay.length:Int) != (↑(ae ax d.af).length:Int)) (by simp_all)<|zK<|aM<|ak<|zS<|zP 2 [yH [(2,yV (ai 0))],{}] [.aa [40,4,28,13,8,3,2,1,0] [1]] [yI hr]<|zF 40<|aW<|zP 1 [{hs:=[(2,yV (AV.agg (aY (aJ d.bY)))),(5,yV (AV.agg (aY (aJ d.peer)))),(8,yV (AV.agg (aY (dY d.box)))),(11,{k:=(ae ax d.af).length}),(12,yV (AV.agg [ai ((bF (u64 (↑(ae ax d.af).length:Int))).kind),aw ((bF (u64 (↑(ae ax d.af).length:Int))).num),AV.val (Value.string (ByteArray.mk (bF (u64 (↑(ae ax d.af).length:Int))).cI.toArray))]))],T:=12}] [.aa [5,40,4,28,13,8,3,2,1,0] [55,1]] [yI (gY d.bY),yI (gY d.peer),yI (wX d.box b1),yR ((ae ax d.af).length),yI (um (↑(ae ax d.af).length:Int))]<|zS<|zq<|zB 1 (zL (fun (i:Nat)=>(⟨[(40,ao ((0:Int) != (0:Int))),(4,ai 0),(28,ao ((↑d.ay.length:Int) != (↑(ae ax d.af).length:Int))),(13,ao (!decide ((1:Int)≤d.need∧d.need≤(↑(ae ax d.af).length:Int)))),(8,ao (decide ((↑d.box.length:Int)>1024))),(3,ai 0),(2,AV.nil),(1,AV.addr 1 0),(0,AV.agg (a_ d)),(6,ai i),(5,AV.ref 5)],[(5,⟨3,true,false,ae aY ([aJ d.bY,aJ d.peer,dY d.box,bF (u64 d.af.length)]++(d.af.take i).map cz)⟩),(1,⟨1,false,true,a_ d⟩)]⟩:AS)) (fun i=>(i≤d.af.length)) (fun i=>(d.af.length-i)) (0) ?_ (eu [.vK 55 5,.loose 5,.aa [40,4,28,13,8,3,2,1,0,6,5] [5,1]] [] [5] [yB ([ai ((aJ d.bY).kind),aw ((aJ d.bY).num),cQ (aJ d.bY).cI,ai ((aJ d.peer).kind),aw ((aJ d.peer).num),cQ (aJ d.peer).cI,ai ((dY d.box).kind),aw ((dY d.box).num),cQ (dY d.box).cI,ai ((bF (u64 (↑(ae ax d.af).length:Int))).kind),aw ((bF (u64 (↑(ae ax d.af).length:Int))).num),AV.val (Value.string (ByteArray.mk (bF (u64 (↑(ae ax d.af).length:Int))).cI.toArray))]=ae aY ([aJ d.bY,aJ d.peer,dY d.box,bF (u64 (↑d.af.length:Int))]++List.map cz (List.take 0 d.af))) (by rw [oJ];rfl)]) ?_)
 ·omega
 intro i hi
 refine zS<|zP 1 [yH [(3,{k:=(ae ax d.af).length})]] [.aa [60,40,4,28,13,8,3,2,1,0,6,5] [5,1]] [yR ((ae ax d.af).length)] (zD 60 ((↑i:Int)<(↑(ae ax d.af).length:Int)) (fun g=>?_) (fun g=>?_))
 ·have cX:i<d.af.length:=ah
  have gh:=ie cX
  have hA:=hh i cX
  have s1:=uN cz [aJ d.bY,aJ d.peer,dY d.box,bF (u64 d.af.length)] d.af cX default
  refine aW<|zS<|zB 2<|zX (yH [(4,{k:=i}),(5,yV (cQ (d.af.getD i default))),(6,yV (AV.agg (aY (cz (d.af.getD i default)))))]) [yR (↑i:Int),yO (i<(ae ax d.af).length),yI gh,yI (q7 (d.af.getD i default)),yB (((ae aY ([aJ d.bY,aJ d.peer,dY d.box,bF (u64 (↑d.af.length:Int))]++List.map cz (List.take i d.af))).length+3)*32≤422212465065984) (by simp only [List.length_append,List.length_cons,List.length_nil,List.length_take,List.length_map,aE (f:=aY) (e:=3) (fun _=>rfl)];omega)]<|aM<|ak<|bf.OG {hs:=[(1,{av:=some (ai ((↑i:Int)+1))})]} (s':=AS.mk [(6,ai ((↑i:Int)+1)),(62,ai ((↑i:Int)+1)),(61,ai ↑i),(5,AV.ref 71),(71,AV.ref 71),(70,AV.ref 70),(69,AV.agg (aY (cz (d.af.getD i default)))),(68,cQ (d.af.getD i default)),(67,AV.ptr (ae ax d.af) i),(66,ai ↑i),(65,AV.sl 1 (ae ax d.af)),(64,AV.addr 1 3),(63,AV.dead),(60,ao (decide ((↑i:Int)<(↑(ae ax d.af).length:Int)))),(40,ao ((0:Int) != (0:Int))),(4,ai 0),(28,ao ((↑d.ay.length:Int) != (↑(ae ax d.af).length:Int))),(13,ao (!decide ((1:Int)≤d.need∧d.need≤(↑(ae ax d.af).length:Int)))),(8,ao (decide ((↑d.box.length:Int)>1024))),(3,ai 0),(2,AV.nil),(1,AV.addr 1 0),(0,AV.agg (a_ d))] [(71,Row.mk 3 true false (ae aY ([aJ d.bY,aJ d.peer,dY d.box,bF (u64 (↑d.af.length:Int))]++List.map cz (List.take i d.af))++(aY (cz (d.af.getD i default))))),(70,Row.mk 3 true true (aY (cz (d.af.getD i default)))),(1,Row.mk 1 false true (List.map (aB 71) (cK 5 (Row.mk 1 false true (List.map (aB 70) (a_ d)))).cells))]) (C:=[ai (IntKind.i64.wrap ((↑i:Int)+1))=ai ((↑i:Int)+1)]) bt ⟨(dE ah ah),trivial⟩ (aH (i+1) (by assumption) ah (eu [.vK 71 5,.aa [40,4,28,13,8,3,2,1,0,6,5] [5,1]] [] [5] [yB (ae aY ([aJ d.bY,aJ d.peer,dY d.box,bF (u64 (↑d.af.length:Int))]++List.map cz (List.take i d.af))++(aY (cz (d.af.getD i default)))=ae aY ([aJ d.bY,aJ d.peer,dY d.box,bF (u64 (↑d.af.length:Int))]++List.map cz (List.take (i+1) d.af))) (by assumption)]))
 ·have ei:i=d.af.length:=ah
  subst ei
  rw [show d.af.take d.af.length=d.af from List.take_length]
  have oY:vw d=([aJ d.bY,aJ d.peer,dY d.box,bF (u64 d.af.length)]++d.af.map cz++ [bF (u64 d.ay.length)])++d.ay.map aJ++ [aJ (u64 d.need)]:=by unfold vw;simp
  rw [oY]
  have WN:([aJ d.bY,aJ d.peer,dY d.box,bF (u64 d.af.length)]++d.af.map cz).length≤12:=by rw [List.length_append,List.length_map];show 4+_≤12;omega
  generalize [aJ d.bY,aJ d.peer,dY d.box,bF (u64 d.af.length)]++d.af.map cz=A at *
  have VX:(ae aY A).length≤36:=by rw [aE (e:=3) (fun _=>rfl)];omega
  refine zE 1<|aS<|aK<|bg<|ak<|zP 1 [yH [(3,{k:=d.ay.length}),(4,yV (AV.agg (aY (bF (u64 (↑d.ay.length:Int))))))]] [.aa [5,60,40,4,28,13,8,3,2,1,0,6] [78,1]] [yI (aC d.ay),yI (um ((↑d.ay.length:Int))),yO (((ae aY A).length+3)*32≤422212465065984)]<|zS<|zq<|zB 3 (zL (fun (j:Nat)=>(⟨[(60,ao (decide ((↑d.af.length:Int)<(↑(ae ax d.af).length:Int)))),(40,ao ((0:Int) != (0:Int))),(4,ai 0),(28,ao ((↑d.ay.length:Int) != (↑(ae ax d.af).length:Int))),(13,ao (!decide ((1:Int)≤d.need∧d.need≤(↑(ae ax d.af).length:Int)))),(8,ao (decide ((↑d.box.length:Int)>1024))),(3,ai 0),(2,AV.nil),(1,AV.addr 1 0),(0,AV.agg (a_ d)),(6,ai (↑d.af.length:Int)),(7,ai j),(5,AV.ref 5)],[(5,⟨3,true,false,ae aY (A++ [bF (u64 d.ay.length)]++(d.ay.take j).map aJ)⟩),(1,⟨1,false,true,a_ d⟩)]⟩:AS)) (fun j=>(j≤d.ay.length)) (fun j=>(d.ay.length-j)) (0) ?_ (eu [.vK 78 5,.aa [60,40,4,28,13,8,3,2,1,0,6,7,5] [5,1]] [] [5] [yB (ae aY A++(aY (bF (u64 (↑d.ay.length:Int))))=ae aY (A++ [bF (u64 (↑d.ay.length:Int))]++List.map aJ (List.take 0 d.ay))) (by rw [List.take_zero];exact (fG A [bF (u64 d.ay.length)]).trans (by simp))]) ?_)
  ·omega
  intro j hj
  refine zS<|zP 1 [yH [(3,{k:=d.ay.length})]] [.aa [83,60,40,4,28,13,8,3,2,1,0,6,7,5] [5,1]] [yI (aC d.ay)] (zD 83 ((↑j:Int)<(↑d.ay.length:Int)) (fun g2=>?_) (fun g2=>?_))
  ·have yC:j<d.ay.length:=ah
   have gh:=dK (l:=d.ay) yC
   have s2:=uN aJ (A++ [bF (u64 d.ay.length)]) d.ay yC 0
   refine aW<|zS<|zB 4<|zX (yH [(4,{k:=j}),(5,yV (aw (d.ay.getD j 0))),(6,yV (AV.agg (aY (aJ (d.ay.getD j 0)))))]) [yR (↑j:Int),yB (j<(aj d.ay).length) (by simp only [aC];omega),yI gh,yI (gY (d.ay.getD j 0)),yB (((ae aY (A++ [bF (u64 (↑d.ay.length:Int))]++List.map aJ (List.take j d.ay))).length+3)*32≤422212465065984) (by simp only [List.length_append,List.length_cons,List.length_nil,List.length_take,List.length_map,aE (f:=aY) (e:=3) (fun _=>rfl)];omega)]<|aM<|ak<|zX (yH [(1,yV (ai ((↑j:Int)+1)))]) [yN ((↑j:Int)+1)] (aH (j+1) (by assumption) ah (eu [.vK 94 5,.aa [60,40,4,28,13,8,3,2,1,0,6,7,5] [5,1]] [] [5] [yB (ae aY (A++ [bF (u64 (↑d.ay.length:Int))]++List.map aJ (List.take j d.ay))++(aY (aJ (d.ay.getD j 0)))=ae aY (A++ [bF (u64 (↑d.ay.length:Int))]++List.map aJ (List.take (j+1) d.ay))) (by assumption)]))
  ·have ej:j=d.ay.length:=ah
   subst ej
   rw [show d.ay.take d.ay.length=d.ay from List.take_length]
   refine zE 3<|aS<|aK<|bg<|ak<|zP 1 [yH [(3,yV (aw (u64 d.need))),(4,yV (AV.agg (aY (aJ (u64 d.need)))))]] [.aa [3,2,83,60,40,4,28,13,8,1,0,6,7] [101,1]] [yI (ba d.need),yI (gY (u64 d.need)),yB (((ae aY (A++ [bF (u64 (↑d.ay.length:Int))]++List.map aJ d.ay)).length+3)*32≤422212465065984) (by simp only [List.length_append,List.length_cons,List.length_nil,List.length_map,aE (f:=aY) (e:=3) (fun _=>rfl)];omega)]<|zR (zV [yB (ae aY (A++ [bF (u64 (↑d.ay.length:Int))]++List.map aJ d.ay)++(aY (aJ (u64 d.need)))=ae aY (A++ [bF (u64 (↑d.ay.length:Int))]++List.map aJ d.ay++ [aJ (u64 d.need)])) (fG _ [aJ (u64 d.need)]),yR (Value.int .i64 0)])
theorem xZ (x:fJ) (hk:eO x.kind) (hd:x.cI.length≤100000) (h:x.kind=3∨x.kind=4∨x.cI= []):bC Tryz.prog 84 [.agg (aY x)] (cQ (jl x)):=by
 rw [LO x h]
 have hl:=l8 (u8 (x.kind-1)) (nc x)
 have hh:=AR x hk hd
 generalize cG (u8 (x.kind-1)) (nc x)=H at *
 have hs:(⟨H.toArray⟩:ByteArray).size+(⟨x.cI.toArray⟩:ByteArray).size≤9223372036854775807:=by
  show H.toArray.size+x.cI.toArray.size≤_
  rw [List.size_toArray,List.size_toArray]
  omega
 refine zO Tryz.func84 9<|zP 2 [{},{hs:=[(1,yV (AV.own 1 (ag H))),(2,yV (cQ H))],T:=5}] [.aa [2,1,0] [1]] [yI hh,yI (aP H),yR (ag H),yI hs]<|zR (bL)
end Go.Proofs.YtjgbhhnghedgdaaGreatDoor
