import Derived.Test.YtjgbhhnghedgdaaGreatDoorZpGrB3
set_option linter.all false
namespace Go.Proofs.YtjgbhhnghedgdaaGreatDoor
open Go.RowKit
set_option maxRecDepth 100000
set_option maxHeartbeats 4000000
theorem gW (n:UInt64):bK Tryz.prog 83 [aw n] (.agg (aY (aF n))):=by
 refine zO Tryz.func83 5<|zP 2 [{},{}] [.aa [2,0] [2]] [yL 3 3]<|zR (bU)
theorem qG (b:List UInt8):bK Tryz.prog 130 [cZ b] (.agg (aY (cy b))):=by
 refine zO Tryz.func130 5<|zP 2 [{},{}] [.aa [2,0] [2]] [yL 3 3]<|zR (bU)
theorem wa (b:List UInt8) (hb:b.length≤1000000):bK Tryz.prog 131 [.sl 1 (ag b)] (.agg (aY (dQ b))):=by
 refine zO Tryz.func131 6<|zP 2 [{},yH [(1,yV (cZ b))]] [.aa [2,0] [2]] [yR (ag b),yL 3 3]<|zR (bU)
theorem tO (n:Int):bK Tryz.prog 81 [ai n] (.agg (aY (bC (u64 n)))):=by
 refine zO Tryz.func81 6<|zP 2 [{},yH [(1,yV (aw (u64 n)))]] [.aa [2,0] [2]] [yI (a8 n),yL 3 3]<|zR (bU)
def mL (x:fE):UInt64:=if x.kind=3∨x.kind=4 then u64 x.cK.length else x.num
theorem K4 (x:fE) (h:x.kind=3∨x.kind=4∨x.cK= []):jg x=cE (u8 (x.kind-1)) (mL x)++x.cK:=by
 unfold jg mL
 by_cases c:x.kind=3∨x.kind=4
 ·rw [if_pos c,if_pos c]
 ·rw [if_neg c,if_neg c,show x.cK= [] by rcases h with h|h|h;exact absurd (.inl h) c;exact absurd (.inr h) c;exact h,List.append_nil]
theorem P2 (n:UInt64):words [n]=oJ n 8 8:=rfl
theorem KH {m:UInt8} {n:UInt64} (h:wv n<24):cE m n= [m<<<5+n.toUInt8]:=if_pos h
theorem MU {m:UInt8} {n:UInt64} (h1:¬wv n<24) (h:wv n<256):cE m n= [m<<<5+24,n.toUInt8]:=by unfold cE;rw [if_neg h1,if_pos h];simp [oJ]
theorem MT {m:UInt8} {n:UInt64} (h1:¬wv n<256) (h:wv n<65536):cE m n= [m<<<5+25,(n>>>8).toUInt8,n.toUInt8]:=by unfold cE;rw [if_neg aj,if_neg h1,if_pos h];simp [oJ,List.range_succ]
theorem MR {m:UInt8} {n:UInt64} (h1:¬wv n<65536) (h:wv n<4294967296):cE m n= [m<<<5+26,(n>>>24).toUInt8,(n>>>16).toUInt8,(n>>>8).toUInt8,n.toUInt8]:=by unfold cE;rw [if_neg aj,if_neg aj,if_neg h1,if_pos h];simp [oJ,List.range_succ]
theorem MQ {m:UInt8} {n:UInt64} (h1:¬wv n<4294967296):cE m n=(m<<<5+27)::words [n]:=by unfold cE;rw [if_neg aj,if_neg aj,if_neg aj,if_neg h1,P2]
theorem zZ (x:fE) (hk:eH x.kind) (hd:x.cK.length≤100000):bK Tryz.prog 133 [.agg (aY x)] (.own 1 (ag (cE (u8 (x.kind-1)) (mL x)))):=by
 refine zO Tryz.func133 87<|zP 3 [{},{},{}] [.aa [4,3,2,1,0] [1]] [] (bf.k7 (fun (p:UInt64×UInt8)=>(⟨[(1,AV.addr 1 0),(0,AV.agg (aY x)),(3,aw p.1),(4,ab p.2)],[(1,⟨1,false,true,List.map (aR 1) (aY x)⟩)]⟩:AS)) (fun p=>(p=(mL x,u8 (x.kind-1)<<<5))) bD ?_ ?_)
 ·rcases hk with k|k|k|k
  ·have e:mL x=x.num:=if_neg aj
   have e2:u8 (x.kind-1)<<<5=0:=by rw [k];decide
   refine zq<|zB 0<|zP 1 [{}] [.aa [9,8,4,3,2,1,0] [1]] []<|bj 9 (x.kind == (7:Int)) bE<|zq<|bj 15 (x.kind == (8:Int)) bE<|zP 1 [{}] [.aa [18,15,9,8,4,3,2,1,0] [1]] []<|bj 18 (x.kind == (2:Int)) bE<|zq<|bj 20 (x.kind == (3:Int)) bE<|zP 1 [{}] [.aa [26,20,18,15,9,8,4,3,2,1,0] [1]] []<|bj 26 (x.kind == (4:Int)) bE<|zq<|bj 32 (x.kind == (5:Int)) bE<|zP 1 [{}] [.aa [34,32,26,20,18,15,9,8,4,3,2,1,0] [1]] []<|bj 34 (x.kind == (6:Int)) bE<|zK<|aL<|ak (⟨(mL x,u8 (x.kind-1)<<<5),rfl,(eJ [.aa [1,0,3,4] [1]] [3,4] [] [yB (aw x.num=aw (mL x)) (by rw [e]),yB (AV.val (Value.int .u8 0)=ab (u8 (x.kind-1)<<<(5:UInt8))) (by rw [e2];rfl)])⟩)
  ·have e:mL x=u64 x.cK.length:=if_pos (.inl k)
   have e2:u8 (x.kind-1)<<<5=64:=by rw [k];decide
   refine zq<|zB 0<|zP 1 [{}] [.aa [9,8,4,3,2,1,0] [1]] []<|bj 9 (x.kind == (7:Int)) bE<|zq<|bj 15 (x.kind == (8:Int)) bE<|zP 1 [{}] [.aa [18,15,9,8,4,3,2,1,0] [1]] []<|bj 18 (x.kind == (2:Int)) bE<|zq<|dr 20 (x.kind == (3:Int)) fi<|zX ({hs:=[(2,yV (ai (↑x.cK.length:Int))),(3,yV (aw (u64 (↑x.cK.length:Int))))],T:=5}) [yR (ai (↑x.cK.length:Int)),yI (a8 ((↑x.cK.length:Int)))]<|aL<|ak (⟨(mL x,u8 (x.kind-1)<<<5),rfl,(eJ [.aa [1,0,3,4] [1]] [3,4] [] [yB (aw (u64 (↑x.cK.length:Int))=aw (mL x)) (by rw [e]),yB (AV.val (Value.int .u8 64)=ab (u8 (x.kind-1)<<<(5:UInt8))) (by rw [e2];rfl)])⟩)
  ·have e:mL x=u64 x.cK.length:=if_pos (.inr k)
   have e2:u8 (x.kind-1)<<<5=96:=by rw [k];decide
   refine zq<|zB 0<|zP 1 [{}] [.aa [9,8,4,3,2,1,0] [1]] []<|bj 9 (x.kind == (7:Int)) bE<|zq<|bj 15 (x.kind == (8:Int)) bE<|zP 1 [{}] [.aa [18,15,9,8,4,3,2,1,0] [1]] []<|bj 18 (x.kind == (2:Int)) bE<|zq<|bj 20 (x.kind == (3:Int)) bE<|zP 1 [{}] [.aa [26,20,18,15,9,8,4,3,2,1,0] [1]] []<|dr 26 (x.kind == (4:Int)) fi<|zX ({hs:=[(2,yV (ai (↑x.cK.length:Int))),(3,yV (aw (u64 (↑x.cK.length:Int))))],T:=5}) [yR (ai (↑x.cK.length:Int)),yI (a8 ((↑x.cK.length:Int)))]<|aL<|ak (⟨(mL x,u8 (x.kind-1)<<<5),rfl,(eJ [.aa [1,0,3,4] [1]] [3,4] [] [yB (aw (u64 (↑x.cK.length:Int))=aw (mL x)) (by rw [e]),yB (AV.val (Value.int .u8 96)=ab (u8 (x.kind-1)<<<(5:UInt8))) (by rw [e2];rfl)])⟩)
  ·have e:mL x=x.num:=if_neg aj
   have e2:u8 (x.kind-1)<<<5=128:=by rw [k];decide
   refine zq<|zB 0<|zP 1 [{}] [.aa [9,8,4,3,2,1,0] [1]] []<|bj 9 (x.kind == (7:Int)) bE<|zq<|bj 15 (x.kind == (8:Int)) bE<|zP 1 [{}] [.aa [18,15,9,8,4,3,2,1,0] [1]] []<|bj 18 (x.kind == (2:Int)) bE<|zq<|bj 20 (x.kind == (3:Int)) bE<|zP 1 [{}] [.aa [26,20,18,15,9,8,4,3,2,1,0] [1]] []<|bj 26 (x.kind == (4:Int)) bE<|zq<|dr 32 (x.kind == (5:Int)) fi<|zX {} []<|aL<|ak (⟨(mL x,u8 (x.kind-1)<<<5),rfl,(eJ [.aa [1,0,3,4] [1]] [3,4] [] [yB (aw x.num=aw (mL x)) (by rw [e]),yB (AV.val (Value.int .u8 128)=ab (u8 (x.kind-1)<<<(5:UInt8))) (by rw [e2];rfl)])⟩)
 rintro ⟨n,M⟩ hp
 injection hp with hn hM
 rw [←hn]
 clear hn
 simp only
 by_cases c1:wv n<24
 ·have e:=KH (m:=u8 (x.kind-1)) c1
  rw [←hM] at e
  rw [e]
  refine zS<|zB 1<|zP 1 [{}] [.aa [36,1,0,3,4] [1]] []<|ib 36 (wv n<24)<|zP 1 [yH [(2,yV (ab n.toUInt8)),(3,yV (ab (M+n.toUInt8))),(4,yV (AV.arr (ag [M+n.toUInt8])))]] [.aa [2,36,1,0,3,4] [43,1]] [yR (ab n.toUInt8),yR (ab (M+n.toUInt8)),yR [ab (M+n.toUInt8)]]<|zR<|bc<|aK (bU)
 by_cases c2:wv n<256
 ·have e:=MU (m:=u8 (x.kind-1)) c1 c2
  rw [←hM] at e
  rw [e]
  refine zS<|zB 1<|zP 1 [{}] [.aa [36,1,0,3,4] [1]] []<|dp 36 (wv n<24)<|zP 1 [{}] [.aa [44,36,1,0,3,4] [1]] []<|ib 44 (wv n<256)<|zP 1 [yH [(1,yV (ab (M+24))),(3,yV (ab n.toUInt8)),(4,yV (AV.arr (ag [M+24,n.toUInt8])))]] [.aa [2,44,36,1,0,3,4] [51,1]] [yR (ab (M+24)),yR (ab n.toUInt8),yR (ag [M+24,n.toUInt8])]<|zR<|bc<|aK (bU)
 by_cases c3:wv n<65536
 ·have e:=MT (m:=u8 (x.kind-1)) c2 c3
  rw [←hM] at e
  rw [e]
  refine zS<|zB 1<|zP 1 [{}] [.aa [36,1,0,3,4] [1]] []<|dp 36 (wv n<24)<|zP 1 [{}] [.aa [44,36,1,0,3,4] [1]] []<|dp 44 (wv n<256)<|zP 1 [{}] [.aa [52,44,36,1,0,3,4] [1]] []<|ib 52 (wv n<65536)<|zP 1 [yH [(1,yV (ab (M+25))),(3,yV (aw (n>>>(8:UInt64)))),(4,yV (ab ((n>>>(8:UInt64)).toUInt8))),(6,yV (ab n.toUInt8)),(7,yV (AV.arr (ag [M+25,(n>>>(8:UInt64)).toUInt8,n.toUInt8])))]] [.aa [2,52,44,36,1,0,3,4] [62,1]] [yR (ab (M+25)),yI (fg n ((8:Int)) aj aj),yO ((0:Int)≤8),yR (ab ((n>>>(8:UInt64)).toUInt8)),yR (ab n.toUInt8),yR (ag [M+25,(n>>>(8:UInt64)).toUInt8,n.toUInt8])]<|zR<|bc<|aK (bU)
 by_cases c4:wv n<4294967296
 ·have e:=MR (m:=u8 (x.kind-1)) c3 c4
  rw [←hM] at e
  rw [e]
  refine zS<|zB 1<|zP 1 [{}] [.aa [36,1,0,3,4] [1]] []<|dp 36 (wv n<24)<|zP 1 [{}] [.aa [44,36,1,0,3,4] [1]] []<|dp 44 (wv n<256)<|zP 1 [{}] [.aa [52,44,36,1,0,3,4] [1]] []<|dp 52 (wv n<65536)<|zP 1 [{}] [.aa [63,52,44,36,1,0,3,4] [1]] []<|ib 63 (wv n<4294967296)<|zP 1 [yH [(1,yV (ab (M+26))),(3,yV (aw (n>>>(24:UInt64)))),(4,yV (ab ((n>>>(24:UInt64)).toUInt8))),(6,yV (aw (n>>>(16:UInt64)))),(7,yV (ab ((n>>>(16:UInt64)).toUInt8))),(9,yV (aw (n>>>(8:UInt64)))),(10,yV (ab ((n>>>(8:UInt64)).toUInt8))),(12,yV (ab n.toUInt8)),(13,yV (AV.arr (ag [M+26,(n>>>(24:UInt64)).toUInt8,(n>>>(16:UInt64)).toUInt8,(n>>>(8:UInt64)).toUInt8,n.toUInt8])))]] [.aa [2,63,52,44,36,1,0,3,4] [79,1]] [yR (ab (M+26)),yI (fg n ((24:Int)) aj aj),yO ((0:Int)≤24),yR (ab ((n>>>(24:UInt64)).toUInt8)),yI (fg n ((16:Int)) aj aj),yO ((0:Int)≤16),yR (ab ((n>>>(16:UInt64)).toUInt8)),yI (fg n ((8:Int)) aj aj),yO ((0:Int)≤8),yR (ab ((n>>>(8:UInt64)).toUInt8)),yR (ab n.toUInt8),yR (ag [M+26,(n>>>(24:UInt64)).toUInt8,(n>>>(16:UInt64)).toUInt8,(n>>>(8:UInt64)).toUInt8,n.toUInt8])]<|zR<|bc<|aK (bU)
 ·have e:=MQ (m:=u8 (x.kind-1)) c4
  rw [←hM] at e
  rw [e]
  refine zS<|zB 1<|zP 1 [{}] [.aa [36,1,0,3,4] [1]] []<|dp 36 (wv n<24)<|zP 1 [{}] [.aa [44,36,1,0,3,4] [1]] []<|dp 44 (wv n<256)<|zP 1 [{}] [.aa [52,44,36,1,0,3,4] [1]] []<|dp 52 (wv n<65536)<|zP 1 [{}] [.aa [63,52,44,36,1,0,3,4] [1]] []<|dp 63 (wv n<4294967296)<|zK<|aL<|ak<|zP 1 [yH [(1,yV (ab (M+27))),(2,yV (AV.arr (ag [M+27]))),(4,yV (AV.arr (ah [n]))),(5,yV (AV.own 1 (ag (words [n])))),(6,yV (AV.arr (ag ([M+27]++words [n]))))]] [.aa [2,63,52,44,36,1,0,3,4] [86,1]] [yR (ab (M+27)),yR [ab (M+27)],yR [aw n],yI (dv [n] (by simp only [List.length_cons,List.length_nil];omega)),yI (aQ (words [n])),yR (ag ([M+27]++words [n])),yL 9 140737488355328]<|zR (bU)
theorem uk {T:Type} (f:T->fE) (p:List fE) (l:List T) {i:Nat} (h:i<l.length) (z:T):af aY (p++(l.take i).map f)++aY (f (l.getD i z))=af aY (p++(l.take (i+1)).map f):=by
 rw [List.take_add_one,List.map_append,←List.append_assoc,List.getD_eq_getElem?_getD,List.getElem?_eq_getElem h]
 exact fB (p++(l.take i).map f) [f l[i]]
theorem BR (d:mU) (hB:yP d):bK Tryz.prog 132 [.agg (bg d)] (.br [.own 3 (af aY (if fC d=0 then uZ d else [])),ai (fC d)]):=by
 have sQ:(af ay d.ae).length=d.ae.length:=by rw [aE (e:=1) (fun _=>rfl)];omega
 obtain ⟨b1,b2,b3,hh⟩:=hB
 by_cases c1:1024<d.box.length
 ·have e:fC d=8:=if_pos c1
  rw [e,if_neg aj]
  refine zO Tryz.func132 102<|zq<|zS<|zB 0<|zP 1 [yH [(2,{k:=d.box.length})]] [.aa [8,3,2,1,0] [1]] [yI (aC d.box)]<|ib 8 ((↑d.box.length:Int)>1024)<|zq<|zR<|bc<|aK (bU)
 by_cases c2:nD d.ae.length d.need
 ·have e:fC d=9:=by unfold fC;rw [if_neg c1,if_pos c2]
  unfold nD at c2
  rw [e,if_neg aj]
  by_cases k1:1≤d.ae.length∧d.ae.length≤8
  ·have k2:¬(1≤d.need∧d.need≤d.ae.length):=aj
   have SN:1≤(d.ae.length:Int)∧(d.ae.length:Int)≤8:=aj
   refine zO Tryz.func132 102<|zq<|zS<|zB 0<|zP 1 [yH [(2,{k:=d.box.length})]] [.aa [8,3,2,1,0] [1]] [yI (aC d.box)]<|dp 8 ((↑d.box.length:Int)>1024)<|zP 1 [yH ([(2,{k:=(af ay d.ae).length}),(3,yV (ao (decide ((1:Int)≤(↑(af ay d.ae).length:Int)∧(↑(af ay d.ae).length:Int)≤8)))),(10,{k:=(af ay d.ae).length,g:=false}),(11,{av:=some (ao (decide ((1:Int)≤d.need∧d.need≤(↑(af ay d.ae).length:Int)))),g:=false}),(13,{b:=false})]++yg [6,7,8,9,12])] [.aa [13,8,3,2,1,0] [1]] ([yR ((af ay d.ae).length),yI (bn (↑(af ay d.ae).length:Int) ((1:Int)) ((8:Int)))]++yM 5 (yS ((!decide ((1:Int)≤(↑(af ay d.ae).length:Int)∧(↑(af ay d.ae).length:Int)≤8))=false))++ [yR ((af ay d.ae).length),yS ((!decide ((1:Int)≤(↑(af ay d.ae).length:Int)∧(↑(af ay d.ae).length:Int)≤8))=false),yI (bn d.need ((1:Int)) (↑(af ay d.ae).length:Int))]++yM 2 (yS ((!decide ((1:Int)≤(↑(af ay d.ae).length:Int)∧(↑(af ay d.ae).length:Int)≤8))=false)))<|dr 13 (!decide ((1:Int)≤d.need∧d.need≤(↑(af ay d.ae).length:Int))) (by simp;omega)<|zq<|zR<|bc<|aK (bU)
  ·have SN:¬(1≤(d.ae.length:Int)∧(d.ae.length:Int)≤8):=aj
   refine zO Tryz.func132 102<|zq<|zS<|zB 0<|zP 1 [yH [(2,{k:=d.box.length})]] [.aa [8,3,2,1,0] [1]] [yI (aC d.box)]<|dp 8 ((↑d.box.length:Int)>1024)<|zP 1 [yH [(2,{k:=(af ay d.ae).length}),(3,yV (ao (decide ((1:Int)≤(↑(af ay d.ae).length:Int)∧(↑(af ay d.ae).length:Int)≤8))))]] [.aa [13,8,3,2,1,0] [1]] ([yR ((af ay d.ae).length),yI (bn (↑(af ay d.ae).length:Int) ((1:Int)) ((8:Int)))]++yM 8 (yB ((!decide ((1:Int)≤(↑(af ay d.ae).length:Int)∧(↑(af ay d.ae).length:Int)≤8))=true) (by simp;omega)))<|zT 13<|zq<|zR<|bc<|aK (bU)
 unfold nD at c2
 have SN:1≤(d.ae.length:Int)∧(d.ae.length:Int)≤8:=aj
 have Qe:1≤d.need∧d.need≤(d.ae.length:Int):=aj
 by_cases c3:d.au.length≠d.ae.length
 ·have e:fC d=4:=by unfold fC;rw [if_neg c1,if_neg (by unfold nD;exact c2),if_pos c3]
  rw [e,if_neg aj]
  refine zO Tryz.func132 102<|zq<|zS<|zB 0<|zP 1 [yH [(2,{k:=d.box.length})]] [.aa [8,3,2,1,0] [1]] [yI (aC d.box)]<|dp 8 ((↑d.box.length:Int)>1024)<|zP 1 [yH ([(2,{k:=(af ay d.ae).length}),(3,yV (ao (decide ((1:Int)≤(↑(af ay d.ae).length:Int)∧(↑(af ay d.ae).length:Int)≤8)))),(10,{k:=(af ay d.ae).length,g:=false}),(11,{av:=some (ao (decide ((1:Int)≤d.need∧d.need≤(↑(af ay d.ae).length:Int)))),g:=false}),(13,{b:=false})]++yg [6,7,8,9,12])] [.aa [13,8,3,2,1,0] [1]] ([yR ((af ay d.ae).length),yI (bn (↑(af ay d.ae).length:Int) ((1:Int)) ((8:Int)))]++yM 5 (yS ((!decide ((1:Int)≤(↑(af ay d.ae).length:Int)∧(↑(af ay d.ae).length:Int)≤8))=false))++ [yR ((af ay d.ae).length),yS ((!decide ((1:Int)≤(↑(af ay d.ae).length:Int)∧(↑(af ay d.ae).length:Int)≤8))=false),yI (bn d.need ((1:Int)) (↑(af ay d.ae).length:Int))]++yM 2 (yS ((!decide ((1:Int)≤(↑(af ay d.ae).length:Int)∧(↑(af ay d.ae).length:Int)≤8))=false)))<|bj 13 (!decide ((1:Int)≤d.need∧d.need≤(↑(af ay d.ae).length:Int))) (by simp_all)<|zP 1 [yH [(2,{k:=d.au.length}),(5,{k:=(af ay d.ae).length})]] [.aa [28,13,8,3,2,1,0] [1]] [yI (aB d.au),yR ((af ay d.ae).length)]<|dr 28 ((↑d.au.length:Int) != (↑(af ay d.ae).length:Int)) (by simp;omega)<|zq<|zR<|bc<|aK (bU)
 have e:fC d=ff (mu d.ae) d.ae.length:=by unfold fC;rw [if_neg c1,if_neg (by unfold nD;exact c2),if_neg c3]
 have Vw:d.au.length=d.ae.length:=aj
 have hr:=l8 d.ae b2 hh
 rw [←e] at hr
 by_cases c:fC d=0
 case neg =>
  rw [if_neg c]
  refine zO Tryz.func132 102<|zq<|zS<|zB 0<|zP 1 [yH [(2,{k:=d.box.length})]] [.aa [8,3,2,1,0] [1]] [yI (aC d.box)]<|dp 8 ((↑d.box.length:Int)>1024)<|zP 1 [yH ([(2,{k:=(af ay d.ae).length}),(3,yV (ao (decide ((1:Int)≤(↑(af ay d.ae).length:Int)∧(↑(af ay d.ae).length:Int)≤8)))),(10,{k:=(af ay d.ae).length,g:=false}),(11,{av:=some (ao (decide ((1:Int)≤d.need∧d.need≤(↑(af ay d.ae).length:Int)))),g:=false}),(13,{b:=false})]++yg [6,7,8,9,12])] [.aa [13,8,3,2,1,0] [1]] ([yR ((af ay d.ae).length),yI (bn (↑(af ay d.ae).length:Int) ((1:Int)) ((8:Int)))]++yM 5 (yS ((!decide ((1:Int)≤(↑(af ay d.ae).length:Int)∧(↑(af ay d.ae).length:Int)≤8))=false))++ [yR ((af ay d.ae).length),yS ((!decide ((1:Int)≤(↑(af ay d.ae).length:Int)∧(↑(af ay d.ae).length:Int)≤8))=false),yI (bn d.need ((1:Int)) (↑(af ay d.ae).length:Int))]++yM 2 (yS ((!decide ((1:Int)≤(↑(af ay d.ae).length:Int)∧(↑(af ay d.ae).length:Int)≤8))=false)))<|bj 13 (!decide ((1:Int)≤d.need∧d.need≤(↑(af ay d.ae).length:Int))) (by simp_all)<|zP 1 [yH [(2,{k:=d.au.length}),(5,{k:=(af ay d.ae).length})]] [.aa [28,13,8,3,2,1,0] [1]] [yI (aB d.au),yR ((af ay d.ae).length)]<|bj 28 ((↑d.au.length:Int) != (↑(af ay d.ae).length:Int)) (by simp_all)<|zK<|aL<|ak<|zS<|zP 2 [yH [(2,yV (ai (fC d)))],yH [(1,yV (ao true))]] [.aa [40,4,28,13,8,3,2,1,0] [1]] [yI hr,yB (ao (fC d != (0:Int))=ao true) (by simp [c])]<|zT 40<|zq<|dt (bU)
 rw [if_pos c,c]
 rw [c] at hr
 clear e c2
 refine zO Tryz.func132 102<|zq<|zS<|zB 0<|zP 1 [yH [(2,{k:=d.box.length})]] [.aa [8,3,2,1,0] [1]] [yI (aC d.box)]<|dp 8 ((↑d.box.length:Int)>1024)<|zP 1 [yH ([(2,{k:=(af ay d.ae).length}),(3,yV (ao (decide ((1:Int)≤(↑(af ay d.ae).length:Int)∧(↑(af ay d.ae).length:Int)≤8)))),(10,{k:=(af ay d.ae).length,g:=false}),(11,{av:=some (ao (decide ((1:Int)≤d.need∧d.need≤(↑(af ay d.ae).length:Int)))),g:=false}),(13,{b:=false})]++yg [6,7,8,9,12])] [.aa [13,8,3,2,1,0] [1]] ([yR ((af ay d.ae).length),yI (bn (↑(af ay d.ae).length:Int) ((1:Int)) ((8:Int)))]++yM 5 (yS ((!decide ((1:Int)≤(↑(af ay d.ae).length:Int)∧(↑(af ay d.ae).length:Int)≤8))=false))++ [yR ((af ay d.ae).length),yS ((!decide ((1:Int)≤(↑(af ay d.ae).length:Int)∧(↑(af ay d.ae).length:Int)≤8))=false),yI (bn d.need ((1:Int)) (↑(af ay d.ae).length:Int))]++yM 2 (yS ((!decide ((1:Int)≤(↑(af ay d.ae).length:Int)∧(↑(af ay d.ae).length:Int)≤8))=false)))<|bj 13 (!decide ((1:Int)≤d.need∧d.need≤(↑(af ay d.ae).length:Int))) (by simp_all)<|zP 1 [yH [(2,{k:=d.au.length}),(5,{k:=(af ay d.ae).length})]] [.aa [28,13,8,3,2,1,0] [1]] [yI (aB d.au),yR ((af ay d.ae).length)]<|bj 28 ((↑d.au.length:Int) != (↑(af ay d.ae).length:Int)) (by simp_all)<|zK<|aL<|ak<|zS<|zP 2 [yH [(2,yV (ai 0))],{}] [.aa [40,4,28,13,8,3,2,1,0] [1]] [yI hr]<|zF 40<|a7<|zP 1 [{hs:=[(2,yV (AV.agg (aY (aF d.bF)))),(5,yV (AV.agg (aY (aF d.peer)))),(8,yV (AV.agg (aY (dQ d.box)))),(11,{k:=(af ay d.ae).length}),(12,yV (AV.agg [ai ((bC (u64 (↑(af ay d.ae).length:Int))).kind),aw ((bC (u64 (↑(af ay d.ae).length:Int))).num),AV.val (Value.string (ByteArray.mk (bC (u64 (↑(af ay d.ae).length:Int))).cK.toArray))]))],T:=12}] [.aa [5,40,4,28,13,8,3,2,1,0] [55,1]] [yI (gW d.bF),yI (gW d.peer),yI (wa d.box b1),yR ((af ay d.ae).length),yI (tO (↑(af ay d.ae).length:Int))]<|zS<|zq<|zB 1 (zL (fun (i:Nat)=>(⟨[(40,ao ((0:Int) != (0:Int))),(4,ai 0),(28,ao ((↑d.au.length:Int) != (↑(af ay d.ae).length:Int))),(13,ao (!decide ((1:Int)≤d.need∧d.need≤(↑(af ay d.ae).length:Int)))),(8,ao (decide ((↑d.box.length:Int)>1024))),(3,ai 0),(2,AV.nil),(1,AV.addr 1 0),(0,AV.agg (bg d)),(6,ai i),(5,AV.ref 5)],[(5,⟨3,true,false,af aY ([aF d.bF,aF d.peer,dQ d.box,bC (u64 d.ae.length)]++(d.ae.take i).map cy)⟩),(1,⟨1,false,true,bg d⟩)]⟩:AS)) (fun i=>(i≤d.ae.length)) (fun i=>(d.ae.length-i)) (0) ?_ (eJ [.sm 55 5,.loose 5,.aa [40,4,28,13,8,3,2,1,0,6,5] [5,1]] [] [5] [yB ([ai ((aF d.bF).kind),aw ((aF d.bF).num),cZ (aF d.bF).cK,ai ((aF d.peer).kind),aw ((aF d.peer).num),cZ (aF d.peer).cK,ai ((dQ d.box).kind),aw ((dQ d.box).num),cZ (dQ d.box).cK,ai ((bC (u64 (↑(af ay d.ae).length:Int))).kind),aw ((bC (u64 (↑(af ay d.ae).length:Int))).num),AV.val (Value.string (ByteArray.mk (bC (u64 (↑(af ay d.ae).length:Int))).cK.toArray))]=af aY ([aF d.bF,aF d.peer,dQ d.box,bC (u64 (↑d.ae.length:Int))]++List.map cy (List.take 0 d.ae))) (by rw [sQ];rfl)]) ?_)
 ·omega
 intro i hi
 refine zS<|zP 1 [yH [(3,{k:=(af ay d.ae).length})]] [.aa [60,40,4,28,13,8,3,2,1,0,6,5] [5,1]] [yR ((af ay d.ae).length)] (zD 60 ((↑i:Int)<(↑(af ay d.ae).length:Int)) (fun g=>?_) (fun g=>?_))
 ·have dD:i<d.ae.length:=aj
  have gT:=jn dD
  have hA:=hh i dD
  have s1:=uk cy [aF d.bF,aF d.peer,dQ d.box,bC (u64 d.ae.length)] d.ae dD default
  refine a7<|zS<|zB 2<|zX (yH [(4,{k:=i}),(5,yV (cZ (d.ae.getD i default))),(6,yV (AV.agg (aY (cy (d.ae.getD i default)))))]) [yR (↑i:Int),yO (i<(af ay d.ae).length),yI gT,yI (qG (d.ae.getD i default)),yB (((af aY ([aF d.bF,aF d.peer,dQ d.box,bC (u64 (↑d.ae.length:Int))]++List.map cy (List.take i d.ae))).length+3)*32≤422212465065984) (by simp only [List.length_append,List.length_cons,List.length_nil,List.length_take,List.length_map,aE (f:=aY) (e:=3) (fun _=>rfl)];omega)]<|aL<|ak<|bf.OA {hs:=[(1,{av:=some (ai ((↑i:Int)+1))})]} (s':=AS.mk [(6,ai ((↑i:Int)+1)),(62,ai ((↑i:Int)+1)),(61,ai ↑i),(5,AV.ref 71),(71,AV.ref 71),(70,AV.ref 70),(69,AV.agg (aY (cy (d.ae.getD i default)))),(68,cZ (d.ae.getD i default)),(67,AV.ptr (af ay d.ae) i),(66,ai ↑i),(65,AV.sl 1 (af ay d.ae)),(64,AV.addr 1 3),(63,AV.dead),(60,ao (decide ((↑i:Int)<(↑(af ay d.ae).length:Int)))),(40,ao ((0:Int) != (0:Int))),(4,ai 0),(28,ao ((↑d.au.length:Int) != (↑(af ay d.ae).length:Int))),(13,ao (!decide ((1:Int)≤d.need∧d.need≤(↑(af ay d.ae).length:Int)))),(8,ao (decide ((↑d.box.length:Int)>1024))),(3,ai 0),(2,AV.nil),(1,AV.addr 1 0),(0,AV.agg (bg d))] [(71,Row.mk 3 true false (af aY ([aF d.bF,aF d.peer,dQ d.box,bC (u64 (↑d.ae.length:Int))]++List.map cy (List.take i d.ae))++(aY (cy (d.ae.getD i default))))),(70,Row.mk 3 true true (aY (cy (d.ae.getD i default)))),(1,Row.mk 1 false true (List.map (aR 71) (dJ 5 (Row.mk 1 false true (List.map (aR 70) (bg d)))).cells))]) (C:=[ai (IntKind.i64.wrap ((↑i:Int)+1))=ai ((↑i:Int)+1)]) bD ⟨(d_ aj aj),trivial⟩ (aH (i+1) (by assumption) aj (eJ [.sm 71 5,.aa [40,4,28,13,8,3,2,1,0,6,5] [5,1]] [] [5] [yB (af aY ([aF d.bF,aF d.peer,dQ d.box,bC (u64 (↑d.ae.length:Int))]++List.map cy (List.take i d.ae))++(aY (cy (d.ae.getD i default)))=af aY ([aF d.bF,aF d.peer,dQ d.box,bC (u64 (↑d.ae.length:Int))]++List.map cy (List.take (i+1) d.ae))) (by assumption)]))
 ·have ei:i=d.ae.length:=aj
  subst ei
  rw [show d.ae.take d.ae.length=d.ae from List.take_length]
  have oG:uZ d=([aF d.bF,aF d.peer,dQ d.box,bC (u64 d.ae.length)]++d.ae.map cy++ [bC (u64 d.au.length)])++d.au.map aF++ [aF (u64 d.need)]:=by unfold uZ;simp
  rw [oG]
  have V2:([aF d.bF,aF d.peer,dQ d.box,bC (u64 d.ae.length)]++d.ae.map cy).length≤12:=by rw [List.length_append,List.length_map];show 4+_≤12;omega
  generalize [aF d.bF,aF d.peer,dQ d.box,bC (u64 d.ae.length)]++d.ae.map cy=A at *
  have Vd:(af aY A).length≤36:=by rw [aE (e:=3) (fun _=>rfl)];omega
  refine zE 1<|a_<|aP<|bo<|ak<|zP 1 [yH [(3,{k:=d.au.length}),(4,yV (AV.agg (aY (bC (u64 (↑d.au.length:Int))))))]] [.aa [5,60,40,4,28,13,8,3,2,1,0,6] [78,1]] [yI (aB d.au),yI (tO ((↑d.au.length:Int))),yO (((af aY A).length+3)*32≤422212465065984)]<|zS<|zq<|zB 3 (zL (fun (j:Nat)=>(⟨[(60,ao (decide ((↑d.ae.length:Int)<(↑(af ay d.ae).length:Int)))),(40,ao ((0:Int) != (0:Int))),(4,ai 0),(28,ao ((↑d.au.length:Int) != (↑(af ay d.ae).length:Int))),(13,ao (!decide ((1:Int)≤d.need∧d.need≤(↑(af ay d.ae).length:Int)))),(8,ao (decide ((↑d.box.length:Int)>1024))),(3,ai 0),(2,AV.nil),(1,AV.addr 1 0),(0,AV.agg (bg d)),(6,ai (↑d.ae.length:Int)),(7,ai j),(5,AV.ref 5)],[(5,⟨3,true,false,af aY (A++ [bC (u64 d.au.length)]++(d.au.take j).map aF)⟩),(1,⟨1,false,true,bg d⟩)]⟩:AS)) (fun j=>(j≤d.au.length)) (fun j=>(d.au.length-j)) (0) ?_ (eJ [.sm 78 5,.aa [60,40,4,28,13,8,3,2,1,0,6,7,5] [5,1]] [] [5] [yB (af aY A++(aY (bC (u64 (↑d.au.length:Int))))=af aY (A++ [bC (u64 (↑d.au.length:Int))]++List.map aF (List.take 0 d.au))) (by rw [List.take_zero];exact (fB A [bC (u64 d.au.length)]).trans (by simp))]) ?_)
  ·omega
  intro j hj
  refine zS<|zP 1 [yH [(3,{k:=d.au.length})]] [.aa [83,60,40,4,28,13,8,3,2,1,0,6,7,5] [5,1]] [yI (aB d.au)] (zD 83 ((↑j:Int)<(↑d.au.length:Int)) (fun g2=>?_) (fun g2=>?_))
  ·have xK:j<d.au.length:=aj
   have gT:=dB (l:=d.au) xK
   have s2:=uk aF (A++ [bC (u64 d.au.length)]) d.au xK 0
   refine a7<|zS<|zB 4<|zX (yH [(4,{k:=j}),(5,yV (aw (d.au.getD j 0))),(6,yV (AV.agg (aY (aF (d.au.getD j 0)))))]) [yR (↑j:Int),yB (j<(ah d.au).length) (by simp only [aB];omega),yI gT,yI (gW (d.au.getD j 0)),yB (((af aY (A++ [bC (u64 (↑d.au.length:Int))]++List.map aF (List.take j d.au))).length+3)*32≤422212465065984) (by simp only [List.length_append,List.length_cons,List.length_nil,List.length_take,List.length_map,aE (f:=aY) (e:=3) (fun _=>rfl)];omega)]<|aL<|ak<|zX (yH [(1,yV (ai ((↑j:Int)+1)))]) [yN ((↑j:Int)+1)] (aH (j+1) (by assumption) aj (eJ [.sm 94 5,.aa [60,40,4,28,13,8,3,2,1,0,6,7,5] [5,1]] [] [5] [yB (af aY (A++ [bC (u64 (↑d.au.length:Int))]++List.map aF (List.take j d.au))++(aY (aF (d.au.getD j 0)))=af aY (A++ [bC (u64 (↑d.au.length:Int))]++List.map aF (List.take (j+1) d.au))) (by assumption)]))
  ·have ej:j=d.au.length:=aj
   subst ej
   rw [show d.au.take d.au.length=d.au from List.take_length]
   refine zE 3<|a_<|aP<|bo<|ak<|zP 1 [yH [(3,yV (aw (u64 d.need))),(4,yV (AV.agg (aY (aF (u64 d.need)))))]] [.aa [3,2,83,60,40,4,28,13,8,1,0,6,7] [101,1]] [yI (a8 d.need),yI (gW (u64 d.need)),yB (((af aY (A++ [bC (u64 (↑d.au.length:Int))]++List.map aF d.au)).length+3)*32≤422212465065984) (by simp only [List.length_append,List.length_cons,List.length_nil,List.length_map,aE (f:=aY) (e:=3) (fun _=>rfl)];omega)]<|zR (zV [yB (af aY (A++ [bC (u64 (↑d.au.length:Int))]++List.map aF d.au)++(aY (aF (u64 d.need)))=af aY (A++ [bC (u64 (↑d.au.length:Int))]++List.map aF d.au++ [aF (u64 d.need)])) (fB _ [aF (u64 d.need)]),yR (Value.int .i64 0)])
theorem xk (x:fE) (hk:eH x.kind) (hd:x.cK.length≤100000) (h:x.kind=3∨x.kind=4∨x.cK= []):bK Tryz.prog 84 [.agg (aY x)] (cZ (jg x)):=by
 rw [K4 x h]
 have hl:=lQ (u8 (x.kind-1)) (mL x)
 have hh:=zZ x hk hd
 generalize cE (u8 (x.kind-1)) (mL x)=H at *
 have hs:(⟨H.toArray⟩:ByteArray).size+(⟨x.cK.toArray⟩:ByteArray).size≤9223372036854775807:=by
  show H.toArray.size+x.cK.toArray.size≤_
  rw [List.size_toArray,List.size_toArray]
  omega
 refine zO Tryz.func84 9<|zP 2 [{},{hs:=[(1,yV (AV.own 1 (ag H))),(2,yV (cZ H))],T:=5}] [.aa [2,1,0] [1]] [yI hh,yI (aQ H),yR (ag H),yI hs]<|zR (bU)
end Go.Proofs.YtjgbhhnghedgdaaGreatDoor
