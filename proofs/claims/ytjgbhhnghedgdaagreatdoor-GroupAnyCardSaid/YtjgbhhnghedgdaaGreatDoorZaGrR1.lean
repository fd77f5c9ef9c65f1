import Derived.Test.YtjgbhhnghedgdaaGreatDoorZaGrB3
set_option linter.all false
namespace Go.Proofs.YtjgbhhnghedgdaaGreatDoor
open Go.RowKit
set_option maxRecDepth 100000
set_option maxHeartbeats 4000000
theorem gX (n:UInt64):bK Tryz.prog 83 [aw n] (.agg (aU (aG n))):=by
 refine zO Tryz.func83 5<|zP 2 [{},{}] [.ae [2,0] [2]] [yL 3 3]<|zR (bV)
theorem qO (b:List UInt8):bK Tryz.prog 130 [db b] (.agg (aU (cA b))):=by
 refine zO Tryz.func130 5<|zP 2 [{},{}] [.ae [2,0] [2]] [yL 3 3]<|zR (bV)
theorem wx (b:List UInt8) (hb:b.length≤1000000):bK Tryz.prog 131 [.sl 1 (ag b)] (.agg (aU (dX b))):=by
 refine zO Tryz.func131 6<|zP 2 [{},yH [(1,yV (db b))]] [.ae [2,0] [2]] [yR (ag b),yL 3 3]<|zR (bV)
theorem tW (n:Int):bK Tryz.prog 81 [ai n] (.agg (aU (bD (u64 n)))):=by
 refine zO Tryz.func81 6<|zP 2 [{},yH [(1,yV (aw (u64 n)))]] [.ae [2,0] [2]] [yI (a6 n),yL 3 3]<|zR (bV)
def mV (x:fE):UInt64:=if x.kind=3∨x.kind=4 then u64 x.cI.length else x.num
theorem Lp (x:fE) (h:x.kind=3∨x.kind=4∨x.cI= []):jm x=cG (u8 (x.kind-1)) (mV x)++x.cI:=by
 unfold jm mV
 by_cases c:x.kind=3∨x.kind=4
 ·rw [if_pos c,if_pos c]
 ·rw [if_neg c,if_neg c,show x.cI= [] by rcases h with h|h|h;exact absurd (.inl h) c;exact absurd (.inr h) c;exact h,List.append_nil]
theorem Qt (n:UInt64):words [n]=oS n 8 8:=rfl
theorem K5 {m:UInt8} {n:UInt64} (h:wv n<24):cG m n= [m<<<5+n.toUInt8]:=if_pos h
theorem Nl {m:UInt8} {n:UInt64} (h1:¬wv n<24) (h:wv n<256):cG m n= [m<<<5+24,n.toUInt8]:=by unfold cG;rw [if_neg h1,if_pos h];simp [oS]
theorem Nk {m:UInt8} {n:UInt64} (h1:¬wv n<256) (h:wv n<65536):cG m n= [m<<<5+25,(n>>>8).toUInt8,n.toUInt8]:=by unfold cG;rw [if_neg ah,if_neg h1,if_pos h];simp [oS,List.range_succ]
theorem Nj {m:UInt8} {n:UInt64} (h1:¬wv n<65536) (h:wv n<4294967296):cG m n= [m<<<5+26,(n>>>24).toUInt8,(n>>>16).toUInt8,(n>>>8).toUInt8,n.toUInt8]:=by unfold cG;rw [if_neg ah,if_neg ah,if_neg h1,if_pos h];simp [oS,List.range_succ]
theorem Ni {m:UInt8} {n:UInt64} (h1:¬wv n<4294967296):cG m n=(m<<<5+27)::words [n]:=by unfold cG;rw [if_neg ah,if_neg ah,if_neg ah,if_neg h1,Qt]
theorem Ai (x:fE) (hk:eM x.kind) (hd:x.cI.length≤100000):bK Tryz.prog 133 [.agg (aU x)] (.own 1 (ag (cG (u8 (x.kind-1)) (mV x)))):=by
 refine zO Tryz.func133 87<|zP 3 [{},{},{}] [.ae [4,3,2,1,0] [1]] [] (bf.oN (fun (p:UInt64×UInt8)=>(⟨[(1,AV.addr 1 0),(0,AV.agg (aU x)),(3,aw p.1),(4,ab p.2)],[(1,⟨1,false,true,List.map (aD 1) (aU x)⟩)]⟩:AS)) (fun p=>(p=(mV x,u8 (x.kind-1)<<<5))) bh ?_ ?_)
 ·rcases hk with k|k|k|k
  ·have e:mV x=x.num:=if_neg ah
   have e2:u8 (x.kind-1)<<<5=0:=by rw [k];decide
   refine zq<|zB 0<|zP 1 [{}] [.ae [9,8,4,3,2,1,0] [1]] []<|bj 9 (x.kind == (7:Int)) bE<|zq<|bj 15 (x.kind == (8:Int)) bE<|zP 1 [{}] [.ae [18,15,9,8,4,3,2,1,0] [1]] []<|bj 18 (x.kind == (2:Int)) bE<|zq<|bj 20 (x.kind == (3:Int)) bE<|zP 1 [{}] [.ae [26,20,18,15,9,8,4,3,2,1,0] [1]] []<|bj 26 (x.kind == (4:Int)) bE<|zq<|bj 32 (x.kind == (5:Int)) bE<|zP 1 [{}] [.ae [34,32,26,20,18,15,9,8,4,3,2,1,0] [1]] []<|bj 34 (x.kind == (6:Int)) bE<|zK<|aM<|ak (⟨(mV x,u8 (x.kind-1)<<<5),rfl,(eK [.ae [1,0,3,4] [1]] [3,4] [] [yB (aw x.num=aw (mV x)) (by rw [e]),yB (AV.val (Value.int .u8 0)=ab (u8 (x.kind-1)<<<(5:UInt8))) (by rw [e2];rfl)])⟩)
  ·have e:mV x=u64 x.cI.length:=if_pos (.inl k)
   have e2:u8 (x.kind-1)<<<5=64:=by rw [k];decide
   refine zq<|zB 0<|zP 1 [{}] [.ae [9,8,4,3,2,1,0] [1]] []<|bj 9 (x.kind == (7:Int)) bE<|zq<|bj 15 (x.kind == (8:Int)) bE<|bf.jW 1 [{}] [.ae [18,15,9,8,4,3,2,1,0] [1]] bh (s':=AS.mk [(18,ao (x.kind == (2:Int))),(15,ao (x.kind == (8:Int))),(9,ao (x.kind == (7:Int))),(8,ai x.kind),(4,AV.val (Value.int .u8 0)),(3,aw x.num),(2,AV.nil),(1,AV.addr 1 0),(0,AV.agg (aU x))] [(1,Row.mk 1 false true (List.map (aD 1) (aU x)))]) (C:=[]) bh trivial<|bj 18 (x.kind == (2:Int)) bE<|zq<|du 20 (x.kind == (3:Int)) fb<|zX ({hs:=[(2,yV (ai (↑x.cI.length:Int))),(3,yV (aw (u64 (↑x.cI.length:Int))))],T:=5}) [yR (ai (↑x.cI.length:Int)),yI (a6 ((↑x.cI.length:Int)))]<|aM<|ak (⟨(mV x,u8 (x.kind-1)<<<5),rfl,(eK [.ae [1,0,3,4] [1]] [3,4] [] [yB (aw (u64 (↑x.cI.length:Int))=aw (mV x)) (by rw [e]),yB (AV.val (Value.int .u8 64)=ab (u8 (x.kind-1)<<<(5:UInt8))) (by rw [e2];rfl)])⟩)
  ·have e:mV x=u64 x.cI.length:=if_pos (.inr k)
   have e2:u8 (x.kind-1)<<<5=96:=by rw [k];decide
   refine zq<|zB 0<|zP 1 [{}] [.ae [9,8,4,3,2,1,0] [1]] []<|bj 9 (x.kind == (7:Int)) bE<|zq<|bj 15 (x.kind == (8:Int)) bE<|zP 1 [{}] [.ae [18,15,9,8,4,3,2,1,0] [1]] []<|bj 18 (x.kind == (2:Int)) bE<|zq<|bj 20 (x.kind == (3:Int)) bE<|zP 1 [{}] [.ae [26,20,18,15,9,8,4,3,2,1,0] [1]] []<|du 26 (x.kind == (4:Int)) fb<|zX ({hs:=[(2,yV (ai (↑x.cI.length:Int))),(3,yV (aw (u64 (↑x.cI.length:Int))))],T:=5}) [yR (ai (↑x.cI.length:Int)),yI (a6 ((↑x.cI.length:Int)))]<|aM<|ak (⟨(mV x,u8 (x.kind-1)<<<5),rfl,(eK [.ae [1,0,3,4] [1]] [3,4] [] [yB (aw (u64 (↑x.cI.length:Int))=aw (mV x)) (by rw [e]),yB (AV.val (Value.int .u8 96)=ab (u8 (x.kind-1)<<<(5:UInt8))) (by rw [e2];rfl)])⟩)
  ·have e:mV x=x.num:=if_neg ah
   have e2:u8 (x.kind-1)<<<5=128:=by rw [k];decide
   refine zq<|zB 0<|zP 1 [{}] [.ae [9,8,4,3,2,1,0] [1]] []<|bj 9 (x.kind == (7:Int)) bE<|bf.i9 1 [{}] bh (s':=AS.mk [(15,ao (x.kind == (8:Int))),(16,ao (x.kind == (8:Int))),(9,ao (x.kind == (7:Int))),(8,ai x.kind),(4,AV.val (Value.int .u8 0)),(3,aw x.num),(2,AV.nil),(1,AV.addr 1 0),(0,AV.agg (aU x))] [(1,Row.mk 1 false true (List.map (aD 1) (aU x)))]) (C:=[]) bh trivial<|bj 15 (x.kind == (8:Int)) bE<|zP 1 [{}] [.ae [18,15,9,8,4,3,2,1,0] [1]] []<|bj 18 (x.kind == (2:Int)) bE<|zq<|bj 20 (x.kind == (3:Int)) bE<|zP 1 [{}] [.ae [26,20,18,15,9,8,4,3,2,1,0] [1]] []<|bj 26 (x.kind == (4:Int)) bE<|zq<|du 32 (x.kind == (5:Int)) fb<|zX {} []<|aM<|ak (⟨(mV x,u8 (x.kind-1)<<<5),rfl,(eK [.ae [1,0,3,4] [1]] [3,4] [] [yB (aw x.num=aw (mV x)) (by rw [e]),yB (AV.val (Value.int .u8 128)=ab (u8 (x.kind-1)<<<(5:UInt8))) (by rw [e2];rfl)])⟩)
 rintro ⟨n,M⟩ hp
 injection hp with hn hM
 rw [←hn]
 clear hn
 simp only
 by_cases c1:wv n<24
 ·have e:=K5 (m:=u8 (x.kind-1)) c1
  rw [←hM] at e
  rw [e]
  refine zS<|zB 1<|zP 1 [{}] [.ae [36,1,0,3,4] [1]] []<|gT 36 (wv n<24)<|zP 1 [yH [(2,yV (ab n.toUInt8)),(3,yV (ab (M+n.toUInt8))),(4,yV (AV.arr (ag [M+n.toUInt8])))]] [.ae [2,36,1,0,3,4] [43,1]] [yR (ab n.toUInt8),yR (ab (M+n.toUInt8)),yR [ab (M+n.toUInt8)]]<|zR<|aY<|aI (bV)
 by_cases c2:wv n<256
 ·have e:=Nl (m:=u8 (x.kind-1)) c1 c2
  rw [←hM] at e
  rw [e]
  refine zS<|zB 1<|zP 1 [{}] [.ae [36,1,0,3,4] [1]] []<|dp 36 (wv n<24)<|zP 1 [{}] [.ae [44,36,1,0,3,4] [1]] []<|gT 44 (wv n<256)<|zP 1 [yH [(1,yV (ab (M+24))),(3,yV (ab n.toUInt8)),(4,yV (AV.arr (ag [M+24,n.toUInt8])))]] [.ae [2,44,36,1,0,3,4] [51,1]] [yR (ab (M+24)),yR (ab n.toUInt8),yR (ag [M+24,n.toUInt8])]<|zR<|aY<|aI (bV)
 by_cases c3:wv n<65536
 ·have e:=Nk (m:=u8 (x.kind-1)) c2 c3
  rw [←hM] at e
  rw [e]
  refine zS<|zB 1<|zP 1 [{}] [.ae [36,1,0,3,4] [1]] []<|dp 36 (wv n<24)<|zP 1 [{}] [.ae [44,36,1,0,3,4] [1]] []<|dp 44 (wv n<256)<|zP 1 [{}] [.ae [52,44,36,1,0,3,4] [1]] []<|gT 52 (wv n<65536)<|zP 1 [yH [(1,yV (ab (M+25))),(3,yV (aw (n>>>(8:UInt64)))),(4,yV (ab ((n>>>(8:UInt64)).toUInt8))),(6,yV (ab n.toUInt8)),(7,yV (AV.arr (ag [M+25,(n>>>(8:UInt64)).toUInt8,n.toUInt8])))]] [.ae [2,52,44,36,1,0,3,4] [62,1]] [yR (ab (M+25)),yI (fj n ((8:Int)) ah ah),yO ((0:Int)≤8),yR (ab ((n>>>(8:UInt64)).toUInt8)),yR (ab n.toUInt8),yR (ag [M+25,(n>>>(8:UInt64)).toUInt8,n.toUInt8])]<|zR<|aY<|aI (bV)
 by_cases c4:wv n<4294967296
 ·have e:=Nj (m:=u8 (x.kind-1)) c3 c4
  rw [←hM] at e
  rw [e]
  refine zS<|zB 1<|zP 1 [{}] [.ae [36,1,0,3,4] [1]] []<|dp 36 (wv n<24)<|zP 1 [{}] [.ae [44,36,1,0,3,4] [1]] []<|dp 44 (wv n<256)<|zP 1 [{}] [.ae [52,44,36,1,0,3,4] [1]] []<|dp 52 (wv n<65536)<|zP 1 [{}] [.ae [63,52,44,36,1,0,3,4] [1]] []<|gT 63 (wv n<4294967296)<|zP 1 [yH [(1,yV (ab (M+26))),(3,yV (aw (n>>>(24:UInt64)))),(4,yV (ab ((n>>>(24:UInt64)).toUInt8))),(6,yV (aw (n>>>(16:UInt64)))),(7,yV (ab ((n>>>(16:UInt64)).toUInt8))),(9,yV (aw (n>>>(8:UInt64)))),(10,yV (ab ((n>>>(8:UInt64)).toUInt8))),(12,yV (ab n.toUInt8)),(13,yV (AV.arr (ag [M+26,(n>>>(24:UInt64)).toUInt8,(n>>>(16:UInt64)).toUInt8,(n>>>(8:UInt64)).toUInt8,n.toUInt8])))]] [.ae [2,63,52,44,36,1,0,3,4] [79,1]] [yR (ab (M+26)),yI (fj n ((24:Int)) ah ah),yO ((0:Int)≤24),yR (ab ((n>>>(24:UInt64)).toUInt8)),yI (fj n ((16:Int)) ah ah),yO ((0:Int)≤16),yR (ab ((n>>>(16:UInt64)).toUInt8)),yI (fj n ((8:Int)) ah ah),yO ((0:Int)≤8),yR (ab ((n>>>(8:UInt64)).toUInt8)),yR (ab n.toUInt8),yR (ag [M+26,(n>>>(24:UInt64)).toUInt8,(n>>>(16:UInt64)).toUInt8,(n>>>(8:UInt64)).toUInt8,n.toUInt8])]<|zR<|aY<|aI (bV)
 ·have e:=Ni (m:=u8 (x.kind-1)) c4
  rw [←hM] at e
  rw [e]
  refine zS<|zB 1<|zP 1 [{}] [.ae [36,1,0,3,4] [1]] []<|dp 36 (wv n<24)<|zP 1 [{}] [.ae [44,36,1,0,3,4] [1]] []<|dp 44 (wv n<256)<|zP 1 [{}] [.ae [52,44,36,1,0,3,4] [1]] []<|dp 52 (wv n<65536)<|zP 1 [{}] [.ae [63,52,44,36,1,0,3,4] [1]] []<|dp 63 (wv n<4294967296)<|zK<|aM<|ak<|zP 1 [yH [(1,yV (ab (M+27))),(2,yV (AV.arr (ag [M+27]))),(4,yV (AV.arr (aj [n]))),(5,yV (AV.own 1 (ag (words [n])))),(6,yV (AV.arr (ag ([M+27]++words [n]))))]] [.ae [2,63,52,44,36,1,0,3,4] [86,1]] [yR (ab (M+27)),yR [ab (M+27)],yR [aw n],yI (dB [n] (by simp only [List.length_cons,List.length_nil];omega)),yI (aR (words [n])),yR (ag ([M+27]++words [n])),yL 9 140737488355328]<|zR (bV)
theorem ux {T:Type} (f:T->fE) (p:List fE) (l:List T) {i:Nat} (h:i<l.length) (z:T):af aU (p++(l.take i).map f)++aU (f (l.getD i z))=af aU (p++(l.take (i+1)).map f):=by
 rw [List.take_add_one,List.map_append,←List.append_assoc,List.getD_eq_getElem?_getD,List.getElem?_eq_getElem h]
 exact fB (p++(l.take i).map f) [f l[i]]
theorem B4 (d:m0) (hB:y8 d):bK Tryz.prog 132 [.agg (bc d)] (.bq [.own 3 (af aU (if fC d=0 then vd d else [])),ai (fC d)]):=by
 have s6:(af ay d.aa).length=d.aa.length:=by rw [aF (e:=1) (fun _=>rfl)];omega
 obtain ⟨b1,b2,b3,hh⟩:=hB
 by_cases c1:1024<d.box.length
 ·have e:fC d=8:=if_pos c1
  rw [e,if_neg ah]
  refine zO Tryz.func132 102<|zq<|zS<|zB 0<|zP 1 [yH [(2,{k:=d.box.length})]] [.ae [8,3,2,1,0] [1]] [yI (aC d.box)]<|gT 8 ((↑d.box.length:Int)>1024)<|zq<|zR<|aY<|aI (bV)
 by_cases c2:nO d.aa.length d.need
 ·have e:fC d=9:=by unfold fC;rw [if_neg c1,if_pos c2]
  unfold nO at c2
  rw [e,if_neg ah]
  by_cases k1:1≤d.aa.length∧d.aa.length≤8
  ·have k2:¬(1≤d.need∧d.need≤d.aa.length):=ah
   have Td:1≤(d.aa.length:Int)∧(d.aa.length:Int)≤8:=ah
   refine zO Tryz.func132 102<|zq<|zS<|zB 0<|zP 1 [yH [(2,{k:=d.box.length})]] [.ae [8,3,2,1,0] [1]] [yI (aC d.box)]<|dp 8 ((↑d.box.length:Int)>1024)<|zP 1 [yH ([(2,{k:=(af ay d.aa).length}),(3,yV (ao (decide ((1:Int)≤(↑(af ay d.aa).length:Int)∧(↑(af ay d.aa).length:Int)≤8)))),(10,{k:=(af ay d.aa).length,g:=false}),(11,{av:=some (ao (decide ((1:Int)≤d.need∧d.need≤(↑(af ay d.aa).length:Int)))),g:=false}),(13,{b:=false})]++yg [6,7,8,9,12])] [.ae [13,8,3,2,1,0] [1]] ([yR ((af ay d.aa).length),yI (bo (↑(af ay d.aa).length:Int) ((1:Int)) ((8:Int)))]++yM 5 (yS ((!decide ((1:Int)≤(↑(af ay d.aa).length:Int)∧(↑(af ay d.aa).length:Int)≤8))=false))++ [yR ((af ay d.aa).length),yS ((!decide ((1:Int)≤(↑(af ay d.aa).length:Int)∧(↑(af ay d.aa).length:Int)≤8))=false),yI (bo d.need ((1:Int)) (↑(af ay d.aa).length:Int))]++yM 2 (yS ((!decide ((1:Int)≤(↑(af ay d.aa).length:Int)∧(↑(af ay d.aa).length:Int)≤8))=false)))<|du 13 (!decide ((1:Int)≤d.need∧d.need≤(↑(af ay d.aa).length:Int))) (by simp;omega)<|zq<|zR<|aY<|aI (bV)
  ·have Td:¬(1≤(d.aa.length:Int)∧(d.aa.length:Int)≤8):=ah
   refine zO Tryz.func132 102<|zq<|zS<|zB 0<|zP 1 [yH [(2,{k:=d.box.length})]] [.ae [8,3,2,1,0] [1]] [yI (aC d.box)]<|dp 8 ((↑d.box.length:Int)>1024)<|zP 1 [yH [(2,{k:=(af ay d.aa).length}),(3,yV (ao (decide ((1:Int)≤(↑(af ay d.aa).length:Int)∧(↑(af ay d.aa).length:Int)≤8))))]] [.ae [13,8,3,2,1,0] [1]] ([yR ((af ay d.aa).length),yI (bo (↑(af ay d.aa).length:Int) ((1:Int)) ((8:Int)))]++yM 8 (yB ((!decide ((1:Int)≤(↑(af ay d.aa).length:Int)∧(↑(af ay d.aa).length:Int)≤8))=true) (by simp;omega)))<|zT 13<|zq<|zR<|aY<|aI (bV)
 unfold nO at c2
 have Td:1≤(d.aa.length:Int)∧(d.aa.length:Int)≤8:=ah
 have QF:1≤d.need∧d.need≤(d.aa.length:Int):=ah
 by_cases c3:d.au.length≠d.aa.length
 ·have e:fC d=4:=by unfold fC;rw [if_neg c1,if_neg (by unfold nO;exact c2),if_pos c3]
  rw [e,if_neg ah]
  refine zO Tryz.func132 102<|zq<|zS<|zB 0<|zP 1 [yH [(2,{k:=d.box.length})]] [.ae [8,3,2,1,0] [1]] [yI (aC d.box)]<|dp 8 ((↑d.box.length:Int)>1024)<|zP 1 [yH ([(2,{k:=(af ay d.aa).length}),(3,yV (ao (decide ((1:Int)≤(↑(af ay d.aa).length:Int)∧(↑(af ay d.aa).length:Int)≤8)))),(10,{k:=(af ay d.aa).length,g:=false}),(11,{av:=some (ao (decide ((1:Int)≤d.need∧d.need≤(↑(af ay d.aa).length:Int)))),g:=false}),(13,{b:=false})]++yg [6,7,8,9,12])] [.ae [13,8,3,2,1,0] [1]] ([yR ((af ay d.aa).length),yI (bo (↑(af ay d.aa).length:Int) ((1:Int)) ((8:Int)))]++yM 5 (yS ((!decide ((1:Int)≤(↑(af ay d.aa).length:Int)∧(↑(af ay d.aa).length:Int)≤8))=false))++ [yR ((af ay d.aa).length),yS ((!decide ((1:Int)≤(↑(af ay d.aa).length:Int)∧(↑(af ay d.aa).length:Int)≤8))=false),yI (bo d.need ((1:Int)) (↑(af ay d.aa).length:Int))]++yM 2 (yS ((!decide ((1:Int)≤(↑(af ay d.aa).length:Int)∧(↑(af ay d.aa).length:Int)≤8))=false)))<|bj 13 (!decide ((1:Int)≤d.need∧d.need≤(↑(af ay d.aa).length:Int))) (by simp_all)<|zP 1 [yH [(2,{k:=d.au.length}),(5,{k:=(af ay d.aa).length})]] [.ae [28,13,8,3,2,1,0] [1]] [yI (aA d.au),yR ((af ay d.aa).length)]<|du 28 ((↑d.au.length:Int) != (↑(af ay d.aa).length:Int)) (by simp;omega)<|zq<|zR<|aY<|aI (bV)
 have e:fC d=ff (mE d.aa) d.aa.length:=by unfold fC;rw [if_neg c1,if_neg (by unfold nO;exact c2),if_neg c3]
 have VR:d.au.length=d.aa.length:=ah
 have hr:=mh d.aa b2 hh
 rw [←e] at hr
 by_cases c:fC d=0
 case neg =>
  rw [if_neg c]
  refine zO Tryz.func132 102<|zq<|zS<|zB 0<|zP 1 [yH [(2,{k:=d.box.length})]] [.ae [8,3,2,1,0] [1]] [yI (aC d.box)]<|dp 8 ((↑d.box.length:Int)>1024)<|zP 1 [yH ([(2,{k:=(af ay d.aa).length}),(3,yV (ao (decide ((1:Int)≤(↑(af ay d.aa).length:Int)∧(↑(af ay d.aa).length:Int)≤8)))),(10,{k:=(af ay d.aa).length,g:=false}),(11,{av:=some (ao (decide ((1:Int)≤d.need∧d.need≤(↑(af ay d.aa).length:Int)))),g:=false}),(13,{b:=false})]++yg [6,7,8,9,12])] [.ae [13,8,3,2,1,0] [1]] ([yR ((af ay d.aa).length),yI (bo (↑(af ay d.aa).length:Int) ((1:Int)) ((8:Int)))]++yM 5 (yS ((!decide ((1:Int)≤(↑(af ay d.aa).length:Int)∧(↑(af ay d.aa).length:Int)≤8))=false))++ [yR ((af ay d.aa).length),yS ((!decide ((1:Int)≤(↑(af ay d.aa).length:Int)∧(↑(af ay d.aa).length:Int)≤8))=false),yI (bo d.need ((1:Int)) (↑(af ay d.aa).length:Int))]++yM 2 (yS ((!decide ((1:Int)≤(↑(af ay d.aa).length:Int)∧(↑(af ay d.aa).length:Int)≤8))=false)))<|bj 13 (!decide ((1:Int)≤d.need∧d.need≤(↑(af ay d.aa).length:Int))) (by simp_all)<|zP 1 [yH [(2,{k:=d.au.length}),(5,{k:=(af ay d.aa).length})]] [.ae [28,13,8,3,2,1,0] [1]] [yI (aA d.au),yR ((af ay d.aa).length)]<|bj 28 ((↑d.au.length:Int) != (↑(af ay d.aa).length:Int)) (by simp_all)<|zK<|aM<|ak<|zS<|zP 2 [yH [(2,yV (ai (fC d)))],yH [(1,yV (ao true))]] [.ae [40,4,28,13,8,3,2,1,0] [1]] [yI hr,yB (ao (fC d != (0:Int))=ao true) (by simp [c])]<|zT 40<|zq<|dk (bV)
 rw [if_pos c,c]
 rw [c] at hr
 clear e c2
 refine zO Tryz.func132 102<|zq<|zS<|zB 0<|zP 1 [yH [(2,{k:=d.box.length})]] [.ae [8,3,2,1,0] [1]] [yI (aC d.box)]<|dp 8 ((↑d.box.length:Int)>1024)<|zP 1 [yH ([(2,{k:=(af ay d.aa).length}),(3,yV (ao (decide ((1:Int)≤(↑(af ay d.aa).length:Int)∧(↑(af ay d.aa).length:Int)≤8)))),(10,{k:=(af ay d.aa).length,g:=false}),(11,{av:=some (ao (decide ((1:Int)≤d.need∧d.need≤(↑(af ay d.aa).length:Int)))),g:=false}),(13,{b:=false})]++yg [6,7,8,9,12])] [.ae [13,8,3,2,1,0] [1]] ([yR ((af ay d.aa).length),yI (bo (↑(af ay d.aa).length:Int) ((1:Int)) ((8:Int)))]++yM 5 (yS ((!decide ((1:Int)≤(↑(af ay d.aa).length:Int)∧(↑(af ay d.aa).length:Int)≤8))=false))++ [yR ((af ay d.aa).length),yS ((!decide ((1:Int)≤(↑(af ay d.aa).length:Int)∧(↑(af ay d.aa).length:Int)≤8))=false),yI (bo d.need ((1:Int)) (↑(af ay d.aa).length:Int))]++yM 2 (yS ((!decide ((1:Int)≤(↑(af ay d.aa).length:Int)∧(↑(af ay d.aa).length:Int)≤8))=false)))<|bj 13 (!decide ((1:Int)≤d.need∧d.need≤(↑(af ay d.aa).length:Int))) (by simp_all)<|zP 1 [yH [(2,{k:=d.au.length}),(5,{k:=(af ay d.aa).length})]] [.ae [28,13,8,3,2,1,0] [1]] [yI (aA d.au),yR ((af ay d.aa).length)]<|bj 28 ((↑d.au.length:Int) != (↑(af ay d.aa).length:Int)) (by simp_all)<|zK<|aM<|ak<|zS<|zP 2 [yH [(2,yV (ai 0))],{}] [.ae [40,4,28,13,8,3,2,1,0] [1]] [yI hr]<|zF 40<|a_<|zP 1 [{hs:=[(2,yV (AV.agg (aU (aG d.bR)))),(5,yV (AV.agg (aU (aG d.peer)))),(8,yV (AV.agg (aU (dX d.box)))),(11,{k:=(af ay d.aa).length}),(12,yV (AV.agg [ai ((bD (u64 (↑(af ay d.aa).length:Int))).kind),aw ((bD (u64 (↑(af ay d.aa).length:Int))).num),AV.val (Value.string (ByteArray.mk (bD (u64 (↑(af ay d.aa).length:Int))).cI.toArray))]))],T:=12}] [.ae [5,40,4,28,13,8,3,2,1,0] [55,1]] [yI (gX d.bR),yI (gX d.peer),yI (wx d.box b1),yR ((af ay d.aa).length),yI (tW (↑(af ay d.aa).length:Int))]<|zS<|zq<|zB 1 (zL (fun (i:Nat)=>(⟨[(40,ao ((0:Int) != (0:Int))),(4,ai 0),(28,ao ((↑d.au.length:Int) != (↑(af ay d.aa).length:Int))),(13,ao (!decide ((1:Int)≤d.need∧d.need≤(↑(af ay d.aa).length:Int)))),(8,ao (decide ((↑d.box.length:Int)>1024))),(3,ai 0),(2,AV.nil),(1,AV.addr 1 0),(0,AV.agg (bc d)),(6,ai i),(5,AV.ref 5)],[(5,⟨3,true,false,af aU ([aG d.bR,aG d.peer,dX d.box,bD (u64 d.aa.length)]++(d.aa.take i).map cA)⟩),(1,⟨1,false,true,bc d⟩)]⟩:AS)) (fun i=>(i≤d.aa.length)) (fun i=>(d.aa.length-i)) (0) ?_ (eK [.vo 55 5,.loose 5,.ae [40,4,28,13,8,3,2,1,0,6,5] [5,1]] [] [5] [yB ([ai ((aG d.bR).kind),aw ((aG d.bR).num),db (aG d.bR).cI,ai ((aG d.peer).kind),aw ((aG d.peer).num),db (aG d.peer).cI,ai ((dX d.box).kind),aw ((dX d.box).num),db (dX d.box).cI,ai ((bD (u64 (↑(af ay d.aa).length:Int))).kind),aw ((bD (u64 (↑(af ay d.aa).length:Int))).num),AV.val (Value.string (ByteArray.mk (bD (u64 (↑(af ay d.aa).length:Int))).cI.toArray))]=af aU ([aG d.bR,aG d.peer,dX d.box,bD (u64 (↑d.aa.length:Int))]++List.map cA (List.take 0 d.aa))) (by rw [s6];rfl)]) ?_)
 ·omega
 intro i hi
 refine zS<|zP 1 [yH [(3,{k:=(af ay d.aa).length})]] [.ae [60,40,4,28,13,8,3,2,1,0,6,5] [5,1]] [yR ((af ay d.aa).length)] (zD 60 ((↑i:Int)<(↑(af ay d.aa).length:Int)) (fun g=>?_) (fun g=>?_))
 ·have dz:i<d.aa.length:=ah
  have gh:=iK dz
  have hA:=hh i dz
  have s1:=ux cA [aG d.bR,aG d.peer,dX d.box,bD (u64 d.aa.length)] d.aa dz default
  refine a_<|zS<|zB 2<|zX (yH [(4,{k:=i}),(5,yV (db (d.aa.getD i default))),(6,yV (AV.agg (aU (cA (d.aa.getD i default)))))]) [yR (↑i:Int),yO (i<(af ay d.aa).length),yI gh,yI (qO (d.aa.getD i default)),yB (((af aU ([aG d.bR,aG d.peer,dX d.box,bD (u64 (↑d.aa.length:Int))]++List.map cA (List.take i d.aa))).length+3)*32≤422212465065984) (by simp only [List.length_append,List.length_cons,List.length_nil,List.length_take,List.length_map,aF (f:=aU) (e:=3) (fun _=>rfl)];omega)]<|aM<|ak<|bf.Oh {hs:=[(1,{av:=some (ai ((↑i:Int)+1))})]} (s':=AS.mk [(6,ai ((↑i:Int)+1)),(62,ai ((↑i:Int)+1)),(61,ai ↑i),(5,AV.ref 71),(71,AV.ref 71),(70,AV.ref 70),(69,AV.agg (aU (cA (d.aa.getD i default)))),(68,db (d.aa.getD i default)),(67,AV.ptr (af ay d.aa) i),(66,ai ↑i),(65,AV.sl 1 (af ay d.aa)),(64,AV.addr 1 3),(63,AV.dead),(60,ao (decide ((↑i:Int)<(↑(af ay d.aa).length:Int)))),(40,ao ((0:Int) != (0:Int))),(4,ai 0),(28,ao ((↑d.au.length:Int) != (↑(af ay d.aa).length:Int))),(13,ao (!decide ((1:Int)≤d.need∧d.need≤(↑(af ay d.aa).length:Int)))),(8,ao (decide ((↑d.box.length:Int)>1024))),(3,ai 0),(2,AV.nil),(1,AV.addr 1 0),(0,AV.agg (bc d))] [(71,Row.mk 3 true false (af aU ([aG d.bR,aG d.peer,dX d.box,bD (u64 (↑d.aa.length:Int))]++List.map cA (List.take i d.aa))++(aU (cA (d.aa.getD i default))))),(70,Row.mk 3 true true (aU (cA (d.aa.getD i default)))),(1,Row.mk 1 false true (List.map (aD 71) (cN 5 (Row.mk 1 false true (List.map (aD 70) (bc d)))).cells))]) (C:=[ai (IntKind.i64.wrap ((↑i:Int)+1))=ai ((↑i:Int)+1)]) bh ⟨(dG ah ah),trivial⟩ (aJ (i+1) (by assumption) ah (eK [.vo 71 5,.ae [40,4,28,13,8,3,2,1,0,6,5] [5,1]] [] [5] [yB (af aU ([aG d.bR,aG d.peer,dX d.box,bD (u64 (↑d.aa.length:Int))]++List.map cA (List.take i d.aa))++(aU (cA (d.aa.getD i default)))=af aU ([aG d.bR,aG d.peer,dX d.box,bD (u64 (↑d.aa.length:Int))]++List.map cA (List.take (i+1) d.aa))) (by assumption)]))
 ·have ei:i=d.aa.length:=ah
  subst ei
  rw [show d.aa.take d.aa.length=d.aa from List.take_length]
  have oP:vd d=([aG d.bR,aG d.peer,dX d.box,bD (u64 d.aa.length)]++d.aa.map cA++ [bD (u64 d.au.length)])++d.au.map aG++ [aG (u64 d.need)]:=by unfold vd;simp
  rw [oP]
  have Wo:([aG d.bR,aG d.peer,dX d.box,bD (u64 d.aa.length)]++d.aa.map cA).length≤12:=by rw [List.length_append,List.length_map];show 4+_≤12;omega
  generalize [aG d.bR,aG d.peer,dX d.box,bD (u64 d.aa.length)]++d.aa.map cA=A at *
  have VC:(af aU A).length≤36:=by rw [aF (e:=3) (fun _=>rfl)];omega
  refine zE 1<|a7<|aO<|bn<|ak<|zP 1 [yH [(3,{k:=d.au.length}),(4,yV (AV.agg (aU (bD (u64 (↑d.au.length:Int))))))]] [.ae [5,60,40,4,28,13,8,3,2,1,0,6] [78,1]] [yI (aA d.au),yI (tW ((↑d.au.length:Int))),yO (((af aU A).length+3)*32≤422212465065984)]<|zS<|zq<|zB 3 (zL (fun (j:Nat)=>(⟨[(60,ao (decide ((↑d.aa.length:Int)<(↑(af ay d.aa).length:Int)))),(40,ao ((0:Int) != (0:Int))),(4,ai 0),(28,ao ((↑d.au.length:Int) != (↑(af ay d.aa).length:Int))),(13,ao (!decide ((1:Int)≤d.need∧d.need≤(↑(af ay d.aa).length:Int)))),(8,ao (decide ((↑d.box.length:Int)>1024))),(3,ai 0),(2,AV.nil),(1,AV.addr 1 0),(0,AV.agg (bc d)),(6,ai (↑d.aa.length:Int)),(7,ai j),(5,AV.ref 5)],[(5,⟨3,true,false,af aU (A++ [bD (u64 d.au.length)]++(d.au.take j).map aG)⟩),(1,⟨1,false,true,bc d⟩)]⟩:AS)) (fun j=>(j≤d.au.length)) (fun j=>(d.au.length-j)) (0) ?_ (eK [.vo 78 5,.ae [60,40,4,28,13,8,3,2,1,0,6,7,5] [5,1]] [] [5] [yB (af aU A++(aU (bD (u64 (↑d.au.length:Int))))=af aU (A++ [bD (u64 (↑d.au.length:Int))]++List.map aG (List.take 0 d.au))) (by rw [List.take_zero];exact (fB A [bD (u64 d.au.length)]).trans (by simp))]) ?_)
  ·omega
  intro j hj
  refine zS<|zP 1 [yH [(3,{k:=d.au.length})]] [.ae [83,60,40,4,28,13,8,3,2,1,0,6,7,5] [5,1]] [yI (aA d.au)] (zD 83 ((↑j:Int)<(↑d.au.length:Int)) (fun g2=>?_) (fun g2=>?_))
  ·have xV:j<d.au.length:=ah
   have gh:=dI (l:=d.au) xV
   have s2:=ux aG (A++ [bD (u64 d.au.length)]) d.au xV 0
   refine a_<|zS<|zB 4<|zX (yH [(4,{k:=j}),(5,yV (aw (d.au.getD j 0))),(6,yV (AV.agg (aU (aG (d.au.getD j 0)))))]) [yR (↑j:Int),yB (j<(aj d.au).length) (by simp only [aA];omega),yI gh,yI (gX (d.au.getD j 0)),yB (((af aU (A++ [bD (u64 (↑d.au.length:Int))]++List.map aG (List.take j d.au))).length+3)*32≤422212465065984) (by simp only [List.length_append,List.length_cons,List.length_nil,List.length_take,List.length_map,aF (f:=aU) (e:=3) (fun _=>rfl)];omega)]<|aM<|ak<|zX (yH [(1,yV (ai ((↑j:Int)+1)))]) [yN ((↑j:Int)+1)] (aJ (j+1) (by assumption) ah (eK [.vo 94 5,.ae [60,40,4,28,13,8,3,2,1,0,6,7,5] [5,1]] [] [5] [yB (af aU (A++ [bD (u64 (↑d.au.length:Int))]++List.map aG (List.take j d.au))++(aU (aG (d.au.getD j 0)))=af aU (A++ [bD (u64 (↑d.au.length:Int))]++List.map aG (List.take (j+1) d.au))) (by assumption)]))
  ·have ej:j=d.au.length:=ah
   subst ej
   rw [show d.au.take d.au.length=d.au from List.take_length]
   refine zE 3<|a7<|aO<|bn<|ak<|zP 1 [yH [(3,yV (aw (u64 d.need))),(4,yV (AV.agg (aU (aG (u64 d.need)))))]] [.ae [3,2,83,60,40,4,28,13,8,1,0,6,7] [101,1]] [yI (a6 d.need),yI (gX (u64 d.need)),yB (((af aU (A++ [bD (u64 (↑d.au.length:Int))]++List.map aG d.au)).length+3)*32≤422212465065984) (by simp only [List.length_append,List.length_cons,List.length_nil,List.length_map,aF (f:=aU) (e:=3) (fun _=>rfl)];omega)]<|zR (zV [yB (af aU (A++ [bD (u64 (↑d.au.length:Int))]++List.map aG d.au)++(aU (aG (u64 d.need)))=af aU (A++ [bD (u64 (↑d.au.length:Int))]++List.map aG d.au++ [aG (u64 d.need)])) (fB _ [aG (u64 d.need)]),yR (Value.int .i64 0)])
theorem xw (x:fE) (hk:eM x.kind) (hd:x.cI.length≤100000) (h:x.kind=3∨x.kind=4∨x.cI= []):bK Tryz.prog 84 [.agg (aU x)] (db (jm x)):=by
 rw [Lp x h]
 have hl:=lZ (u8 (x.kind-1)) (mV x)
 have hh:=Ai x hk hd
 generalize cG (u8 (x.kind-1)) (mV x)=H at *
 have hs:(⟨H.toArray⟩:ByteArray).size+(⟨x.cI.toArray⟩:ByteArray).size≤9223372036854775807:=by
  show H.toArray.size+x.cI.toArray.size≤_
  rw [List.size_toArray,List.size_toArray]
  omega
 refine zO Tryz.func84 9<|zP 2 [{},{hs:=[(1,yV (AV.own 1 (ag H))),(2,yV (db H))],T:=5}] [.ae [2,1,0] [1]] [yI hh,yI (aR H),yR (ag H),yI hs]<|zR (bV)
end Go.Proofs.YtjgbhhnghedgdaaGreatDoor
