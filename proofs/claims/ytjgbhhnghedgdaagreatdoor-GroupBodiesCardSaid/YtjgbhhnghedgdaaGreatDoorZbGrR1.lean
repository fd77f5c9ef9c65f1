import Derived.Test.YtjgbhhnghedgdaaGreatDoorZbGrB3
set_option linter.all false
namespace Go.Proofs.YtjgbhhnghedgdaaGreatDoor
open Go.RowKit
set_option maxRecDepth 100000
set_option maxHeartbeats 4000000
theorem gZ (n:UInt64):bL Tryz.prog 83 [aw n] (.agg (aT (aH n))):=by
 refine zO Tryz.func83 5<|zP 2 [{},{}] [.aa [2,0] [2]] [yL 3 3]<|zR (bR)
theorem qO (b:List UInt8):bL Tryz.prog 130 [cF b] (.agg (aT (cC b))):=by
 refine zO Tryz.func130 5<|zP 2 [{},{}] [.aa [2,0] [2]] [yL 3 3]<|zR (bR)
theorem wu (b:List UInt8) (hb:b.length≤1000000):bL Tryz.prog 131 [.sl 1 (ag b)] (.agg (aT (dZ b))):=by
 refine zO Tryz.func131 6<|zP 2 [{},yH [(1,yV (cF b))]] [.aa [2,0] [2]] [yR (ag b),yL 3 3]<|zR (bR)
theorem tX (n:Int):bL Tryz.prog 81 [ai n] (.agg (aT (bD (u64 n)))):=by
 refine zO Tryz.func81 6<|zP 2 [{},yH [(1,yV (aw (u64 n)))]] [.aa [2,0] [2]] [yI (aY n),yL 3 3]<|zR (bR)
def mX (x:fH):UInt64:=if x.kind=3∨x.kind=4 then u64 x.cD.length else x.num
theorem Lc (x:fH) (h:x.kind=3∨x.kind=4∨x.cD= []):i6 x=bX (u8 (x.kind-1)) (mX x)++x.cD:=by
 unfold i6 mX
 by_cases c:x.kind=3∨x.kind=4
 ·rw [if_pos c,if_pos c]
 ·rw [if_neg c,if_neg c,show x.cD= [] by rcases h with h|h|h;exact absurd (.inl h) c;exact absurd (.inr h) c;exact h,List.append_nil]
theorem Qf (n:UInt64):words [n]=oR n 8 8:=rfl
theorem KT {m:UInt8} {n:UInt64} (h:wv n<24):bX m n= [m<<<5+n.toUInt8]:=if_pos h
theorem M8 {m:UInt8} {n:UInt64} (h1:¬wv n<24) (h:wv n<256):bX m n= [m<<<5+24,n.toUInt8]:=by unfold bX;rw [if_neg h1,if_pos h];simp [oR]
theorem M7 {m:UInt8} {n:UInt64} (h1:¬wv n<256) (h:wv n<65536):bX m n= [m<<<5+25,(n>>>8).toUInt8,n.toUInt8]:=by unfold bX;rw [if_neg aj,if_neg h1,if_pos h];simp [oR,List.range_succ]
theorem M6 {m:UInt8} {n:UInt64} (h1:¬wv n<65536) (h:wv n<4294967296):bX m n= [m<<<5+26,(n>>>24).toUInt8,(n>>>16).toUInt8,(n>>>8).toUInt8,n.toUInt8]:=by unfold bX;rw [if_neg aj,if_neg aj,if_neg h1,if_pos h];simp [oR,List.range_succ]
theorem M5 {m:UInt8} {n:UInt64} (h1:¬wv n<4294967296):bX m n=(m<<<5+27)::words [n]:=by unfold bX;rw [if_neg aj,if_neg aj,if_neg aj,if_neg h1,Qf]
theorem z7 (x:fH) (hk:eO x.kind) (hd:x.cD.length≤100000):bL Tryz.prog 133 [.agg (aT x)] (.own 1 (ag (bX (u8 (x.kind-1)) (mX x)))):=by
 refine zO Tryz.func133 87<|zP 3 [{},{},{}] [.aa [4,3,2,1,0] [1]] [] (bf.oM (fun (p:UInt64×UInt8)=>(⟨[(1,AV.addr 1 0),(0,AV.agg (aT x)),(3,aw p.1),(4,ab p.2)],[(1,⟨1,false,true,List.map (aE 1) (aT x)⟩)]⟩:AS)) (fun p=>(p=(mX x,u8 (x.kind-1)<<<5))) bk ?_ ?_)
 ·rcases hk with k|k|k|k
  ·have e:mX x=x.num:=if_neg aj
   have e2:u8 (x.kind-1)<<<5=0:=by rw [k];decide
   refine zq<|zB 0<|zP 1 [{}] [.aa [9,8,4,3,2,1,0] [1]] []<|bn 9 (x.kind == (7:Int)) bE<|zq<|bn 15 (x.kind == (8:Int)) bE<|zP 1 [{}] [.aa [18,15,9,8,4,3,2,1,0] [1]] []<|bn 18 (x.kind == (2:Int)) bE<|zq<|bn 20 (x.kind == (3:Int)) bE<|zP 1 [{}] [.aa [26,20,18,15,9,8,4,3,2,1,0] [1]] []<|bn 26 (x.kind == (4:Int)) bE<|zq<|bn 32 (x.kind == (5:Int)) bE<|zP 1 [{}] [.aa [34,32,26,20,18,15,9,8,4,3,2,1,0] [1]] []<|bn 34 (x.kind == (6:Int)) bE<|zK<|aL<|aq (⟨(mX x,u8 (x.kind-1)<<<5),rfl,(eQ [.aa [1,0,3,4] [1]] [3,4] [] [yB (aw x.num=aw (mX x)) (by rw [e]),yB (AV.val (Value.int .u8 0)=ab (u8 (x.kind-1)<<<(5:UInt8))) (by rw [e2];rfl)])⟩)
  ·have e:mX x=u64 x.cD.length:=if_pos (.inl k)
   have e2:u8 (x.kind-1)<<<5=64:=by rw [k];decide
   refine zq<|zB 0<|zP 1 [{}] [.aa [9,8,4,3,2,1,0] [1]] []<|bn 9 (x.kind == (7:Int)) bE<|zq<|bn 15 (x.kind == (8:Int)) bE<|bf.jX 1 [{}] [.aa [18,15,9,8,4,3,2,1,0] [1]] bk (s':=AS.mk [(18,ao (x.kind == (2:Int))),(15,ao (x.kind == (8:Int))),(9,ao (x.kind == (7:Int))),(8,ai x.kind),(4,AV.val (Value.int .u8 0)),(3,aw x.num),(2,AV.nil),(1,AV.addr 1 0),(0,AV.agg (aT x))] [(1,Row.mk 1 false true (List.map (aE 1) (aT x)))]) (C:=[]) bk trivial<|bn 18 (x.kind == (2:Int)) bE<|zq<|dB 20 (x.kind == (3:Int)) fg<|zX ({hs:=[(2,yV (ai (↑x.cD.length:Int))),(3,yV (aw (u64 (↑x.cD.length:Int))))],T:=5}) [yR (ai (↑x.cD.length:Int)),yI (aY ((↑x.cD.length:Int)))]<|aL<|aq (⟨(mX x,u8 (x.kind-1)<<<5),rfl,(eQ [.aa [1,0,3,4] [1]] [3,4] [] [yB (aw (u64 (↑x.cD.length:Int))=aw (mX x)) (by rw [e]),yB (AV.val (Value.int .u8 64)=ab (u8 (x.kind-1)<<<(5:UInt8))) (by rw [e2];rfl)])⟩)
  ·have e:mX x=u64 x.cD.length:=if_pos (.inr k)
   have e2:u8 (x.kind-1)<<<5=96:=by rw [k];decide
   refine zq<|zB 0<|zP 1 [{}] [.aa [9,8,4,3,2,1,0] [1]] []<|bn 9 (x.kind == (7:Int)) bE<|zq<|bn 15 (x.kind == (8:Int)) bE<|zP 1 [{}] [.aa [18,15,9,8,4,3,2,1,0] [1]] []<|bn 18 (x.kind == (2:Int)) bE<|zq<|bn 20 (x.kind == (3:Int)) bE<|zP 1 [{}] [.aa [26,20,18,15,9,8,4,3,2,1,0] [1]] []<|dB 26 (x.kind == (4:Int)) fg<|zX ({hs:=[(2,yV (ai (↑x.cD.length:Int))),(3,yV (aw (u64 (↑x.cD.length:Int))))],T:=5}) [yR (ai (↑x.cD.length:Int)),yI (aY ((↑x.cD.length:Int)))]<|aL<|aq (⟨(mX x,u8 (x.kind-1)<<<5),rfl,(eQ [.aa [1,0,3,4] [1]] [3,4] [] [yB (aw (u64 (↑x.cD.length:Int))=aw (mX x)) (by rw [e]),yB (AV.val (Value.int .u8 96)=ab (u8 (x.kind-1)<<<(5:UInt8))) (by rw [e2];rfl)])⟩)
  ·have e:mX x=x.num:=if_neg aj
   have e2:u8 (x.kind-1)<<<5=128:=by rw [k];decide
   refine zq<|zB 0<|zP 1 [{}] [.aa [9,8,4,3,2,1,0] [1]] []<|bn 9 (x.kind == (7:Int)) bE<|bf.jH 1 [{}] bk (s':=AS.mk [(15,ao (x.kind == (8:Int))),(16,ao (x.kind == (8:Int))),(9,ao (x.kind == (7:Int))),(8,ai x.kind),(4,AV.val (Value.int .u8 0)),(3,aw x.num),(2,AV.nil),(1,AV.addr 1 0),(0,AV.agg (aT x))] [(1,Row.mk 1 false true (List.map (aE 1) (aT x)))]) (C:=[]) bk trivial<|bn 15 (x.kind == (8:Int)) bE<|zP 1 [{}] [.aa [18,15,9,8,4,3,2,1,0] [1]] []<|bn 18 (x.kind == (2:Int)) bE<|zq<|bn 20 (x.kind == (3:Int)) bE<|zP 1 [{}] [.aa [26,20,18,15,9,8,4,3,2,1,0] [1]] []<|bn 26 (x.kind == (4:Int)) bE<|zq<|dB 32 (x.kind == (5:Int)) fg<|zX {} []<|aL<|aq (⟨(mX x,u8 (x.kind-1)<<<5),rfl,(eQ [.aa [1,0,3,4] [1]] [3,4] [] [yB (aw x.num=aw (mX x)) (by rw [e]),yB (AV.val (Value.int .u8 128)=ab (u8 (x.kind-1)<<<(5:UInt8))) (by rw [e2];rfl)])⟩)
 rintro ⟨n,M⟩ hp
 injection hp with hn hM
 rw [←hn]
 clear hn
 simp only
 by_cases c1:wv n<24
 ·have e:=KT (m:=u8 (x.kind-1)) c1
  rw [←hM] at e
  rw [e]
  refine zS<|zB 1<|zP 1 [{}] [.aa [36,1,0,3,4] [1]] []<|gU 36 (wv n<24)<|zP 1 [yH [(2,yV (ab n.toUInt8)),(3,yV (ab (M+n.toUInt8))),(4,yV (AV.arr (ag [M+n.toUInt8])))]] [.aa [2,36,1,0,3,4] [43,1]] [yR (ab n.toUInt8),yR (ab (M+n.toUInt8)),yR [ab (M+n.toUInt8)]]<|zR<|a6<|aI (bR)
 by_cases c2:wv n<256
 ·have e:=M8 (m:=u8 (x.kind-1)) c1 c2
  rw [←hM] at e
  rw [e]
  refine zS<|zB 1<|zP 1 [{}] [.aa [36,1,0,3,4] [1]] []<|dt 36 (wv n<24)<|zP 1 [{}] [.aa [44,36,1,0,3,4] [1]] []<|gU 44 (wv n<256)<|zP 1 [yH [(1,yV (ab (M+24))),(3,yV (ab n.toUInt8)),(4,yV (AV.arr (ag [M+24,n.toUInt8])))]] [.aa [2,44,36,1,0,3,4] [51,1]] [yR (ab (M+24)),yR (ab n.toUInt8),yR (ag [M+24,n.toUInt8])]<|zR<|a6<|aI (bR)
 by_cases c3:wv n<65536
 ·have e:=M7 (m:=u8 (x.kind-1)) c2 c3
  rw [←hM] at e
  rw [e]
  refine zS<|zB 1<|zP 1 [{}] [.aa [36,1,0,3,4] [1]] []<|dt 36 (wv n<24)<|zP 1 [{}] [.aa [44,36,1,0,3,4] [1]] []<|dt 44 (wv n<256)<|zP 1 [{}] [.aa [52,44,36,1,0,3,4] [1]] []<|gU 52 (wv n<65536)<|zP 1 [yH [(1,yV (ab (M+25))),(3,yV (aw (n>>>(8:UInt64)))),(4,yV (ab ((n>>>(8:UInt64)).toUInt8))),(6,yV (ab n.toUInt8)),(7,yV (AV.arr (ag [M+25,(n>>>(8:UInt64)).toUInt8,n.toUInt8])))]] [.aa [2,52,44,36,1,0,3,4] [62,1]] [yR (ab (M+25)),yI (fp n ((8:Int)) aj aj),yO ((0:Int)≤8),yR (ab ((n>>>(8:UInt64)).toUInt8)),yR (ab n.toUInt8),yR (ag [M+25,(n>>>(8:UInt64)).toUInt8,n.toUInt8])]<|zR<|a6<|aI (bR)
 by_cases c4:wv n<4294967296
 ·have e:=M6 (m:=u8 (x.kind-1)) c3 c4
  rw [←hM] at e
  rw [e]
  refine zS<|zB 1<|zP 1 [{}] [.aa [36,1,0,3,4] [1]] []<|dt 36 (wv n<24)<|zP 1 [{}] [.aa [44,36,1,0,3,4] [1]] []<|dt 44 (wv n<256)<|zP 1 [{}] [.aa [52,44,36,1,0,3,4] [1]] []<|dt 52 (wv n<65536)<|zP 1 [{}] [.aa [63,52,44,36,1,0,3,4] [1]] []<|gU 63 (wv n<4294967296)<|zP 1 [yH [(1,yV (ab (M+26))),(3,yV (aw (n>>>(24:UInt64)))),(4,yV (ab ((n>>>(24:UInt64)).toUInt8))),(6,yV (aw (n>>>(16:UInt64)))),(7,yV (ab ((n>>>(16:UInt64)).toUInt8))),(9,yV (aw (n>>>(8:UInt64)))),(10,yV (ab ((n>>>(8:UInt64)).toUInt8))),(12,yV (ab n.toUInt8)),(13,yV (AV.arr (ag [M+26,(n>>>(24:UInt64)).toUInt8,(n>>>(16:UInt64)).toUInt8,(n>>>(8:UInt64)).toUInt8,n.toUInt8])))]] [.aa [2,63,52,44,36,1,0,3,4] [79,1]] [yR (ab (M+26)),yI (fp n ((24:Int)) aj aj),yO ((0:Int)≤24),yR (ab ((n>>>(24:UInt64)).toUInt8)),yI (fp n ((16:Int)) aj aj),yO ((0:Int)≤16),yR (ab ((n>>>(16:UInt64)).toUInt8)),yI (fp n ((8:Int)) aj aj),yO ((0:Int)≤8),yR (ab ((n>>>(8:UInt64)).toUInt8)),yR (ab n.toUInt8),yR (ag [M+26,(n>>>(24:UInt64)).toUInt8,(n>>>(16:UInt64)).toUInt8,(n>>>(8:UInt64)).toUInt8,n.toUInt8])]<|zR<|a6<|aI (bR)
 ·have e:=M5 (m:=u8 (x.kind-1)) c4
  rw [←hM] at e
  rw [e]
  refine zS<|zB 1<|zP 1 [{}] [.aa [36,1,0,3,4] [1]] []<|dt 36 (wv n<24)<|zP 1 [{}] [.aa [44,36,1,0,3,4] [1]] []<|dt 44 (wv n<256)<|zP 1 [{}] [.aa [52,44,36,1,0,3,4] [1]] []<|dt 52 (wv n<65536)<|zP 1 [{}] [.aa [63,52,44,36,1,0,3,4] [1]] []<|dt 63 (wv n<4294967296)<|zK<|aL<|aq<|zP 1 [yH [(1,yV (ab (M+27))),(2,yV (AV.arr (ag [M+27]))),(4,yV (AV.arr (ah [n]))),(5,yV (AV.own 1 (ag (words [n])))),(6,yV (AV.arr (ag ([M+27]++words [n]))))]] [.aa [2,63,52,44,36,1,0,3,4] [86,1]] [yR (ab (M+27)),yR [ab (M+27)],yR [aw n],yI (dE [n] (by simp only [List.length_cons,List.length_nil];omega)),yI (aR (words [n])),yR (ag ([M+27]++words [n])),yL 9 140737488355328]<|zR (bR)
theorem uy {T:Type} (f:T->fH) (p:List fH) (l:List T) {i:Nat} (h:i<l.length) (z:T):ae aT (p++(l.take i).map f)++aT (f (l.getD i z))=ae aT (p++(l.take (i+1)).map f):=by
 rw [List.take_add_one,List.map_append,←List.append_assoc,List.getD_eq_getElem?_getD,List.getElem?_eq_getElem h]
 exact fE (p++(l.take i).map f) [f l[i]]
theorem BW (d:na) (hB:yU d):bL Tryz.prog 132 [.agg (bg d)] (.bt [.own 3 (ae aT (if fF d=0 then ve d else [])),ai (fF d)]):=by
 have uG:(ae ay d.af).length=d.af.length:=by rw [aG (e:=1) (fun _=>rfl)];omega
 obtain ⟨b1,b2,b3,hh⟩:=hB
 by_cases c1:1024<d.box.length
 ·have e:fF d=8:=if_pos c1
  rw [e,if_neg aj]
  refine zO Tryz.func132 102<|zq<|zS<|zB 0<|zP 1 [yH [(2,{k:=d.box.length})]] [.aa [8,3,2,1,0] [1]] [yI (aA d.box)]<|gU 8 ((↑d.box.length:Int)>1024)<|zq<|zR<|a6<|aI (bR)
 by_cases c2:nP d.af.length d.need
 ·have e:fF d=9:=by unfold fF;rw [if_neg c1,if_pos c2]
  unfold nP at c2
  rw [e,if_neg aj]
  by_cases k1:1≤d.af.length∧d.af.length≤8
  ·have k2:¬(1≤d.need∧d.need≤d.af.length):=aj
   have SX:1≤(d.af.length:Int)∧(d.af.length:Int)≤8:=aj
   refine zO Tryz.func132 102<|zq<|zS<|zB 0<|zP 1 [yH [(2,{k:=d.box.length})]] [.aa [8,3,2,1,0] [1]] [yI (aA d.box)]<|dt 8 ((↑d.box.length:Int)>1024)<|zP 1 [yH ([(2,{k:=(ae ay d.af).length}),(3,yV (ao (decide ((1:Int)≤(↑(ae ay d.af).length:Int)∧(↑(ae ay d.af).length:Int)≤8)))),(10,{k:=(ae ay d.af).length,g:=false}),(11,{av:=some (ao (decide ((1:Int)≤d.need∧d.need≤(↑(ae ay d.af).length:Int)))),g:=false}),(13,{b:=false})]++yg [6,7,8,9,12])] [.aa [13,8,3,2,1,0] [1]] ([yR ((ae ay d.af).length),yI (bp (↑(ae ay d.af).length:Int) ((1:Int)) ((8:Int)))]++yM 5 (yB ((!decide ((1:Int)≤(↑(ae ay d.af).length:Int)∧(↑(ae ay d.af).length:Int)≤8))=false) (by simp_all))++ [yR ((ae ay d.af).length),yB ((!decide ((1:Int)≤(↑(ae ay d.af).length:Int)∧(↑(ae ay d.af).length:Int)≤8))=false) (by simp_all),yI (bp d.need ((1:Int)) (↑(ae ay d.af).length:Int))]++yM 2 (yB ((!decide ((1:Int)≤(↑(ae ay d.af).length:Int)∧(↑(ae ay d.af).length:Int)≤8))=false) (by simp_all)))<|dB 13 (!decide ((1:Int)≤d.need∧d.need≤(↑(ae ay d.af).length:Int))) (by simp;omega)<|zq<|zR<|a6<|aI (bR)
  ·have SX:¬(1≤(d.af.length:Int)∧(d.af.length:Int)≤8):=aj
   refine zO Tryz.func132 102<|zq<|zS<|zB 0<|zP 1 [yH [(2,{k:=d.box.length})]] [.aa [8,3,2,1,0] [1]] [yI (aA d.box)]<|dt 8 ((↑d.box.length:Int)>1024)<|zP 1 [yH [(2,{k:=(ae ay d.af).length}),(3,yV (ao (decide ((1:Int)≤(↑(ae ay d.af).length:Int)∧(↑(ae ay d.af).length:Int)≤8))))]] [.aa [13,8,3,2,1,0] [1]] ([yR ((ae ay d.af).length),yI (bp (↑(ae ay d.af).length:Int) ((1:Int)) ((8:Int)))]++yM 8 (yB ((!decide ((1:Int)≤(↑(ae ay d.af).length:Int)∧(↑(ae ay d.af).length:Int)≤8))=true) (by simp;omega)))<|zT 13<|zq<|zR<|a6<|aI (bR)
 unfold nP at c2
 have SX:1≤(d.af.length:Int)∧(d.af.length:Int)≤8:=aj
 have Qr:1≤d.need∧d.need≤(d.af.length:Int):=aj
 by_cases c3:d.au.length≠d.af.length
 ·have e:fF d=4:=by unfold fF;rw [if_neg c1,if_neg (by unfold nP;exact c2),if_pos c3]
  rw [e,if_neg aj]
  refine zO Tryz.func132 102<|zq<|zS<|zB 0<|zP 1 [yH [(2,{k:=d.box.length})]] [.aa [8,3,2,1,0] [1]] [yI (aA d.box)]<|dt 8 ((↑d.box.length:Int)>1024)<|zP 1 [yH ([(2,{k:=(ae ay d.af).length}),(3,yV (ao (decide ((1:Int)≤(↑(ae ay d.af).length:Int)∧(↑(ae ay d.af).length:Int)≤8)))),(10,{k:=(ae ay d.af).length,g:=false}),(11,{av:=some (ao (decide ((1:Int)≤d.need∧d.need≤(↑(ae ay d.af).length:Int)))),g:=false}),(13,{b:=false})]++yg [6,7,8,9,12])] [.aa [13,8,3,2,1,0] [1]] ([yR ((ae ay d.af).length),yI (bp (↑(ae ay d.af).length:Int) ((1:Int)) ((8:Int)))]++yM 5 (yB ((!decide ((1:Int)≤(↑(ae ay d.af).length:Int)∧(↑(ae ay d.af).length:Int)≤8))=false) (by simp_all))++ [yR ((ae ay d.af).length),yB ((!decide ((1:Int)≤(↑(ae ay d.af).length:Int)∧(↑(ae ay d.af).length:Int)≤8))=false) (by simp_all),yI (bp d.need ((1:Int)) (↑(ae ay d.af).length:Int))]++yM 2 (yB ((!decide ((1:Int)≤(↑(ae ay d.af).length:Int)∧(↑(ae ay d.af).length:Int)≤8))=false) (by simp_all)))<|bn 13 (!decide ((1:Int)≤d.need∧d.need≤(↑(ae ay d.af).length:Int))) (by simp_all)<|zP 1 [yH [(2,{k:=d.au.length}),(5,{k:=(ae ay d.af).length})]] [.aa [28,13,8,3,2,1,0] [1]] [yB ((ah d.au).length=d.au.length) (aC _),yR ((ae ay d.af).length)]<|dB 28 ((↑d.au.length:Int) != (↑(ae ay d.af).length:Int)) (by simp;omega)<|zq<|zR<|a6<|aI (bR)
 have e:fF d=ff (mF d.af) d.af.length:=by unfold fF;rw [if_neg c1,if_neg (by unfold nP;exact c2),if_neg c3]
 have VB:d.au.length=d.af.length:=aj
 have hr:=mi d.af b2 hh
 rw [←e] at hr
 by_cases c:fF d=0
 case neg =>
  rw [if_neg c]
  refine zO Tryz.func132 102<|zq<|zS<|zB 0<|zP 1 [yH [(2,{k:=d.box.length})]] [.aa [8,3,2,1,0] [1]] [yI (aA d.box)]<|dt 8 ((↑d.box.length:Int)>1024)<|zP 1 [yH ([(2,{k:=(ae ay d.af).length}),(3,yV (ao (decide ((1:Int)≤(↑(ae ay d.af).length:Int)∧(↑(ae ay d.af).length:Int)≤8)))),(10,{k:=(ae ay d.af).length,g:=false}),(11,{av:=some (ao (decide ((1:Int)≤d.need∧d.need≤(↑(ae ay d.af).length:Int)))),g:=false}),(13,{b:=false})]++yg [6,7,8,9,12])] [.aa [13,8,3,2,1,0] [1]] ([yR ((ae ay d.af).length),yI (bp (↑(ae ay d.af).length:Int) ((1:Int)) ((8:Int)))]++yM 5 (yB ((!decide ((1:Int)≤(↑(ae ay d.af).length:Int)∧(↑(ae ay d.af).length:Int)≤8))=false) (by simp_all))++ [yR ((ae ay d.af).length),yB ((!decide ((1:Int)≤(↑(ae ay d.af).length:Int)∧(↑(ae ay d.af).length:Int)≤8))=false) (by simp_all),yI (bp d.need ((1:Int)) (↑(ae ay d.af).length:Int))]++yM 2 (yB ((!decide ((1:Int)≤(↑(ae ay d.af).length:Int)∧(↑(ae ay d.af).length:Int)≤8))=false) (by simp_all)))<|bn 13 (!decide ((1:Int)≤d.need∧d.need≤(↑(ae ay d.af).length:Int))) (by simp_all)<|zP 1 [yH [(2,{k:=d.au.length}),(5,{k:=(ae ay d.af).length})]] [.aa [28,13,8,3,2,1,0] [1]] [yB ((ah d.au).length=d.au.length) (aC _),yR ((ae ay d.af).length)]<|bn 28 ((↑d.au.length:Int) != (↑(ae ay d.af).length:Int)) (by simp_all)<|zK<|aL<|aq<|zS<|zP 2 [yH [(2,yV (ai (fF d)))],yH [(1,yV (ao true))]] [.aa [40,4,28,13,8,3,2,1,0] [1]] [yI hr,yB (ao (fF d != (0:Int))=ao true) (by simp [c])]<|zT 40<|zq<|dn (bR)
 rw [if_pos c,c]
 rw [c] at hr
 clear e c2
 refine zO Tryz.func132 102<|zq<|zS<|zB 0<|zP 1 [yH [(2,{k:=d.box.length})]] [.aa [8,3,2,1,0] [1]] [yI (aA d.box)]<|dt 8 ((↑d.box.length:Int)>1024)<|zP 1 [yH ([(2,{k:=(ae ay d.af).length}),(3,yV (ao (decide ((1:Int)≤(↑(ae ay d.af).length:Int)∧(↑(ae ay d.af).length:Int)≤8)))),(10,{k:=(ae ay d.af).length,g:=false}),(11,{av:=some (ao (decide ((1:Int)≤d.need∧d.need≤(↑(ae ay d.af).length:Int)))),g:=false}),(13,{b:=false})]++yg [6,7,8,9,12])] [.aa [13,8,3,2,1,0] [1]] ([yR ((ae ay d.af).length),yI (bp (↑(ae ay d.af).length:Int) ((1:Int)) ((8:Int)))]++yM 5 (yB ((!decide ((1:Int)≤(↑(ae ay d.af).length:Int)∧(↑(ae ay d.af).length:Int)≤8))=false) (by simp_all))++ [yR ((ae ay d.af).length),yB ((!decide ((1:Int)≤(↑(ae ay d.af).length:Int)∧(↑(ae ay d.af).length:Int)≤8))=false) (by simp_all),yI (bp d.need ((1:Int)) (↑(ae ay d.af).length:Int))]++yM 2 (yB ((!decide ((1:Int)≤(↑(ae ay d.af).length:Int)∧(↑(ae ay d.af).length:Int)≤8))=false) (by simp_all)))<|bn 13 (!decide ((1:Int)≤d.need∧d.need≤(↑(ae ay d.af).length:Int))) (by simp_all)<|zP 1 [yH [(2,{k:=d.au.length}),(5,{k:=(ae ay d.af).length})]] [.aa [28,13,8,3,2,1,0] [1]] [yB ((ah d.au).length=d.au.length) (aC _),yR ((ae ay d.af).length)]<|bn 28 ((↑d.au.length:Int) != (↑(ae ay d.af).length:Int)) (by simp_all)<|zK<|aL<|aq<|zS<|zP 2 [yH [(2,yV (ai 0))],{}] [.aa [40,4,28,13,8,3,2,1,0] [1]] [yI hr]<|zF 40<|a_<|zP 1 [{hs:=[(2,yV (AV.agg (aT (aH d.bZ)))),(5,yV (AV.agg (aT (aH d.peer)))),(8,yV (AV.agg (aT (dZ d.box)))),(11,{k:=(ae ay d.af).length}),(12,yV (AV.agg [ai ((bD (u64 (↑(ae ay d.af).length:Int))).kind),aw ((bD (u64 (↑(ae ay d.af).length:Int))).num),AV.val (Value.string (ByteArray.mk (bD (u64 (↑(ae ay d.af).length:Int))).cD.toArray))]))],T:=12}] [.aa [5,40,4,28,13,8,3,2,1,0] [55,1]] [yI (gZ d.bZ),yI (gZ d.peer),yI (wu d.box b1),yR ((ae ay d.af).length),yI (tX (↑(ae ay d.af).length:Int))]<|zS<|zq<|zB 1 (zL (fun (i:Nat)=>(⟨[(40,ao ((0:Int) != (0:Int))),(4,ai 0),(28,ao ((↑d.au.length:Int) != (↑(ae ay d.af).length:Int))),(13,ao (!decide ((1:Int)≤d.need∧d.need≤(↑(ae ay d.af).length:Int)))),(8,ao (decide ((↑d.box.length:Int)>1024))),(3,ai 0),(2,AV.nil),(1,AV.addr 1 0),(0,AV.agg (bg d)),(6,ai i),(5,AV.ref 5)],[(5,⟨3,true,false,ae aT ([aH d.bZ,aH d.peer,dZ d.box,bD (u64 d.af.length)]++(d.af.take i).map cC)⟩),(1,⟨1,false,true,bg d⟩)]⟩:AS)) (fun i=>(i≤d.af.length)) (fun i=>(d.af.length-i)) (0) ?_ (eQ [.vp 55 5,.loose 5,.aa [40,4,28,13,8,3,2,1,0,6,5] [5,1]] [] [5] [yB ([ai ((aH d.bZ).kind),aw ((aH d.bZ).num),cF (aH d.bZ).cD,ai ((aH d.peer).kind),aw ((aH d.peer).num),cF (aH d.peer).cD,ai ((dZ d.box).kind),aw ((dZ d.box).num),cF (dZ d.box).cD,ai ((bD (u64 (↑(ae ay d.af).length:Int))).kind),aw ((bD (u64 (↑(ae ay d.af).length:Int))).num),AV.val (Value.string (ByteArray.mk (bD (u64 (↑(ae ay d.af).length:Int))).cD.toArray))]=ae aT ([aH d.bZ,aH d.peer,dZ d.box,bD (u64 (↑d.af.length:Int))]++List.map cC (List.take 0 d.af))) (by rw [uG];rfl)]) ?_)
 ·omega
 intro i hi
 refine zS<|zP 1 [yH [(3,{k:=(ae ay d.af).length})]] [.aa [60,40,4,28,13,8,3,2,1,0,6,5] [5,1]] [yR ((ae ay d.af).length)] (zD 60 ((↑i:Int)<(↑(ae ay d.af).length:Int)) (fun g=>?_) (fun g=>?_))
 ·have dM:i<d.af.length:=aj
  have gN:=js dM
  have hA:=hh i dM
  have s1:=uy cC [aH d.bZ,aH d.peer,dZ d.box,bD (u64 d.af.length)] d.af dM default
  refine a_<|zS<|zB 2<|zX (yH [(4,{k:=i}),(5,yV (cF (d.af.getD i default))),(6,yV (AV.agg (aT (cC (d.af.getD i default)))))]) [yR (↑i:Int),yO (i<(ae ay d.af).length),yI gN,yI (qO (d.af.getD i default)),yB (((ae aT ([aH d.bZ,aH d.peer,dZ d.box,bD (u64 (↑d.af.length:Int))]++List.map cC (List.take i d.af))).length+3)*32≤422212465065984) (by simp only [List.length_append,List.length_cons,List.length_nil,List.length_take,List.length_map,aG (f:=aT) (e:=3) (fun _=>rfl)];omega)]<|aL<|aq<|bf.NY {hs:=[(1,{av:=some (ai ((↑i:Int)+1))})]} (s':=AS.mk [(6,ai ((↑i:Int)+1)),(62,ai ((↑i:Int)+1)),(61,ai ↑i),(5,AV.ref 71),(71,AV.ref 71),(70,AV.ref 70),(69,AV.agg (aT (cC (d.af.getD i default)))),(68,cF (d.af.getD i default)),(67,AV.ptr (ae ay d.af) i),(66,ai ↑i),(65,AV.sl 1 (ae ay d.af)),(64,AV.addr 1 3),(63,AV.dead),(60,ao (decide ((↑i:Int)<(↑(ae ay d.af).length:Int)))),(40,ao ((0:Int) != (0:Int))),(4,ai 0),(28,ao ((↑d.au.length:Int) != (↑(ae ay d.af).length:Int))),(13,ao (!decide ((1:Int)≤d.need∧d.need≤(↑(ae ay d.af).length:Int)))),(8,ao (decide ((↑d.box.length:Int)>1024))),(3,ai 0),(2,AV.nil),(1,AV.addr 1 0),(0,AV.agg (bg d))] [(71,Row.mk 3 true false (ae aT ([aH d.bZ,aH d.peer,dZ d.box,bD (u64 (↑d.af.length:Int))]++List.map cC (List.take i d.af))++(aT (cC (d.af.getD i default))))),(70,Row.mk 3 true true (aT (cC (d.af.getD i default)))),(1,Row.mk 1 false true (List.map (aE 71) (cP 5 (Row.mk 1 false true (List.map (aE 70) (bg d)))).cells))]) (C:=[ai (IntKind.i64.wrap ((↑i:Int)+1))=ai ((↑i:Int)+1)]) bk ⟨(dK aj aj),trivial⟩ (aK (i+1) (by assumption) aj (eQ [.vp 71 5,.aa [40,4,28,13,8,3,2,1,0,6,5] [5,1]] [] [5] [yB (ae aT ([aH d.bZ,aH d.peer,dZ d.box,bD (u64 (↑d.af.length:Int))]++List.map cC (List.take i d.af))++(aT (cC (d.af.getD i default)))=ae aT ([aH d.bZ,aH d.peer,dZ d.box,bD (u64 (↑d.af.length:Int))]++List.map cC (List.take (i+1) d.af))) (by assumption)]))
 ·have ei:i=d.af.length:=aj
  subst ei
  rw [show d.af.take d.af.length=d.af from List.take_length]
  have oO:ve d=([aH d.bZ,aH d.peer,dZ d.box,bD (u64 d.af.length)]++d.af.map cC++ [bD (u64 d.au.length)])++d.au.map aH++ [aH (u64 d.need)]:=by unfold ve;simp
  rw [oO]
  have V7:([aH d.bZ,aH d.peer,dZ d.box,bD (u64 d.af.length)]++d.af.map cC).length≤12:=by rw [List.length_append,List.length_map];show 4+_≤12;omega
  generalize [aH d.bZ,aH d.peer,dZ d.box,bD (u64 d.af.length)]++d.af.map cC=A at *
  have Vl:(ae aT A).length≤36:=by rw [aG (e:=3) (fun _=>rfl)];omega
  refine zE 1<|ba<|aS<|br<|aq<|zP 1 [yH [(3,{k:=d.au.length}),(4,yV (AV.agg (aT (bD (u64 (↑d.au.length:Int))))))]] [.aa [5,60,40,4,28,13,8,3,2,1,0,6] [78,1]] [yB ((ah d.au).length=d.au.length) (aC _),yI (tX ((↑d.au.length:Int))),yO (((ae aT A).length+3)*32≤422212465065984)]<|zS<|zq<|zB 3 (zL (fun (j:Nat)=>(⟨[(60,ao (decide ((↑d.af.length:Int)<(↑(ae ay d.af).length:Int)))),(40,ao ((0:Int) != (0:Int))),(4,ai 0),(28,ao ((↑d.au.length:Int) != (↑(ae ay d.af).length:Int))),(13,ao (!decide ((1:Int)≤d.need∧d.need≤(↑(ae ay d.af).length:Int)))),(8,ao (decide ((↑d.box.length:Int)>1024))),(3,ai 0),(2,AV.nil),(1,AV.addr 1 0),(0,AV.agg (bg d)),(6,ai (↑d.af.length:Int)),(7,ai j),(5,AV.ref 5)],[(5,⟨3,true,false,ae aT (A++ [bD (u64 d.au.length)]++(d.au.take j).map aH)⟩),(1,⟨1,false,true,bg d⟩)]⟩:AS)) (fun j=>(j≤d.au.length)) (fun j=>(d.au.length-j)) (0) ?_ (eQ [.vp 78 5,.aa [60,40,4,28,13,8,3,2,1,0,6,7,5] [5,1]] [] [5] [yB (ae aT A++(aT (bD (u64 (↑d.au.length:Int))))=ae aT (A++ [bD (u64 (↑d.au.length:Int))]++List.map aH (List.take 0 d.au))) (by rw [List.take_zero];exact (fE A [bD (u64 d.au.length)]).trans (by simp))]) ?_)
  ·omega
  intro j hj
  refine zS<|zP 1 [yH [(3,{k:=d.au.length})]] [.aa [83,60,40,4,28,13,8,3,2,1,0,6,7,5] [5,1]] [yB ((ah d.au).length=d.au.length) (aC _)] (zD 83 ((↑j:Int)<(↑d.au.length:Int)) (fun g2=>?_) (fun g2=>?_))
  ·have Bw:j<d.au.length:=aj
   have gN:=eE (l:=d.au) Bw
   have s2:=uy aH (A++ [bD (u64 d.au.length)]) d.au Bw 0
   refine a_<|zS<|zB 4<|zX (yH [(4,{k:=j}),(5,yV (aw (d.au.getD j 0))),(6,yV (AV.agg (aT (aH (d.au.getD j 0)))))]) [yR (↑j:Int),yB (j<(ah d.au).length) (by simp only [aC];omega),yI gN,yI (gZ (d.au.getD j 0)),yB (((ae aT (A++ [bD (u64 (↑d.au.length:Int))]++List.map aH (List.take j d.au))).length+3)*32≤422212465065984) (by simp only [List.length_append,List.length_cons,List.length_nil,List.length_take,List.length_map,aG (f:=aT) (e:=3) (fun _=>rfl)];omega)]<|aL<|aq<|zX (yH [(1,yV (ai ((↑j:Int)+1)))]) [yN ((↑j:Int)+1)] (aK (j+1) (by assumption) aj (eQ [.vp 94 5,.aa [60,40,4,28,13,8,3,2,1,0,6,7,5] [5,1]] [] [5] [yB (ae aT (A++ [bD (u64 (↑d.au.length:Int))]++List.map aH (List.take j d.au))++(aT (aH (d.au.getD j 0)))=ae aT (A++ [bD (u64 (↑d.au.length:Int))]++List.map aH (List.take (j+1) d.au))) (by assumption)]))
  ·have ej:j=d.au.length:=aj
   subst ej
   rw [show d.au.take d.au.length=d.au from List.take_length]
   refine zE 3<|ba<|aS<|br<|aq<|zP 1 [yH [(3,yV (aw (u64 d.need))),(4,yV (AV.agg (aT (aH (u64 d.need)))))]] [.aa [3,2,83,60,40,4,28,13,8,1,0,6,7] [101,1]] [yI (aY d.need),yI (gZ (u64 d.need)),yB (((ae aT (A++ [bD (u64 (↑d.au.length:Int))]++List.map aH d.au)).length+3)*32≤422212465065984) (by simp only [List.length_append,List.length_cons,List.length_nil,List.length_map,aG (f:=aT) (e:=3) (fun _=>rfl)];omega)]<|zR (zV [yB (ae aT (A++ [bD (u64 (↑d.au.length:Int))]++List.map aH d.au)++(aT (aH (u64 d.need)))=ae aT (A++ [bD (u64 (↑d.au.length:Int))]++List.map aH d.au++ [aH (u64 d.need)])) (fE _ [aH (u64 d.need)]),yR (Value.int .i64 0)])
theorem xp (x:fH) (hk:eO x.kind) (hd:x.cD.length≤100000) (h:x.kind=3∨x.kind=4∨x.cD= []):bL Tryz.prog 84 [.agg (aT x)] (cF (i6 x)):=by
 rw [Lc x h]
 have hl:=l3 (u8 (x.kind-1)) (mX x)
 have hh:=z7 x hk hd
 generalize bX (u8 (x.kind-1)) (mX x)=H at *
 have hs:(⟨H.toArray⟩:ByteArray).size+(⟨x.cD.toArray⟩:ByteArray).size≤9223372036854775807:=by
  show H.toArray.size+x.cD.toArray.size≤_
  rw [List.size_toArray,List.size_toArray]
  omega
 refine zO Tryz.func84 9<|zP 2 [{},{hs:=[(1,yV (AV.own 1 (ag H))),(2,yV (cF H))],T:=5}] [.aa [2,1,0] [1]] [yI hh,yI (aR H),yR (ag H),yI hs]<|zR (bR)
end Go.Proofs.YtjgbhhnghedgdaaGreatDoor
