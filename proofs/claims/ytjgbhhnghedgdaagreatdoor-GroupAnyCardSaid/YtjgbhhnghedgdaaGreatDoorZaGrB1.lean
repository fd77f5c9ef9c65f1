import Derived.Test.YtjgbhhnghedgdaaGreatDoorZaTk3
set_option linter.all false
namespace Go.Proofs.YtjgbhhnghedgdaaGreatDoor
open Go.RowKit
set_option maxRecDepth 100000
set_option maxHeartbeats 4000000
def gj (e:eF):eF :=
 if e.kind=1 then {e with name:=[],kh:=0,kr:=0} else if e.kind=2 then {e with name:=[]} else if e.kind=3 then {e with bt:=0} else
 if e.kind=4 then {e with dep:=⟨0,0,[],[],[],0,e.dep.target⟩} else {e with bR:=0,target:=0}
structure Mj (f:eF) (R:Bool):Prop where
 bad:(f.dep.bR≠0∨f.dep.peer≠0∨f.dep.box.length≠0∨f.dep.aa.length≠0∨f.dep.au.length≠0∨f.dep.need≠0∨f.dep.target≠0∨f.name≠ []∨ ¬(f.kh=0∧f.kr=0)∨f.bt≠0∨f.bR≠0∨f.target≠0)->R=true
 mG:f.dep.bR=0->f.dep.peer=0->f.dep.box.length=0->f.dep.aa.length=0->f.dep.au.length=0->f.dep.need=0->f.dep.target=0->f.name= []->f.kh=0∧f.kr=0->f.bt=0->f.bR=0->f.target=0->R=false
theorem Ka {x:UInt64} (h:wv x=0):x=0:=by
 have h:((x.toNat:Nat):Int)=0:=h
 exact UInt64.toNat_inj.1 (by rw [show x.toNat=0 by omega];rfl)
theorem zx {h:Int} {r:UInt64} (g:¬(!(h == 0 && (wv r == 0 && true)))=true):h=0∧r=0:=by
 simp at g
 exact ⟨g.1,Ka g.2⟩
theorem E7 {h:Int} {r:UInt64} (g:(!(h == 0 && (wv r == 0 && true)))=true):¬(h=0∧r=0):=by
 rintro ⟨rfl,rfl⟩
 exact absurd g (by decide)
theorem E9 (e:eF) (h1:1≤e.kind) (h5:e.kind≤5):Mj (gj e) (decide (¬fe e)):=by
 have key:((gj e).dep.bR=0∧(gj e).dep.peer=0∧(gj e).dep.box.length=0∧(gj e).dep.aa.length=0∧(gj e).dep.au.length=0∧(gj e).dep.need=0∧(gj e).dep.target=0∧(gj e).name= []∧((gj e).kh=0∧(gj e).kr=0)∧(gj e).bt=0∧(gj e).bR=0∧(gj e).target=0)↔fe e:=by
  unfold gj fe vc
  by_cases k1:e.kind=1
  ·rw [if_pos k1];simp [k1];grind
  rw [if_neg k1]
  by_cases k2:e.kind=2
  ·rw [if_pos k2];simp [k2];grind
  rw [if_neg k2]
  by_cases k3:e.kind=3
  ·rw [if_pos k3];simp [k3];grind
  rw [if_neg k3]
  by_cases k4:e.kind=4
  ·rw [if_pos k4];simp [k4];grind
  rw [if_neg k4]
  have k5:e.kind=5:=ah
  simp [k5];grind
 refine ⟨fun h=>?_,fun a b c d e f g h i j k l=>?_⟩
 ·rw [decide_eq_true_iff]
  intro q
  obtain ⟨a,b,c,d,m,f,g,o,i,j,k,l⟩:=key.2 q
  clear key
  generalize gj e=z at *
  rcases h with q|q|q|q|q|q|q|q|q|q|q|q<;>contradiction
 ·rw [decide_eq_false_iff_not]
  exact fun q=>q (key.1 ⟨a,b,c,d,e,f,g,h,i,j,k,l⟩)
def Qg:List (Nat×Nat):=[(9,1),(10,1),(11,1)]
theorem jF (e:eF) (h1:1≤e.kind) (h5:e.kind≤5):bK Tryz.prog 73 [.agg (aT e)] (ao (decide (¬fe e))):=by
 refine zO Tryz.func73 94<|zq (bf.oN (fun (f:eF)=>(⟨[(2,ao false),(1,AV.addr 1 0),(0,AV.agg (aT e))],[(1,⟨1,false,true,aT f⟩)]⟩:AS)) (fun f=>(f=gj e)) bh ?_ ?_)
 ·by_cases k1:e.kind=1
  ·have hf:gj e= {e with name:=[],kh:=0,kr:=0}:=if_pos k1
   refine zq<|zB 0<|zP 1 [{}] [.ae [7,6,2,1,0] [1]] []<|du 7 (e.kind == (1:Int)) fb<|zQ 1 [{}] [yL 4 17]<|zX {} [yL 6 17]<|aM<|ak (⟨(gj e),rfl,(eK [.ae [2,1,0] [1]] [] [1] [yB (List.take 4 ((List.map (aD 1) (aT e)).set 3 (AV.val (Value.string (ByteArray.mk #[]))))++ [ai 0,cO]++List.drop 6 ((List.map (aD 1) (aT e)).set 3 (AV.val (Value.string (ByteArray.mk #[]))))=aT (gj e)) (by rw [hf];rfl)])⟩)
  by_cases k2:e.kind=2
  ·have hf:gj e= {e with name:=[]}:=by unfold gj;rw [if_neg k1,if_pos k2]
   refine zq<|zB 0<|zP 1 [{}] [.ae [7,6,2,1,0] [1]] []<|bj 7 (e.kind == (1:Int)) bE<|zq<|du 12 (e.kind == (2:Int)) fb<|zX {} [yL 4 17]<|aM<|ak (⟨(gj e),rfl,(eK [.ae [2,1,0] [1]] [] [1] [yB ((List.map (aD 1) (aT e)).set 3 (AV.val (Value.string (ByteArray.mk #[])))=aT (gj e)) (by rw [hf];rfl)])⟩)
  by_cases k3:e.kind=3
  ·have hf:gj e= {e with bt:=0}:=by unfold gj;rw [if_neg k1,if_neg k2,if_pos k3]
   refine zq<|zB 0<|zP 1 [{}] [.ae [7,6,2,1,0] [1]] []<|bj 7 (e.kind == (1:Int)) bE<|zq<|bj 12 (e.kind == (2:Int)) bE<|zP 1 [{}] [.ae [15,12,7,6,2,1,0] [1]] []<|du 15 (e.kind == (3:Int)) fb<|zX {} [yL 7 17]<|aM<|ak (⟨(gj e),rfl,(eK [.ae [2,1,0] [1]] [] [1] [yB ((List.map (aD 1) (aT e)).set 6 (ai 0)=aT (gj e)) (by rw [hf];rfl)])⟩)
  by_cases k4:e.kind=4
  ·have hf:gj e= {e with dep:=⟨0,0,[],[],[],0,e.dep.target⟩}:=by unfold gj;rw [if_neg k1,if_neg k2,if_neg k3,if_pos k4]
   refine zq<|zB 0<|zP 1 [{}] [.ae [7,6,2,1,0] [1]] []<|bj 7 (e.kind == (1:Int)) bE<|zq<|bj 12 (e.kind == (2:Int)) bE<|zP 1 [{}] [.ae [15,12,7,6,2,1,0] [1]] []<|bj 15 (e.kind == (3:Int)) bE<|zq<|du 18 (e.kind == (4:Int)) fb<|zX {} [yL 14 17]<|aM<|ak<|MT (bS.MR 1 Qg bh) (⟨(gj e),rfl,(eK [.ae [2,1,0] [1]] [] [1] [yB (JW Qg (B0 (AS.mk [(24,AV.addr 1 7),(23,AV.agg [cO,cO,AV.nil,AV.nil,AV.nil,ai 0,aw e.dep.target]),(22,aw e.dep.target),(21,AV.addr 1 13),(20,AV.addr 1 7),(18,ao (e.kind == (4:Int))),(19,ao (e.kind == (4:Int))),(15,ao (e.kind == (3:Int))),(12,ao (e.kind == (2:Int))),(7,ao (e.kind == (1:Int))),(6,ai e.kind),(2,ao false),(1,AV.addr 1 0),(0,AV.agg (aT e))] [(1,Row.mk 1 false true (List.take 7 (List.map (aD 1) (aT e))++ [cO,cO,AV.nil,AV.nil,AV.nil,ai 0,aw e.dep.target]++List.drop 14 (List.map (aD 1) (aT e))))]) 1).cells 0=aT (gj e)) (by rw [hf];rfl)])⟩)
  have hf:gj e= {e with bR:=0,target:=0}:=by unfold gj;rw [if_neg k1,if_neg k2,if_neg k3,if_neg k4]
  refine zq<|zB 0<|zP 1 [{}] [.ae [7,6,2,1,0] [1]] []<|bj 7 (e.kind == (1:Int)) bE<|zq<|bj 12 (e.kind == (2:Int)) bE<|zP 1 [{}] [.ae [15,12,7,6,2,1,0] [1]] []<|bj 15 (e.kind == (3:Int)) bE<|zq<|bj 18 (e.kind == (4:Int)) bE<|zP 1 [{}] [.ae [25,18,15,12,7,6,2,1,0] [1]] []<|du 25 (e.kind == (5:Int)) fb<|zQ 1 [{}] [yL 15 17]<|zX {} [yL 16 17]<|aM<|ak (⟨(gj e),rfl,(eK [.ae [2,1,0] [1]] [] [1] [yB (((List.map (aD 1) (aT e)).set 14 (cO)).set 15 (cO)=aT (gj e)) (by rw [hf];rfl)])⟩)
 intro f hf
 have hb:Mj f (decide (¬fe e)):=by rw [hf];exact E9 e h1 h5
 have PS:(af ay f.dep.aa).length=f.dep.aa.length:=by rw [aF (e:=1) (fun _=>rfl)];omega
 generalize decide (¬fe e)=R at *
 clear hf h1 h5
 refine zP 1 [{}] [.ae [3,2,1,0] [3,1]] [yL 7 7] ((Classical.em (f.dep.bR=0)).symm.elim (fun g1=>?_) (fun g1=>?_))
 ·skip
  refine zP 2 [yH [(2,yV (ao (f.dep.bR != 0)))],{}] [.ae [2,4,3,1,0] [3,1]] ([yI (cJ f.dep.bR 0)]++yM 4 (yS ((f.dep.bR != 0)=true))++yM 44 (yR true))<|zR (zV [yB (Value.bool true=Value.bool R) (by rw [hb.bad (.inl g1)])])
 refine (Classical.em (f.dep.peer=0)).symm.elim (fun g2=>?_) (fun g2=>?_)
 ·skip
  refine zP 2 [yH ([(2,yV (ao (f.dep.bR != 0))),(6,{av:=some (ao (f.dep.peer != 0)),g:=false}),(7,{b:=false})]++yg [4,5]),{}] [.ae [2,4,3,1,0] [3,1]] ([yI (cJ f.dep.bR 0)]++yM 3 (yS ((f.dep.bR != 0)=false))++ [yI (cJ f.dep.peer 0),yS ((f.dep.bR != 0)=false)]++yM 5 (yS ((f.dep.peer != 0)=true))++yM 39 (yR true))<|zR (zV [yB (Value.bool true=Value.bool R) (by rw [hb.bad (.inr (.inl g2))])])
 refine (Classical.em ((↑f.dep.box.length:Int)=0)).symm.elim (fun g3=>?_) (fun g3=>?_)
 ·skip
  refine zP 2 [yH ([(2,yV (ao (f.dep.bR != 0))),(6,{av:=some (ao (f.dep.peer != 0)),g:=false}),(7,{b:=false}),(11,{k:=f.dep.box.length,g:=false}),(13,{b:=false})]++yg [4,5,9,10,12]),{}] [.ae [2,4,3,1,0] [3,1]] ([yI (cJ f.dep.bR 0)]++yM 3 (yS ((f.dep.bR != 0)=false))++ [yI (cJ f.dep.peer 0),yS ((f.dep.bR != 0)=false)]++yM 3 (yS ((f.dep.peer != 0)=false))++ [yI (aC f.dep.box)]++yM 2 (yS ((f.dep.peer != 0)=false))++yM 5 (yS (((↑f.dep.box.length:Int) != (0:Int))=true))++yM 34 (yR true))<|zR (zV [yB (Value.bool true=Value.bool R) (by rw [hb.bad (.inr (.inr (.inl ah)))])])
 refine (Classical.em ((↑(af ay f.dep.aa).length:Int)=0)).symm.elim (fun g4=>?_) (fun g4=>?_)
 ·skip
  refine zP 2 [yH ([(2,yV (ao (f.dep.bR != 0))),(6,{av:=some (ao (f.dep.peer != 0)),g:=false}),(7,{b:=false}),(11,{k:=f.dep.box.length,g:=false}),(13,{b:=false}),(17,{k:=(af ay f.dep.aa).length,g:=false}),(19,{b:=false})]++yg [4,5,9,10,12,15,16,18]),{}] [.ae [2,4,3,1,0] [3,1]] ([yI (cJ f.dep.bR 0)]++yM 3 (yS ((f.dep.bR != 0)=false))++ [yI (cJ f.dep.peer 0),yS ((f.dep.bR != 0)=false)]++yM 3 (yS ((f.dep.peer != 0)=false))++ [yI (aC f.dep.box)]++yM 2 (yS ((f.dep.peer != 0)=false))++yM 3 (yS (((↑f.dep.box.length:Int) != (0:Int))=false))++ [yR ((af ay f.dep.aa).length)]++yM 2 (yS (((↑f.dep.box.length:Int) != (0:Int))=false))++yM 5 (yS (((↑(af ay f.dep.aa).length:Int) != (0:Int))=true))++yM 29 (yR true))<|zR (zV [yB (Value.bool true=Value.bool R) (by rw [hb.bad (.inr (.inr (.inr (.inl ah))))])])
 refine (Classical.em ((↑f.dep.au.length:Int)=0)).symm.elim (fun g5=>?_) (fun g5=>?_)
 ·skip
  refine zP 2 [yH ([(2,yV (ao (f.dep.bR != 0))),(6,{av:=some (ao (f.dep.peer != 0)),g:=false}),(7,{b:=false}),(11,{k:=f.dep.box.length,g:=false}),(13,{b:=false}),(17,{k:=(af ay f.dep.aa).length,g:=false}),(19,{b:=false}),(23,{k:=f.dep.au.length,g:=false}),(25,{b:=false})]++yg [4,5,9,10,12,15,16,18,21,22,24]),{}] [.ae [2,4,3,1,0] [3,1]] ([yI (cJ f.dep.bR 0)]++yM 3 (yS ((f.dep.bR != 0)=false))++ [yI (cJ f.dep.peer 0),yS ((f.dep.bR != 0)=false)]++yM 3 (yS ((f.dep.peer != 0)=false))++ [yI (aC f.dep.box)]++yM 2 (yS ((f.dep.peer != 0)=false))++yM 3 (yS (((↑f.dep.box.length:Int) != (0:Int))=false))++ [yR ((af ay f.dep.aa).length)]++yM 2 (yS (((↑f.dep.box.length:Int) != (0:Int))=false))++yM 3 (yS (((↑(af ay f.dep.aa).length:Int) != (0:Int))=false))++ [yI (aA f.dep.au)]++yM 2 (yS (((↑(af ay f.dep.aa).length:Int) != (0:Int))=false))++yM 4 (yS (((↑f.dep.au.length:Int) != (0:Int))=true))++yM 25 (yR true))<|zR (zV [yB (Value.bool true=Value.bool R) (by rw [hb.bad (.inr (.inr (.inr (.inr (.inl ah)))))])])
 refine (Classical.em (f.dep.need=0)).symm.elim (fun g6=>?_) (fun g6=>?_)
 ·skip
  refine zP 2 [yH ([(2,yV (ao (f.dep.bR != 0))),(6,{av:=some (ao (f.dep.peer != 0)),g:=false}),(7,{b:=false}),(11,{k:=f.dep.box.length,g:=false}),(13,{b:=false}),(17,{k:=(af ay f.dep.aa).length,g:=false}),(19,{b:=false}),(23,{k:=f.dep.au.length,g:=false}),(25,{b:=false}),(30,{b:=false})]++yg [4,5,9,10,12,15,16,18,21,22,24,27,28,29]),{}] [.ae [2,4,3,1,0] [3,1]] ([yI (cJ f.dep.bR 0)]++yM 3 (yS ((f.dep.bR != 0)=false))++ [yI (cJ f.dep.peer 0),yS ((f.dep.bR != 0)=false)]++yM 3 (yS ((f.dep.peer != 0)=false))++ [yI (aC f.dep.box)]++yM 2 (yS ((f.dep.peer != 0)=false))++yM 3 (yS (((↑f.dep.box.length:Int) != (0:Int))=false))++ [yR ((af ay f.dep.aa).length)]++yM 2 (yS (((↑f.dep.box.length:Int) != (0:Int))=false))++yM 3 (yS (((↑(af ay f.dep.aa).length:Int) != (0:Int))=false))++ [yI (aA f.dep.au)]++yM 2 (yS (((↑(af ay f.dep.aa).length:Int) != (0:Int))=false))++yM 4 (yS (((↑f.dep.au.length:Int) != (0:Int))=false))++yM 4 (yS ((f.dep.need != (0:Int))=true))++yM 21 (yR true))<|zR (zV [yB (Value.bool true=Value.bool R) (by rw [hb.bad (.inr (.inr (.inr (.inr (.inr (.inl g6))))))])])
 refine zP 1 [yH ([(2,yV (ao (f.dep.bR != 0))),(6,{av:=some (ao (f.dep.peer != 0)),g:=false}),(7,{b:=false}),(11,{k:=f.dep.box.length,g:=false}),(13,{b:=false}),(17,{k:=(af ay f.dep.aa).length,g:=false}),(19,{b:=false}),(23,{k:=f.dep.au.length,g:=false}),(25,{b:=false}),(30,{b:=false}),(34,{av:=some (ao (f.dep.target != 0)),g:=false}),(35,{b:=false})]++yg [4,5,9,10,12,15,16,18,21,22,24,27,28,29,32,33])] [.ae [4,3,2,1,0] [3,1]] ([yI (cJ f.dep.bR 0)]++yM 3 (yS ((f.dep.bR != 0)=false))++ [yI (cJ f.dep.peer 0),yS ((f.dep.bR != 0)=false)]++yM 3 (yS ((f.dep.peer != 0)=false))++ [yI (aC f.dep.box)]++yM 2 (yS ((f.dep.peer != 0)=false))++yM 3 (yS (((↑f.dep.box.length:Int) != (0:Int))=false))++ [yR ((af ay f.dep.aa).length)]++yM 2 (yS (((↑f.dep.box.length:Int) != (0:Int))=false))++yM 3 (yS (((↑(af ay f.dep.aa).length:Int) != (0:Int))=false))++ [yI (aA f.dep.au)]++yM 2 (yS (((↑(af ay f.dep.aa).length:Int) != (0:Int))=false))++yM 4 (yS (((↑f.dep.au.length:Int) != (0:Int))=false))++yM 3 (yS ((f.dep.need != (0:Int))=false))++ [yI (cJ f.dep.target 0),yS ((f.dep.need != (0:Int))=false)]) ((Classical.em (f.dep.target=0)).symm.elim (fun g7=>?_) (fun g7=>?_))
 ·skip
  refine zP 1 [{}] [.ae [2,4,3,1,0] [3,1]] (yM 4 (yS ((f.dep.target != 0)=true))++yM 17 (yR true))<|zR (zV [yB (Value.bool true=Value.bool R) (by rw [hb.bad (.inr (.inr (.inr (.inr (.inr (.inr (.inl g7)))))))])])
 refine (Classical.em (f.name= [])).symm.elim (fun g8=>?_) (fun g8=>?_)
 ·skip
  refine zP 1 [yH ([(4,{av:=some (ao (f.name != [])),g:=false}),(5,{b:=false})]++yg [2,3])] [.ae [2,4,3,1,0] [3,1]] (yM 3 (yS ((f.dep.target != 0)=false))++ [yI (MB f.name []),yS ((f.dep.target != 0)=false)]++yM 5 (yS ((f.name != [])=true))++yM 12 (yR true))<|zR (zV [yB (Value.bool true=Value.bool R) (by rw [hb.bad (.inr (.inr (.inr (.inr (.inr (.inr (.inr (.inl g8))))))))])])
 refine (Classical.em ((!(f.kh == (0:Int) && (wv f.kr == (0:Int) && true)))=true)).elim (fun g9=>?_) (fun g9=>?_)
 ·have SF:¬(f.kh=0∧f.kr=0):=E7 g9
  refine zP 1 [yH ([(4,{av:=some (ao (f.name != [])),g:=false}),(5,{b:=false}),(11,{b:=false})]++yg [2,3,7,8,9,10])] [.ae [2,4,3,1,0] [3,1]] (yM 3 (yS ((f.dep.target != 0)=false))++ [yS (ao (!(ByteArray.mk f.name.toArray).toList == (ByteArray.mk #[]).toList)=ao (f.name != [])),yS ((f.dep.target != 0)=false)]++yM 5 (yS ((f.name != [])=false))++yM 4 (yI g9)++yM 8 (yR true))<|zR (zV [yB (Value.bool true=Value.bool R) (by rw [hb.bad (.inr (.inr (.inr (.inr (.inr (.inr (.inr (.inr (.inl SF)))))))))])])
 refine (Classical.em (f.bt=0)).symm.elim (fun g10=>?_) (fun g10=>?_)
 ·skip
  refine zP 1 [yH ([(4,{av:=some (ao (f.name != [])),g:=false}),(5,{b:=false}),(11,{b:=false}),(16,{b:=false})]++yg [2,3,7,8,9,10,13,14,15])] [.ae [2,4,3,1,0] [3,1]] (yM 3 (yS ((f.dep.target != 0)=false))++ [yS (ao (!(ByteArray.mk f.name.toArray).toList == (ByteArray.mk #[]).toList)=ao (f.name != [])),yS ((f.dep.target != 0)=false)]++yM 5 (yS ((f.name != [])=false))++yM 4 (yS ((!(f.kh == (0:Int) && (wv f.kr == (0:Int) && true)))=false))++yM 4 (yS ((f.bt != (0:Int))=true))++yM 4 (yR true))<|zR (zV [yB (Value.bool true=Value.bool R) (by rw [hb.bad (.inr (.inr (.inr (.inr (.inr (.inr (.inr (.inr (.inr (.inl g10))))))))))])])
 refine (Classical.em (f.bR=0)).symm.elim (fun g11=>?_) (fun g11=>?_)
 ·skip
  refine zP 1 [yH ([(4,{av:=some (ao (f.name != [])),g:=false}),(5,{b:=false}),(11,{b:=false}),(16,{b:=false}),(20,{av:=some (ao (f.bR != 0)),g:=false}),(21,{b:=false})]++yg [2,3,7,8,9,10,13,14,15,18,19])] [.ae [2,4,3,1,0] [3,1]] (yM 3 (yS ((f.dep.target != 0)=false))++ [yS (ao (!(ByteArray.mk f.name.toArray).toList == (ByteArray.mk #[]).toList)=ao (f.name != [])),yS ((f.dep.target != 0)=false)]++yM 5 (yS ((f.name != [])=false))++yM 4 (yS ((!(f.kh == (0:Int) && (wv f.kr == (0:Int) && true)))=false))++yM 3 (yS ((f.bt != (0:Int))=false))++ [yI (cJ f.bR 0),yS ((f.bt != (0:Int))=false)]++yM 4 (yS ((f.bR != 0)=true)))<|zR (zV [yB (Value.bool true=Value.bool R) (by rw [hb.bad (.inr (.inr (.inr (.inr (.inr (.inr (.inr (.inr (.inr (.inr (.inl g11)))))))))))])])
 have SF:f.kh=0∧f.kr=0:=zx g9
 by_cases g12:f.target=0
 ·skip
  refine zP 1 [yH ([(4,{av:=some (ao (f.name != [])),g:=false}),(5,{b:=false}),(11,{b:=false}),(16,{b:=false}),(20,{av:=some (ao (f.bR != 0)),g:=false}),(21,{b:=false}),(25,{av:=some (ao (f.target != 0)),g:=false}),(26,{b:=false})]++yg [2,3,7,8,9,10,13,14,15,18,19,23,24])] [.ae [2,4,3,1,0] [3,1]] (yM 3 (yS ((f.dep.target != 0)=false))++ [yS (ao (!(ByteArray.mk f.name.toArray).toList == (ByteArray.mk #[]).toList)=ao (f.name != [])),yS ((f.dep.target != 0)=false)]++yM 5 (yS ((f.name != [])=false))++yM 4 (yS ((!(f.kh == (0:Int) && (wv f.kr == (0:Int) && true)))=false))++yM 3 (yS ((f.bt != (0:Int))=false))++ [yS (ao (wv f.bR != (0:Int))=ao (f.bR != 0)),yS ((f.bt != (0:Int))=false)]++yM 3 (yS ((f.bR != 0)=false))++ [yS (ao (wv f.target != (0:Int))=ao (f.target != 0)),yS ((f.bR != 0)=false)])<|zR (zV [yB (Value.bool (f.target != 0)=Value.bool R) (by rw [hb.mG g1 g2 ah ah ah g6 g7 g8 SF g10 g11 g12];simp [g12])])
 ·skip
  refine zP 1 [yH ([(4,{av:=some (ao (f.name != [])),g:=false}),(5,{b:=false}),(11,{b:=false}),(16,{b:=false}),(20,{av:=some (ao (f.bR != 0)),g:=false}),(21,{b:=false}),(25,{av:=some (ao (f.target != 0)),g:=false}),(26,{b:=false})]++yg [2,3,7,8,9,10,13,14,15,18,19,23,24])] [.ae [2,4,3,1,0] [3,1]] (yM 3 (yS ((f.dep.target != 0)=false))++ [yS (ao (!(ByteArray.mk f.name.toArray).toList == (ByteArray.mk #[]).toList)=ao (f.name != [])),yS ((f.dep.target != 0)=false)]++yM 5 (yS ((f.name != [])=false))++yM 4 (yS ((!(f.kh == (0:Int) && (wv f.kr == (0:Int) && true)))=false))++yM 3 (yS ((f.bt != (0:Int))=false))++ [yS (ao (wv f.bR != (0:Int))=ao (f.bR != 0)),yS ((f.bt != (0:Int))=false)]++yM 3 (yS ((f.bR != 0)=false))++ [yI (cJ f.target 0),yS ((f.bR != 0)=false)])<|zR (zV [yB (Value.bool (f.target != 0)=Value.bool R) (by rw [hb.bad (.inr (.inr (.inr (.inr (.inr (.inr (.inr (.inr (.inr (.inr (.inr g12)))))))))))];simp [g12])])
structure y8 (d:m0):Prop where
 box:d.box.length≤1000000
 zb:d.aa.length≤1000000
 NL:d.au.length≤1000000
 Pa:∀i,i<d.aa.length->(d.aa.getD i default).length≤1000
theorem vh (d:m0) (hB:y8 d):bK Tryz.prog 161 [.agg (bc d)] (ai (fC d)):=by
 have s6:(af ay d.aa).length=d.aa.length:=by rw [aF (e:=1) (fun _=>rfl)];omega
 obtain ⟨b1,b2,b3,hh⟩:=hB
 by_cases c1:1024<d.box.length
 ·have e:fC d=8:=if_pos c1
  refine zO Tryz.func161 62<|zq<|zS<|zP 1 [yH [(2,{k:=d.box.length})]] [.ae [10,2,1,0] [1]] [yI (aC d.box)]<|gT 10 ((↑d.box.length:Int)>1024)<|zq<|dk (zV [yJ 8 (fC d) (by rw [e])])
 by_cases c2:nO d.aa.length d.need
 ·have e:fC d=9:=by unfold fC;rw [if_neg c1,if_pos c2]
  unfold nO at c2
  by_cases k1:d.aa.length<1
  ·refine zO Tryz.func161 62<|zq<|zS<|zP 1 [yH [(2,{k:=d.box.length})]] [.ae [10,2,1,0] [1]] [yI (aC d.box)]<|dp 10 ((↑d.box.length:Int)>1024)<|a_<|zP 1 [yH [(2,{k:=(af ay d.aa).length})]] [.ae [3,10,2,1,0] [1]] [yR ((af ay d.aa).length)]<|zS<|zP 1 [{}] [.ae [30,3,10,2,1,0] [1]] (yM 3 (yT ((↑(af ay d.aa).length:Int)<1))++yM 9 (yR true))<|zT 30<|zq<|dk (zV [yJ 9 (fC d) (by rw [e])])
  by_cases k2:8<d.aa.length
  ·refine zO Tryz.func161 62<|zq<|zS<|zP 1 [yH [(2,{k:=d.box.length})]] [.ae [10,2,1,0] [1]] [yI (aC d.box)]<|dp 10 ((↑d.box.length:Int)>1024)<|a_<|zP 1 [yH [(2,{k:=(af ay d.aa).length})]] [.ae [3,10,2,1,0] [1]] [yR ((af ay d.aa).length)]<|zS<|zP 1 [yH ([(5,{b:=false})]++yg [3,4])] [.ae [30,3,10,2,1,0] [1]] (yM 3 (yF ((↑(af ay d.aa).length:Int)<1))++yM 4 (yT ((↑(af ay d.aa).length:Int)>8))++yM 5 (yR true))<|zT 30<|zq<|dk (zV [yJ 9 (fC d) (by rw [e])])
  by_cases k3:d.need<1
  ·refine zO Tryz.func161 62<|zq<|zS<|zP 1 [yH [(2,{k:=d.box.length})]] [.ae [10,2,1,0] [1]] [yI (aC d.box)]<|dp 10 ((↑d.box.length:Int)>1024)<|a_<|zP 1 [yH [(2,{k:=(af ay d.aa).length})]] [.ae [3,10,2,1,0] [1]] [yR ((af ay d.aa).length)]<|zS<|zP 1 [yH ([(5,{b:=false}),(10,{b:=false})]++yg [3,4,7,8,9])] [.ae [30,3,10,2,1,0] [1]] (yM 3 (yF ((↑(af ay d.aa).length:Int)<1))++yM 4 (yF ((↑(af ay d.aa).length:Int)>8))++yM 5 (yT (d.need<1)))<|zT 30<|zq<|dk (zV [yJ 9 (fC d) (by rw [e])])
  ·refine zO Tryz.func161 62<|zq<|zS<|zP 1 [yH [(2,{k:=d.box.length})]] [.ae [10,2,1,0] [1]] [yI (aC d.box)]<|dp 10 ((↑d.box.length:Int)>1024)<|a_<|zP 1 [yH [(2,{k:=(af ay d.aa).length})]] [.ae [3,10,2,1,0] [1]] [yR ((af ay d.aa).length)]<|zS<|zP 1 [yH ([(5,{b:=false}),(10,{b:=false}),(16,{b:=false})]++yg [3,4,7,8,9,12,13,14,15])] [.ae [30,3,10,2,1,0] [1]] (yM 3 (yF ((↑(af ay d.aa).length:Int)<1))++yM 4 (yF ((↑(af ay d.aa).length:Int)>8))++yM 5 (yF (d.need<1)))<|gT 30 (d.need>(↑(af ay d.aa).length:Int))<|zq<|dk (zV [yJ 9 (fC d) (by rw [e])])
 by_cases c3:d.au.length≠d.aa.length
 ·have e:fC d=4:=by unfold fC;rw [if_neg c1,if_neg c2,if_pos c3]
  unfold nO at c2
  refine zO Tryz.func161 62<|zq<|zS<|zP 1 [yH [(2,{k:=d.box.length})]] [.ae [10,2,1,0] [1]] [yI (aC d.box)]<|dp 10 ((↑d.box.length:Int)>1024)<|a_<|zP 1 [yH [(2,{k:=(af ay d.aa).length})]] [.ae [3,10,2,1,0] [1]] [yR ((af ay d.aa).length)]<|zS<|zP 1 [yH ([(5,{b:=false}),(10,{b:=false}),(16,{b:=false})]++yg [3,4,7,8,9,12,13,14,15])] [.ae [30,3,10,2,1,0] [1]] (yM 3 (yF ((↑(af ay d.aa).length:Int)<1))++yM 4 (yF ((↑(af ay d.aa).length:Int)>8))++yM 5 (yF (d.need<1)))<|dp 30 (d.need>(↑(af ay d.aa).length:Int))<|a_<|zS<|zP 1 [yH [(2,{k:=d.au.length})]] [.ae [35,30,3,10,2,1,0] [1]] [yI (aA d.au)]<|du 35 ((↑d.au.length:Int) != (↑(af ay d.aa).length:Int)) (by simp;omega)<|zq<|dk (zV [yJ 4 (fC d) (by rw [e])])
 have e:fC d=ff (mE d.aa) d.aa.length:=by unfold fC;rw [if_neg c1,if_neg c2,if_neg c3]
 rw [e]
 have VR:d.au.length=d.aa.length:=ah
 unfold nO at c2
 refine zO Tryz.func161 62<|zq<|zS<|zP 1 [yH [(2,{k:=d.box.length})]] [.ae [10,2,1,0] [1]] [yI (aC d.box)]<|dp 10 ((↑d.box.length:Int)>1024)<|a_<|zP 1 [yH [(2,{k:=(af ay d.aa).length})]] [.ae [3,10,2,1,0] [1]] [yR ((af ay d.aa).length)]<|zS<|zP 1 [yH ([(5,{b:=false}),(10,{b:=false}),(16,{b:=false})]++yg [3,4,7,8,9,12,13,14,15])] [.ae [30,3,10,2,1,0] [1]] (yM 3 (yF ((↑(af ay d.aa).length:Int)<1))++yM 4 (yF ((↑(af ay d.aa).length:Int)>8))++yM 5 (yF (d.need<1)))<|dp 30 (d.need>(↑(af ay d.aa).length:Int))<|a_<|zS<|zP 1 [yH [(2,{k:=d.au.length})]] [.ae [35,30,3,10,2,1,0] [1]] [yI (aA d.au)]<|bj 35 ((↑d.au.length:Int) != (↑(af ay d.aa).length:Int)) (by simp_all)<|a_<|zS<|zQ 1 [yH [(2,{k:=(af ay d.aa).length})]] [yR ((af ay d.aa).length)]<|zB 0 (zL (fun (i:Nat)=>(⟨[(38,ai (↑(af ay d.aa).length:Int)),(37,AV.sl 1 (af ay d.aa)),(35,ao ((↑d.au.length:Int) != (↑(af ay d.aa).length:Int))),(30,ao (decide (d.need>(↑(af ay d.aa).length:Int)))),(3,ai (↑(af ay d.aa).length:Int)),(10,ao (decide ((↑d.box.length:Int)>1024))),(1,AV.addr 1 0),(0,AV.agg (bc d)),(39,ai i)],[(1,⟨1,false,true,List.map (aD 1) (bc d)⟩)]⟩:AS)) (fun i=>(i≤d.aa.length∧ff (mE d.aa) i=0)) (fun i=>(d.aa.length-i)) (0) ?_ (zW [.ae [38,37,35,30,3,10,1,0,39] [1]]) ?_)
 ·exact ⟨ah,rfl⟩
 rintro i ⟨hi,h0⟩
 refine zq<|zS (zD 40 ((↑i:Int)<(↑(af ay d.aa).length:Int)) (fun g=>?_) (fun g=>?_))
 ·have dz:i<d.aa.length:=ah
  have gh:=iK dz
  have hA:=hh i dz
  have stop:∀e:Int,e≠0->mE d.aa i=e->ff (mE d.aa) d.aa.length=e:=fun e he h1=>by
   have k2:ff (mE d.aa) (i+1)=mE d.aa i:=by show (if _ then _ else _)=_;rw [if_neg ah]
   rw [ld ah k2 d.aa.length ah,h1]
  by_cases c5:d_ (d.aa.getD i default)=0
  case neg =>
   have k1:=stop _ c5 (Iv rfl c5)
   refine a_<|zS<|zB 1<|zP 1 [yH [(1,{k:=i}),(2,yV (db (d.aa.getD i default)))]] [.ae [5,4,40,38,37,35,30,3,10,1,0,39] [1]] [yR (↑i:Int),yO (i<(af ay d.aa).length),yI gh]<|zS<|zP 2 [yH [(1,yV (ai (d_ (d.aa.getD i default))))],{}] [.ae [47,6,5,4,40,38,37,35,30,3,10,1,0,39] [1]] [yI (ez (d.aa.getD i default) hA)]<|du 47 (d_ (d.aa.getD i default) != (0:Int)) (by simp_all)<|zP 1 [{}] [.ae [2,47,6,5,4,40,38,37,35,30,3,10,1,0,39] [1]] []<|dk<|aY<|aI<|c_<|aY<|aI (zV [yJ (d_ (d.aa.getD i default)) (ff (mE d.aa) d.aa.length) (by rw [k1])])
  by_cases c6:0<i
  ·obtain ⟨k,hk⟩:∃k,k+1=i:=⟨i-1,ah⟩
   have xZ:=iK (l:=d.aa) (i:=k) ah
   have c8:=Iu c5 hk
   by_cases c7:FA (d.aa.getD i default) (d.aa.getD k default)=true
   ·have k1:=stop 7 ah (by rw [c8,if_pos c7])
    refine a_<|zS<|zB 1<|zP 1 [yH [(1,{k:=i}),(2,yV (db (d.aa.getD i default)))]] [.ae [5,4,40,38,37,35,30,3,10,1,0,39] [1]] [yR (↑i:Int),yO (i<(af ay d.aa).length),yI gh]<|zS<|zP 2 [yH [(1,yV (ai (d_ (d.aa.getD i default))))],{}] [.ae [47,6,5,4,40,38,37,35,30,3,10,1,0,39] [1]] [yI (ez (d.aa.getD i default) hA)]<|bj 47 (d_ (d.aa.getD i default) != (0:Int)) (by simp_all)<|a_<|zP 1 [yH [(7,yV (ai ↑k)),(8,{k:=k}),(9,yV (db (d.aa.getD k default)))]] [.ae [60,47,6,5,4,40,38,37,35,30,3,10,1,0,39] [1]] (yM 5 (yT ((↑i:Int)>0))++ [yB (ai (IntKind.i64.wrap ((↑i:Int)-1))=ai ↑k) (congrArg (fun n=>AV.val (.int .i64 n)) (by rw [IntKind.wrap_i64];omega)),yT ((↑i:Int)>0),yR (↑k:Int),yO (k<(af ay d.aa).length),yT ((↑i:Int)>0),yI xZ]++yM 2 (yT ((↑i:Int)>0)))<|du 60 (Op.bytesLess (ByteArray.mk (d.aa.getD i default).toArray).toList (ByteArray.mk (d.aa.getD k default).toArray).toList || (ByteArray.mk (d.aa.getD i default).toArray).toList == (ByteArray.mk (d.aa.getD k default).toArray).toList) (by assumption)<|zq<|zR<|aY<|aI<|c_<|aY<|aI (zV [yJ 7 (ff (mE d.aa) d.aa.length) (by rw [k1])])
   ·have c9:FA (d.aa.getD i default) (d.aa.getD k default)=false:=by simpa using c7
    rw [if_neg c7] at c8
    refine a_<|zS<|zB 1<|zP 1 [yH [(1,{k:=i}),(2,yV (db (d.aa.getD i default)))]] [.ae [5,4,40,38,37,35,30,3,10,1,0,39] [1]] [yR (↑i:Int),yO (i<(af ay d.aa).length),yI gh]<|zS<|zP 2 [yH [(1,yV (ai (d_ (d.aa.getD i default))))],{}] [.ae [47,6,5,4,40,38,37,35,30,3,10,1,0,39] [1]] [yI (ez (d.aa.getD i default) hA)]<|bj 47 (d_ (d.aa.getD i default) != (0:Int)) (by simp_all)<|a_<|zP 1 [yH [(7,yV (ai ↑k)),(8,{k:=k}),(9,yV (db (d.aa.getD k default)))]] [.ae [60,47,6,5,4,40,38,37,35,30,3,10,1,0,39] [1]] (yM 5 (yT ((↑i:Int)>0))++ [yB (ai (IntKind.i64.wrap ((↑i:Int)-1))=ai ↑k) (congrArg (fun n=>AV.val (.int .i64 n)) (by rw [IntKind.wrap_i64];omega)),yT ((↑i:Int)>0),yR (↑k:Int),yO (k<(af ay d.aa).length),yT ((↑i:Int)>0),yI xZ]++yM 2 (yT ((↑i:Int)>0)))<|bj 60 (Op.bytesLess (ByteArray.mk (d.aa.getD i default).toArray).toList (ByteArray.mk (d.aa.getD k default).toArray).toList || (ByteArray.mk (d.aa.getD i default).toArray).toList == (ByteArray.mk (d.aa.getD k default).toArray).toList) (by assumption)<|zK<|aM<|ak<|zX (yH [(0,yV (ai ((↑i:Int)+1)))]) [yN ((↑i:Int)+1)] (aJ (i+1) ⟨ah,by show (if _ then _ else _)=_;rw [if_neg ah,c8]⟩ ah (zW [.ae [38,37,35,30,3,10,1,0,39] [1]]))
  ·have e:i=0:=ah
   have h1:mE d.aa i=0:=by subst e;exact Ez c5
   refine a_<|zS<|zB 1<|zP 1 [yH [(1,{k:=i}),(2,yV (db (d.aa.getD i default)))]] [.ae [5,4,40,38,37,35,30,3,10,1,0,39] [1]] [yR (↑i:Int),yO (i<(af ay d.aa).length),yI gh]<|zS<|zP 2 [yH [(1,yV (ai (d_ (d.aa.getD i default))))],{}] [.ae [47,6,5,4,40,38,37,35,30,3,10,1,0,39] [1]] [yI (ez (d.aa.getD i default) hA)]<|bj 47 (d_ (d.aa.getD i default) != (0:Int)) (by simp_all)<|a_<|zP 1 [yH ([(11,{b:=false})]++yg [3,4,5,6,7,8,9,10])] [.ae [60,47,6,5,4,40,38,37,35,30,3,10,1,0,39] [1]] (yM 9 (yF ((↑i:Int)>0)))<|zF 60<|zK<|aM<|ak<|zX (yH [(0,yV (ai ((↑i:Int)+1)))]) [yN ((↑i:Int)+1)] (aJ (i+1) ⟨ah,by show (if _ then _ else _)=_;rw [if_neg ah,h1]⟩ ah (zW [.ae [38,37,35,30,3,10,1,0,39] [1]]))
 ·have e:i=d.aa.length:=ah
  subst e
  refine zE 0<|a7<|aO<|bn<|ak<|zq<|zR (zV [yJ 0 (ff (mE d.aa) d.aa.length) (by rw [h0])])
def Mx (d:m0):List (List fE):=[[aG d.bR],[aG d.peer],[dX d.box],bD (u64 d.aa.length)::d.aa.map cA,bD (u64 d.au.length)::d.au.map aG,[aG (u64 d.need)]]
theorem wJ {T:Type} (f:T->fE) (l:List T) {i:Nat} (h:i<l.length) (z:T):af df ((l.take i).map fun x=>[f x])++ [.sl 3 (af aU [f (l.getD i z)])]=af df ((l.take (i+1)).map fun x=>[f x]):=by
 rw [List.take_add_one,List.map_append,←fB,List.getD_eq_getElem?_getD,List.getElem?_eq_getElem h];rfl
theorem vK (d:m0) (hB:y8 d):bK Tryz.prog 124 [.agg (bc d)] (.bq [.own 1 (af df (if fC d=0 then Mx d else [])),ai (fC d)]):=by
 by_cases c:fC d=0
 case neg =>
  rw [if_neg c]
  refine zO Tryz.func124 72<|zq<|zS<|zP 2 [yH [(1,yV (ai (fC d)))],yH [(1,yV (ao true))]] [.ae [15,4,3,2,1,0] [1]] [yI (vh d hB),yB (ao (fC d != (0:Int))=ao true) (by simp [c])]<|zT 15<|zq<|dk (bV)
 rw [if_pos c,c]
 obtain ⟨o1,o2,o3,o4,o5,o6⟩:=Jq c
 have s6:(af ay d.aa).length=d.aa.length:=by rw [aF (e:=1) (fun _=>rfl)];omega
 obtain ⟨v1,v2,v3,v4⟩:=pa (xs:=d.aa.map cA) (mB fun x hx=>sW (o6 x hx)) (by rw [List.length_map];omega) (by rw [List.length_map];omega)
 obtain ⟨w1,w2,w3,w4⟩:=pa (xs:=d.au.map aG) (mB fun x _=>.uint x) (by rw [List.length_map];omega) (by rw [List.length_map];omega)
 have ha:=rH _ v1 v2 v3
 have hd:=rH _ w1 w2 w3
 rw [v4,List.length_map,List.map_map] at ha
 rw [w4,List.length_map,List.map_map] at hd
 have hc:=vh d hB
 rw [c] at hc
 obtain ⟨b1,b2,b3,hh⟩:=hB
 refine zO Tryz.func124 72<|zq<|zS<|zP 2 [yH [(1,yV (ai 0))],{}] [.ae [15,4,3,2,1,0] [1]] [yI hc]<|zF 15<|a_<|zq<|zS<|zQ 1 [yH [(2,{k:=(af ay d.aa).length})]] [yR ((af ay d.aa).length)]<|zB 0 (zL (fun (i:Nat)=>(⟨[(19,ai (↑(af ay d.aa).length:Int)),(18,AV.sl 1 (af ay d.aa)),(15,ao ((0:Int) != (0:Int))),(4,ai 0),(3,ai 0),(2,AV.nil),(1,AV.addr 1 0),(0,AV.agg (bc d)),(20,ai i),(5,AV.ref 5),(6,AV.ref 6)],[(5,⟨1,true,false,af df ((d.aa.take i).map fun x=>[cA x])⟩),(6,⟨1,true,false,af df ((d.au.take i).map fun x=>[aG x])⟩),(1,⟨1,false,true,bc d⟩)]⟩:AS)) (fun i=>(i≤d.aa.length)) (fun i=>(d.aa.length-i)) (0) ?_ (zW [.nil 5 5 1,.nil 6 6 1,.ae [19,18,15,4,3,2,1,0,20,5,6] [5,6,1]]) ?_)
 ·omega
 intro i hi
 refine zq<|zS (zD 21 ((↑i:Int)<(↑(af ay d.aa).length:Int)) (fun g=>?_) (fun g=>?_))
 ·have dz:i<d.aa.length:=ah
  have gh:=iK dz
  have xZ:=dI (l:=d.au) (k:=i) ah
  have hA:=hh i dz
  have hz:=qI _ hA
  have s1:=wJ cA d.aa dz default
  have s2:=wJ aG d.au (i:=i) ah 0
  refine a_<|zS<|zB 1<|zP 2 [yH [(1,{k:=i}),(2,yV (db (d.aa.getD i default)))],yH [(2,{av:=some (AV.own 3 (af aU [cA (d.aa.getD i default)])),b:=false})]] [.ae [5,8,7,21,19,18,15,4,3,2,1,0,20,6] [29,6,1]] [yR (↑i:Int),yO (i<(af ay d.aa).length),yI gh,yI (tE (d.aa.getD i default)),yB (((af df (List.map (fun x↦ [cA x]) (List.take i d.aa))).length+1)*24≤140737488355328) (by simp only [List.length_take,List.length_map,aF (f:=df) (e:=1) (fun _=>rfl)];omega)]<|zX (yH [(4,{k:=i}),(5,yV (aw (d.au.getD i 0))),(6,{av:=some (AV.own 3 (af aU [aG (d.au.getD i 0)])),b:=false})]) [yR (↑i:Int),yB (i<(aj d.au).length) (by simp only [aA];omega),yI xZ,yI (gW (d.au.getD i 0)),yB (((af df (List.map (fun x↦ [aG x]) (List.take i d.au))).length+1)*24≤140737488355328) (by simp only [List.length_take,List.length_map,aF (f:=df) (e:=1) (fun _=>rfl)];omega)]<|aM<|ak<|zX (yH [(0,yV (ai ((↑i:Int)+1)))]) [yN ((↑i:Int)+1)] (aJ (i+1) (by assumption) ah (eK [.vo 29 5,.vo 38 6,.ae [19,18,15,4,3,2,1,0,20,5,6] [5,6,1]] [] [5,6,1] [yI s1,yI s2,yB (List.map (aD 37) (List.map (kD 38 6) (cN 6 (Row.mk 1 false true (List.map (kD 29 5) (cN 5 (Row.mk 1 false true (List.map (aD 38) (cN 6 (Row.mk 1 false true (List.map (aD 37) (gB 36 (Row.mk 3 true false (af aU [aG (d.au.getD i 0)])) (Row.mk 1 false true (List.map (aD 36) (List.map (aD 28) (List.map (aD 29) (cN 5 (Row.mk 1 false true (List.map (aD 28) (gB 27 (Row.mk 3 true false (af aU [cA (d.aa.getD i default)])) (Row.mk 1 false true (List.map (aD 27) (bc d)))).cells))).cells))))).cells))).cells))).cells))).cells)=bc d) bh]))
 ·have e:i=d.aa.length:=ah
  subst e
  have t1:d.aa.take d.aa.length=d.aa:=List.take_length
  have t2:d.au.take d.aa.length=d.au:=by rw [←o5];exact List.take_length
  rw [t1,t2]
  refine zE 0<|a7<|aO<|bn<|ak<|zP 1 [yH [(1,{av:=some (AV.bq [AV.sl 3 (af aU (bD (u64 (↑d.aa.length:Int))::List.map cA d.aa)),ai 0]),b:=false})]] [.ae [10,9,21,19,18,15,4,3,2,1,0,20,5,6] [6,1]] [yI ha]<|zS<|zq<|zF 46<|a_<|zP 1 [yH [(1,{av:=some (AV.bq [AV.sl 3 (af aU (bD (u64 (↑d.au.length:Int))::List.map aG d.au)),ai 0]),b:=false})]] [.ae [10,11,46,9,21,19,18,15,4,3,2,1,0,20,5,6] [1]] [yI hd]<|zS<|zq<|zF 54<|a_<|zP 1 [{hs:=[(2,{av:=some (AV.own 3 (af aU [aG d.bR])),b:=false}),(5,{av:=some (AV.own 3 (af aU [aG d.peer])),b:=false}),(8,{av:=some (AV.own 3 (af aU [dX d.box])),b:=false}),(13,yV (aw (u64 d.need))),(14,{av:=some (AV.own 3 (af aU [aG (u64 d.need)])),b:=false})],T:=15}] [.ae [3,2,54,10,11,46,9,21,19,18,15,4,1,0,20,5,6] [71,1]] [yI (gW d.bR),yI (gW d.peer),yI (Bt d.box b1),yI (a6 d.need),yI (gW (u64 d.need))]<|zR (bV)
end Go.Proofs.YtjgbhhnghedgdaaGreatDoor
