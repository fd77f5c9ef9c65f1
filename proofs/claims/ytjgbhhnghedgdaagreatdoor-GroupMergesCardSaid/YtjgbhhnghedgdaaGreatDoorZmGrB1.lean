import Derived.Test.YtjgbhhnghedgdaaGreatDoorZmTk3
set_option linter.all false
namespace Go.Proofs.YtjgbhhnghedgdaaGreatDoor
open Go.RowKit
set_option maxRecDepth 100000
set_option maxHeartbeats 4000000
def gu (e:dP):dP :=
 if e.kind=1 then {e with name:=[],kh:=0,kr:=0} else if e.kind=2 then {e with name:=[]} else if e.kind=3 then {e with br:=0} else
 if e.kind=4 then {e with dep:=⟨0,0,[],[],[],0,e.dep.target⟩} else {e with bY:=0,target:=0}
structure MF (f:dP) (R:Bool):Prop where
 bad:(f.dep.bY≠0∨f.dep.peer≠0∨f.dep.box.length≠0∨f.dep.af.length≠0∨f.dep.ay.length≠0∨f.dep.need≠0∨f.dep.target≠0∨f.name≠ []∨ ¬(f.kh=0∧f.kr=0)∨f.br≠0∨f.bY≠0∨f.target≠0)->R=true
 mP:f.dep.bY=0->f.dep.peer=0->f.dep.box.length=0->f.dep.af.length=0->f.dep.ay.length=0->f.dep.need=0->f.dep.target=0->f.name= []->f.kh=0∧f.kr=0->f.br=0->f.bY=0->f.target=0->R=false
theorem KB {x:UInt64} (h:wv x=0):x=0:=by
 have h:((x.toNat:Nat):Int)=0:=h
 exact UInt64.toNat_inj.1 (by rw [show x.toNat=0 by omega];rfl)
theorem Ao {h:Int} {r:UInt64} (g:¬(!(h == 0 && (wv r == 0 && true)))=true):h=0∧r=0:=by
 simp at g
 exact ⟨g.1,KB g.2⟩
theorem FG {h:Int} {r:UInt64} (g:(!(h == 0 && (wv r == 0 && true)))=true):¬(h=0∧r=0):=by
 rintro ⟨rfl,rfl⟩
 exact absurd g (by decide)
theorem FH (e:dP) (h1:1≤e.kind) (h5:e.kind≤5):MF (gu e) (decide (¬fk e)):=by
 have key:((gu e).dep.bY=0∧(gu e).dep.peer=0∧(gu e).dep.box.length=0∧(gu e).dep.af.length=0∧(gu e).dep.ay.length=0∧(gu e).dep.need=0∧(gu e).dep.target=0∧(gu e).name= []∧((gu e).kh=0∧(gu e).kr=0)∧(gu e).br=0∧(gu e).bY=0∧(gu e).target=0)↔fk e:=by
  unfold gu fk vv
  by_cases k1:e.kind=1
  ·rw [if_pos k1];simp [k1];grind
  rw [if_neg k1]
  by_cases k2:e.kind=2
  ·rw [if_pos k2];simp [k2];grind
  rw [if_neg k2]
  by_cases k3:e.kind=3
  ·rw [if_pos k3];simp [k3];grind
  rw [if_neg k3]
  by_cases k4:e.kind=4
  ·rw [if_pos k4];simp [k4];grind
  rw [if_neg k4]
  have k5:e.kind=5:=ah
  simp [k5];grind
 refine ⟨fun h=>?_,fun a b c d e f g h i j k l=>?_⟩
 ·rw [decide_eq_true_iff]
  intro q
  obtain ⟨a,b,c,d,m,f,g,o,i,j,k,l⟩:=key.2 q
  clear key
  generalize gu e=z at *
  rcases h with q|q|q|q|q|q|q|q|q|q|q|q<;>contradiction
 ·rw [decide_eq_false_iff_not]
  exact fun q=>q (key.1 ⟨a,b,c,d,e,f,g,h,i,j,k,l⟩)
def Qz:List (Nat×Nat):=[(9,1),(10,1),(11,1)]
theorem jH (e:dP) (h1:1≤e.kind) (h5:e.kind≤5):bC Tryz.prog 73 [.agg (aI e)] (ao (decide (¬fk e))):=by
 refine zO Tryz.func73 94<|zq (bf.nJ (fun (f:dP)=>(⟨[(2,ao false),(1,AV.addr 1 0),(0,AV.agg (aI e))],[(1,⟨1,false,true,aI f⟩)]⟩:AS)) (fun f=>(f=gu e)) bt ?_ ?_)
 ·by_cases k1:e.kind=1
  ·have hf:gu e= {e with name:=[],kh:=0,kr:=0}:=if_pos k1
   refine zq<|zB 0<|zP 1 [{}] [.aa [7,6,2,1,0] [1]] []<|dm 7 (e.kind == (1:Int)) eg<|zQ 1 [{}] [yL 4 17]<|zX {} [yL 6 17]<|aM<|ak (⟨(gu e),rfl,(eu [.aa [2,1,0] [1]] [] [1] [yB (List.take 4 ((List.map (aB 1) (aI e)).set 3 (AV.val (Value.string (ByteArray.mk #[]))))++ [ai 0,cN]++List.drop 6 ((List.map (aB 1) (aI e)).set 3 (AV.val (Value.string (ByteArray.mk #[]))))=aI (gu e)) (by rw [hf];rfl)])⟩)
  by_cases k2:e.kind=2
  ·have hf:gu e= {e with name:=[]}:=by unfold gu;rw [if_neg k1,if_pos k2]
   refine zq<|zB 0<|zP 1 [{}] [.aa [7,6,2,1,0] [1]] []<|bj 7 (e.kind == (1:Int)) bD<|zq<|dm 12 (e.kind == (2:Int)) eg<|zX {} [yL 4 17]<|aM<|ak (⟨(gu e),rfl,(eu [.aa [2,1,0] [1]] [] [1] [yB ((List.map (aB 1) (aI e)).set 3 (AV.val (Value.string (ByteArray.mk #[])))=aI (gu e)) (by rw [hf];rfl)])⟩)
  by_cases k3:e.kind=3
  ·have hf:gu e= {e with br:=0}:=by unfold gu;rw [if_neg k1,if_neg k2,if_pos k3]
   refine zq<|zB 0<|zP 1 [{}] [.aa [7,6,2,1,0] [1]] []<|bj 7 (e.kind == (1:Int)) bD<|zq<|bj 12 (e.kind == (2:Int)) bD<|zP 1 [{}] [.aa [15,12,7,6,2,1,0] [1]] []<|dm 15 (e.kind == (3:Int)) eg<|zX {} [yL 7 17]<|aM<|ak (⟨(gu e),rfl,(eu [.aa [2,1,0] [1]] [] [1] [yB ((List.map (aB 1) (aI e)).set 6 (ai 0)=aI (gu e)) (by rw [hf];rfl)])⟩)
  by_cases k4:e.kind=4
  ·have hf:gu e= {e with dep:=⟨0,0,[],[],[],0,e.dep.target⟩}:=by unfold gu;rw [if_neg k1,if_neg k2,if_neg k3,if_pos k4]
   refine zq<|zB 0<|zP 1 [{}] [.aa [7,6,2,1,0] [1]] []<|bj 7 (e.kind == (1:Int)) bD<|zq<|bj 12 (e.kind == (2:Int)) bD<|zP 1 [{}] [.aa [15,12,7,6,2,1,0] [1]] []<|bj 15 (e.kind == (3:Int)) bD<|zq<|dm 18 (e.kind == (4:Int)) eg<|zX {} [yL 14 17]<|aM<|ak<|Ng (bU.Nd 1 Qz bt) (⟨(gu e),rfl,(eu [.aa [2,1,0] [1]] [] [1] [yB (Kj Qz (CF (AS.mk [(24,AV.addr 1 7),(23,AV.agg [cN,cN,AV.nil,AV.nil,AV.nil,ai 0,aw e.dep.target]),(22,aw e.dep.target),(21,AV.addr 1 13),(20,AV.addr 1 7),(18,ao (e.kind == (4:Int))),(19,ao (e.kind == (4:Int))),(15,ao (e.kind == (3:Int))),(12,ao (e.kind == (2:Int))),(7,ao (e.kind == (1:Int))),(6,ai e.kind),(2,ao false),(1,AV.addr 1 0),(0,AV.agg (aI e))] [(1,Row.mk 1 false true (List.take 7 (List.map (aB 1) (aI e))++ [cN,cN,AV.nil,AV.nil,AV.nil,ai 0,aw e.dep.target]++List.drop 14 (List.map (aB 1) (aI e))))]) 1).cells 0=aI (gu e)) (by rw [hf];rfl)])⟩)
  have hf:gu e= {e with bY:=0,target:=0}:=by unfold gu;rw [if_neg k1,if_neg k2,if_neg k3,if_neg k4]
  refine zq<|zB 0<|zP 1 [{}] [.aa [7,6,2,1,0] [1]] []<|bj 7 (e.kind == (1:Int)) bD<|zq<|bj 12 (e.kind == (2:Int)) bD<|zP 1 [{}] [.aa [15,12,7,6,2,1,0] [1]] []<|bj 15 (e.kind == (3:Int)) bD<|zq<|bj 18 (e.kind == (4:Int)) bD<|zP 1 [{}] [.aa [25,18,15,12,7,6,2,1,0] [1]] []<|dm 25 (e.kind == (5:Int)) eg<|zQ 1 [{}] [yL 15 17]<|zX {} [yL 16 17]<|aM<|ak (⟨(gu e),rfl,(eu [.aa [2,1,0] [1]] [] [1] [yB (((List.map (aB 1) (aI e)).set 14 (cN)).set 15 (cN)=aI (gu e)) (by rw [hf];rfl)])⟩)
 intro f hf
 have hb:MF f (decide (¬fk e)):=by rw [hf];exact FH e h1 h5
 have Rg:(ae ax f.dep.af).length=f.dep.af.length:=by rw [aE (e:=1) (fun _=>rfl)];omega
 generalize decide (¬fk e)=R at *
 clear hf h1 h5
 refine zP 1 [{}] [.aa [3,2,1,0] [3,1]] [yL 7 7] ((Classical.em (f.dep.bY=0)).symm.elim (fun g1=>?_) (fun g1=>?_))
 ·skip
  refine zP 2 [yH [(2,yV (ao (f.dep.bY != 0)))],{}] [.aa [2,4,3,1,0] [3,1]] ([yI (cJ f.dep.bY 0)]++yM 4 (yS ((f.dep.bY != 0)=true))++yM 44 (yR true))<|zR (zV [yB (Value.bool true=Value.bool R) (by rw [hb.bad (.inl g1)])])
 refine (Classical.em (f.dep.peer=0)).symm.elim (fun g2=>?_) (fun g2=>?_)
 ·skip
  refine zP 2 [yH ([(2,yV (ao (f.dep.bY != 0))),(6,{av:=some (ao (f.dep.peer != 0)),g:=false}),(7,{b:=false})]++yg [4,5]),{}] [.aa [2,4,3,1,0] [3,1]] ([yI (cJ f.dep.bY 0)]++yM 3 (yS ((f.dep.bY != 0)=false))++ [yI (cJ f.dep.peer 0),yS ((f.dep.bY != 0)=false)]++yM 5 (yS ((f.dep.peer != 0)=true))++yM 39 (yR true))<|zR (zV [yB (Value.bool true=Value.bool R) (by rw [hb.bad (.inr (.inl g2))])])
 refine (Classical.em ((↑f.dep.box.length:Int)=0)).symm.elim (fun g3=>?_) (fun g3=>?_)
 ·skip
  refine zP 2 [yH ([(2,yV (ao (f.dep.bY != 0))),(6,{av:=some (ao (f.dep.peer != 0)),g:=false}),(7,{b:=false}),(11,{k:=f.dep.box.length,g:=false}),(13,{b:=false})]++yg [4,5,9,10,12]),{}] [.aa [2,4,3,1,0] [3,1]] ([yI (cJ f.dep.bY 0)]++yM 3 (yS ((f.dep.bY != 0)=false))++ [yI (cJ f.dep.peer 0),yS ((f.dep.bY != 0)=false)]++yM 3 (yS ((f.dep.peer != 0)=false))++ [yI (aD f.dep.box)]++yM 2 (yS ((f.dep.peer != 0)=false))++yM 5 (yS (((↑f.dep.box.length:Int) != (0:Int))=true))++yM 34 (yR true))<|zR (zV [yB (Value.bool true=Value.bool R) (by rw [hb.bad (.inr (.inr (.inl ah)))])])
 refine (Classical.em ((↑(ae ax f.dep.af).length:Int)=0)).symm.elim (fun g4=>?_) (fun g4=>?_)
 ·skip
  refine zP 2 [yH ([(2,yV (ao (f.dep.bY != 0))),(6,{av:=some (ao (f.dep.peer != 0)),g:=false}),(7,{b:=false}),(11,{k:=f.dep.box.length,g:=false}),(13,{b:=false}),(17,{k:=(ae ax f.dep.af).length,g:=false}),(19,{b:=false})]++yg [4,5,9,10,12,15,16,18]),{}] [.aa [2,4,3,1,0] [3,1]] ([yI (cJ f.dep.bY 0)]++yM 3 (yS ((f.dep.bY != 0)=false))++ [yI (cJ f.dep.peer 0),yS ((f.dep.bY != 0)=false)]++yM 3 (yS ((f.dep.peer != 0)=false))++ [yI (aD f.dep.box)]++yM 2 (yS ((f.dep.peer != 0)=false))++yM 3 (yS (((↑f.dep.box.length:Int) != (0:Int))=false))++ [yR ((ae ax f.dep.af).length)]++yM 2 (yS (((↑f.dep.box.length:Int) != (0:Int))=false))++yM 5 (yS (((↑(ae ax f.dep.af).length:Int) != (0:Int))=true))++yM 29 (yR true))<|zR (zV [yB (Value.bool true=Value.bool R) (by rw [hb.bad (.inr (.inr (.inr (.inl ah))))])])
 refine (Classical.em ((↑f.dep.ay.length:Int)=0)).symm.elim (fun g5=>?_) (fun g5=>?_)
 ·skip
  refine zP 2 [yH ([(2,yV (ao (f.dep.bY != 0))),(6,{av:=some (ao (f.dep.peer != 0)),g:=false}),(7,{b:=false}),(11,{k:=f.dep.box.length,g:=false}),(13,{b:=false}),(17,{k:=(ae ax f.dep.af).length,g:=false}),(19,{b:=false}),(23,{k:=f.dep.ay.length,g:=false}),(25,{b:=false})]++yg [4,5,9,10,12,15,16,18,21,22,24]),{}] [.aa [2,4,3,1,0] [3,1]] ([yI (cJ f.dep.bY 0)]++yM 3 (yS ((f.dep.bY != 0)=false))++ [yI (cJ f.dep.peer 0),yS ((f.dep.bY != 0)=false)]++yM 3 (yS ((f.dep.peer != 0)=false))++ [yI (aD f.dep.box)]++yM 2 (yS ((f.dep.peer != 0)=false))++yM 3 (yS (((↑f.dep.box.length:Int) != (0:Int))=false))++ [yR ((ae ax f.dep.af).length)]++yM 2 (yS (((↑f.dep.box.length:Int) != (0:Int))=false))++yM 3 (yS (((↑(ae ax f.dep.af).length:Int) != (0:Int))=false))++ [yI (aC f.dep.ay)]++yM 2 (yS (((↑(ae ax f.dep.af).length:Int) != (0:Int))=false))++yM 4 (yS (((↑f.dep.ay.length:Int) != (0:Int))=true))++yM 25 (yR true))<|zR (zV [yB (Value.bool true=Value.bool R) (by rw [hb.bad (.inr (.inr (.inr (.inr (.inl ah)))))])])
 refine (Classical.em (f.dep.need=0)).symm.elim (fun g6=>?_) (fun g6=>?_)
 ·skip
  refine zP 2 [yH ([(2,yV (ao (f.dep.bY != 0))),(6,{av:=some (ao (f.dep.peer != 0)),g:=false}),(7,{b:=false}),(11,{k:=f.dep.box.length,g:=false}),(13,{b:=false}),(17,{k:=(ae ax f.dep.af).length,g:=false}),(19,{b:=false}),(23,{k:=f.dep.ay.length,g:=false}),(25,{b:=false}),(30,{b:=false})]++yg [4,5,9,10,12,15,16,18,21,22,24,27,28,29]),{}] [.aa [2,4,3,1,0] [3,1]] ([yI (cJ f.dep.bY 0)]++yM 3 (yS ((f.dep.bY != 0)=false))++ [yI (cJ f.dep.peer 0),yS ((f.dep.bY != 0)=false)]++yM 3 (yS ((f.dep.peer != 0)=false))++ [yI (aD f.dep.box)]++yM 2 (yS ((f.dep.peer != 0)=false))++yM 3 (yS (((↑f.dep.box.length:Int) != (0:Int))=false))++ [yR ((ae ax f.dep.af).length)]++yM 2 (yS (((↑f.dep.box.length:Int) != (0:Int))=false))++yM 3 (yS (((↑(ae ax f.dep.af).length:Int) != (0:Int))=false))++ [yI (aC f.dep.ay)]++yM 2 (yS (((↑(ae ax f.dep.af).length:Int) != (0:Int))=false))++yM 4 (yS (((↑f.dep.ay.length:Int) != (0:Int))=false))++yM 4 (yS ((f.dep.need != (0:Int))=true))++yM 21 (yR true))<|zR (zV [yB (Value.bool true=Value.bool R) (by rw [hb.bad (.inr (.inr (.inr (.inr (.inr (.inl g6))))))])])
 refine zP 1 [yH ([(2,yV (ao (f.dep.bY != 0))),(6,{av:=some (ao (f.dep.peer != 0)),g:=false}),(7,{b:=false}),(11,{k:=f.dep.box.length,g:=false}),(13,{b:=false}),(17,{k:=(ae ax f.dep.af).length,g:=false}),(19,{b:=false}),(23,{k:=f.dep.ay.length,g:=false}),(25,{b:=false}),(30,{b:=false}),(34,{av:=some (ao (f.dep.target != 0)),g:=false}),(35,{b:=false})]++yg [4,5,9,10,12,15,16,18,21,22,24,27,28,29,32,33])] [.aa [4,3,2,1,0] [3,1]] ([yI (cJ f.dep.bY 0)]++yM 3 (yS ((f.dep.bY != 0)=false))++ [yI (cJ f.dep.peer 0),yS ((f.dep.bY != 0)=false)]++yM 3 (yS ((f.dep.peer != 0)=false))++ [yI (aD f.dep.box)]++yM 2 (yS ((f.dep.peer != 0)=false))++yM 3 (yS (((↑f.dep.box.length:Int) != (0:Int))=false))++ [yR ((ae ax f.dep.af).length)]++yM 2 (yS (((↑f.dep.box.length:Int) != (0:Int))=false))++yM 3 (yS (((↑(ae ax f.dep.af).length:Int) != (0:Int))=false))++ [yI (aC f.dep.ay)]++yM 2 (yS (((↑(ae ax f.dep.af).length:Int) != (0:Int))=false))++yM 4 (yS (((↑f.dep.ay.length:Int) != (0:Int))=false))++yM 3 (yS ((f.dep.need != (0:Int))=false))++ [yI (cJ f.dep.target 0),yS ((f.dep.need != (0:Int))=false)]) ((Classical.em (f.dep.target=0)).symm.elim (fun g7=>?_) (fun g7=>?_))
 ·skip
  refine zP 1 [{}] [.aa [2,4,3,1,0] [3,1]] (yM 4 (yS ((f.dep.target != 0)=true))++yM 17 (yR true))<|zR (zV [yB (Value.bool true=Value.bool R) (by rw [hb.bad (.inr (.inr (.inr (.inr (.inr (.inr (.inl g7)))))))])])
 refine (Classical.em (f.name= [])).symm.elim (fun g8=>?_) (fun g8=>?_)
 ·skip
  refine zP 1 [yH ([(4,{av:=some (ao (f.name != [])),g:=false}),(5,{b:=false})]++yg [2,3])] [.aa [2,4,3,1,0] [3,1]] (yM 3 (yS ((f.dep.target != 0)=false))++ [yI (tV f.name []),yS ((f.dep.target != 0)=false)]++yM 5 (yS ((f.name != [])=true))++yM 12 (yR true))<|zR (zV [yB (Value.bool true=Value.bool R) (by rw [hb.bad (.inr (.inr (.inr (.inr (.inr (.inr (.inr (.inl g8))))))))])])
 refine (Classical.em ((!(f.kh == (0:Int) && (wv f.kr == (0:Int) && true)))=true)).elim (fun g9=>?_) (fun g9=>?_)
 ·have Tb:¬(f.kh=0∧f.kr=0):=FG g9
  refine zP 1 [yH ([(4,{av:=some (ao (f.name != [])),g:=false}),(5,{b:=false}),(11,{b:=false})]++yg [2,3,7,8,9,10])] [.aa [2,4,3,1,0] [3,1]] (yM 3 (yS ((f.dep.target != 0)=false))++ [yS (ao (!(ByteArray.mk f.name.toArray).toList == (ByteArray.mk #[]).toList)=ao (f.name != [])),yS ((f.dep.target != 0)=false)]++yM 5 (yS ((f.name != [])=false))++yM 4 (yI g9)++yM 8 (yR true))<|zR (zV [yB (Value.bool true=Value.bool R) (by rw [hb.bad (.inr (.inr (.inr (.inr (.inr (.inr (.inr (.inr (.inl Tb)))))))))])])
 refine (Classical.em (f.br=0)).symm.elim (fun g10=>?_) (fun g10=>?_)
 ·skip
  refine zP 1 [yH ([(4,{av:=some (ao (f.name != [])),g:=false}),(5,{b:=false}),(11,{b:=false}),(16,{b:=false})]++yg [2,3,7,8,9,10,13,14,15])] [.aa [2,4,3,1,0] [3,1]] (yM 3 (yS ((f.dep.target != 0)=false))++ [yS (ao (!(ByteArray.mk f.name.toArray).toList == (ByteArray.mk #[]).toList)=ao (f.name != [])),yS ((f.dep.target != 0)=false)]++yM 5 (yS ((f.name != [])=false))++yM 4 (yS ((!(f.kh == (0:Int) && (wv f.kr == (0:Int) && true)))=false))++yM 4 (yS ((f.br != (0:Int))=true))++yM 4 (yR true))<|zR (zV [yB (Value.bool true=Value.bool R) (by rw [hb.bad (.inr (.inr (.inr (.inr (.inr (.inr (.inr (.inr (.inr (.inl g10))))))))))])])
 refine (Classical.em (f.bY=0)).symm.elim (fun g11=>?_) (fun g11=>?_)
 ·skip
  refine zP 1 [yH ([(4,{av:=some (ao (f.name != [])),g:=false}),(5,{b:=false}),(11,{b:=false}),(16,{b:=false}),(20,{av:=some (ao (f.bY != 0)),g:=false}),(21,{b:=false})]++yg [2,3,7,8,9,10,13,14,15,18,19])] [.aa [2,4,3,1,0] [3,1]] (yM 3 (yS ((f.dep.target != 0)=false))++ [yS (ao (!(ByteArray.mk f.name.toArray).toList == (ByteArray.mk #[]).toList)=ao (f.name != [])),yS ((f.dep.target != 0)=false)]++yM 5 (yS ((f.name != [])=false))++yM 4 (yS ((!(f.kh == (0:Int) && (wv f.kr == (0:Int) && true)))=false))++yM 3 (yS ((f.br != (0:Int))=false))++ [yI (cJ f.bY 0),yS ((f.br != (0:Int))=false)]++yM 4 (yS ((f.bY != 0)=true)))<|zR (zV [yB (Value.bool true=Value.bool R) (by rw [hb.bad (.inr (.inr (.inr (.inr (.inr (.inr (.inr (.inr (.inr (.inr (.inl g11)))))))))))])])
 have Tb:f.kh=0∧f.kr=0:=Ao g9
 by_cases g12:f.target=0
 ·skip
  refine zP 1 [yH ([(4,{av:=some (ao (f.name != [])),g:=false}),(5,{b:=false}),(11,{b:=false}),(16,{b:=false}),(20,{av:=some (ao (f.bY != 0)),g:=false}),(21,{b:=false}),(25,{av:=some (ao (f.target != 0)),g:=false}),(26,{b:=false})]++yg [2,3,7,8,9,10,13,14,15,18,19,23,24])] [.aa [2,4,3,1,0] [3,1]] (yM 3 (yS ((f.dep.target != 0)=false))++ [yS (ao (!(ByteArray.mk f.name.toArray).toList == (ByteArray.mk #[]).toList)=ao (f.name != [])),yS ((f.dep.target != 0)=false)]++yM 5 (yS ((f.name != [])=false))++yM 4 (yS ((!(f.kh == (0:Int) && (wv f.kr == (0:Int) && true)))=false))++yM 3 (yS ((f.br != (0:Int))=false))++ [yS (ao (wv f.bY != (0:Int))=ao (f.bY != 0)),yS ((f.br != (0:Int))=false)]++yM 3 (yS ((f.bY != 0)=false))++ [yS (ao (wv f.target != (0:Int))=ao (f.target != 0)),yS ((f.bY != 0)=false)])<|zR (zV [yB (Value.bool (f.target != 0)=Value.bool R) (by rw [hb.mP g1 g2 ah ah ah g6 g7 g8 Tb g10 g11 g12];simp [g12])])
 ·skip
  refine zP 1 [yH ([(4,{av:=some (ao (f.name != [])),g:=false}),(5,{b:=false}),(11,{b:=false}),(16,{b:=false}),(20,{av:=some (ao (f.bY != 0)),g:=false}),(21,{b:=false}),(25,{av:=some (ao (f.target != 0)),g:=false}),(26,{b:=false})]++yg [2,3,7,8,9,10,13,14,15,18,19,23,24])] [.aa [2,4,3,1,0] [3,1]] (yM 3 (yS ((f.dep.target != 0)=false))++ [yS (ao (!(ByteArray.mk f.name.toArray).toList == (ByteArray.mk #[]).toList)=ao (f.name != [])),yS ((f.dep.target != 0)=false)]++yM 5 (yS ((f.name != [])=false))++yM 4 (yS ((!(f.kh == (0:Int) && (wv f.kr == (0:Int) && true)))=false))++yM 3 (yS ((f.br != (0:Int))=false))++ [yS (ao (wv f.bY != (0:Int))=ao (f.bY != 0)),yS ((f.br != (0:Int))=false)]++yM 3 (yS ((f.bY != 0)=false))++ [yI (cJ f.target 0),yS ((f.bY != 0)=false)])<|zR (zV [yB (Value.bool (f.target != 0)=Value.bool R) (by rw [hb.bad (.inr (.inr (.inr (.inr (.inr (.inr (.inr (.inr (.inr (.inr (.inr g12)))))))))))];simp [g12])])
structure zZ (d:np):Prop where
 box:d.box.length≤1000000
 Bp:d.af.length≤1000000
 Rr:d.ay.length≤1000000
 QZ:∀i,i<d.af.length->(d.af.getD i default).length≤1000
theorem vA (d:np) (hB:zZ d):bC Tryz.prog 161 [.agg (a_ d)] (ai (fH d)):=by
 have oJ:(ae ax d.af).length=d.af.length:=by rw [aE (e:=1) (fun _=>rfl)];omega
 obtain ⟨b1,b2,b3,hh⟩:=hB
 by_cases c1:1024<d.box.length
 ·have e:fH d=8:=if_pos c1
  refine zO Tryz.func161 62<|zq<|zS<|zP 1 [yH [(2,{k:=d.box.length})]] [.aa [10,2,1,0] [1]] [yI (aD d.box)]<|gN 10 ((↑d.box.length:Int)>1024)<|zq<|dd (zV [yJ 8 (fH d) (by rw [e])])
 by_cases c2:nX d.af.length d.need
 ·have e:fH d=9:=by unfold fH;rw [if_neg c1,if_pos c2]
  unfold nX at c2
  by_cases k1:d.af.length<1
  ·refine zO Tryz.func161 62<|zq<|zS<|zP 1 [yH [(2,{k:=d.box.length})]] [.aa [10,2,1,0] [1]] [yI (aD d.box)]<|dq 10 ((↑d.box.length:Int)>1024)<|aW<|zP 1 [yH [(2,{k:=(ae ax d.af).length})]] [.aa [3,10,2,1,0] [1]] [yR ((ae ax d.af).length)]<|zS<|zP 1 [{}] [.aa [30,3,10,2,1,0] [1]] (yM 3 (yT ((↑(ae ax d.af).length:Int)<1))++yM 9 (yR true))<|zT 30<|zq<|dd (zV [yJ 9 (fH d) (by rw [e])])
  by_cases k2:8<d.af.length
  ·refine zO Tryz.func161 62<|zq<|zS<|zP 1 [yH [(2,{k:=d.box.length})]] [.aa [10,2,1,0] [1]] [yI (aD d.box)]<|dq 10 ((↑d.box.length:Int)>1024)<|aW<|zP 1 [yH [(2,{k:=(ae ax d.af).length})]] [.aa [3,10,2,1,0] [1]] [yR ((ae ax d.af).length)]<|zS<|zP 1 [yH ([(5,{b:=false})]++yg [3,4])] [.aa [30,3,10,2,1,0] [1]] (yM 3 (yF ((↑(ae ax d.af).length:Int)<1))++yM 4 (yT ((↑(ae ax d.af).length:Int)>8))++yM 5 (yR true))<|zT 30<|zq<|dd (zV [yJ 9 (fH d) (by rw [e])])
  by_cases k3:d.need<1
  ·refine zO Tryz.func161 62<|zq<|zS<|zP 1 [yH [(2,{k:=d.box.length})]] [.aa [10,2,1,0] [1]] [yI (aD d.box)]<|dq 10 ((↑d.box.length:Int)>1024)<|aW<|zP 1 [yH [(2,{k:=(ae ax d.af).length})]] [.aa [3,10,2,1,0] [1]] [yR ((ae ax d.af).length)]<|zS<|zP 1 [yH ([(5,{b:=false}),(10,{b:=false})]++yg [3,4,7,8,9])] [.aa [30,3,10,2,1,0] [1]] (yM 3 (yF ((↑(ae ax d.af).length:Int)<1))++yM 4 (yF ((↑(ae ax d.af).length:Int)>8))++yM 5 (yT (d.need<1)))<|zT 30<|zq<|dd (zV [yJ 9 (fH d) (by rw [e])])
  ·refine zO Tryz.func161 62<|zq<|zS<|zP 1 [yH [(2,{k:=d.box.length})]] [.aa [10,2,1,0] [1]] [yI (aD d.box)]<|dq 10 ((↑d.box.length:Int)>1024)<|aW<|zP 1 [yH [(2,{k:=(ae ax d.af).length})]] [.aa [3,10,2,1,0] [1]] [yR ((ae ax d.af).length)]<|zS<|zP 1 [yH ([(5,{b:=false}),(10,{b:=false}),(16,{b:=false})]++yg [3,4,7,8,9,12,13,14,15])] [.aa [30,3,10,2,1,0] [1]] (yM 3 (yF ((↑(ae ax d.af).length:Int)<1))++yM 4 (yF ((↑(ae ax d.af).length:Int)>8))++yM 5 (yF (d.need<1)))<|gN 30 (d.need>(↑(ae ax d.af).length:Int))<|zq<|dd (zV [yJ 9 (fH d) (by rw [e])])
 by_cases c3:d.ay.length≠d.af.length
 ·have e:fH d=4:=by unfold fH;rw [if_neg c1,if_neg c2,if_pos c3]
  unfold nX at c2
  refine zO Tryz.func161 62<|zq<|zS<|zP 1 [yH [(2,{k:=d.box.length})]] [.aa [10,2,1,0] [1]] [yI (aD d.box)]<|dq 10 ((↑d.box.length:Int)>1024)<|aW<|zP 1 [yH [(2,{k:=(ae ax d.af).length})]] [.aa [3,10,2,1,0] [1]] [yR ((ae ax d.af).length)]<|zS<|zP 1 [yH ([(5,{b:=false}),(10,{b:=false}),(16,{b:=false})]++yg [3,4,7,8,9,12,13,14,15])] [.aa [30,3,10,2,1,0] [1]] (yM 3 (yF ((↑(ae ax d.af).length:Int)<1))++yM 4 (yF ((↑(ae ax d.af).length:Int)>8))++yM 5 (yF (d.need<1)))<|dq 30 (d.need>(↑(ae ax d.af).length:Int))<|aW<|zS<|zP 1 [yH [(2,{k:=d.ay.length})]] [.aa [35,30,3,10,2,1,0] [1]] [yI (aC d.ay)]<|dm 35 ((↑d.ay.length:Int) != (↑(ae ax d.af).length:Int)) (by simp;omega)<|zq<|dd (zV [yJ 4 (fH d) (by rw [e])])
 have e:fH d=ff (mN d.af) d.af.length:=by unfold fH;rw [if_neg c1,if_neg c2,if_neg c3]
 rw [e]
 have We:d.ay.length=d.af.length:=ah
 unfold nX at c2
 refine zO Tryz.func161 62<|zq<|zS<|zP 1 [yH [(2,{k:=d.box.length})]] [.aa [10,2,1,0] [1]] [yI (aD d.box)]<|dq 10 ((↑d.box.length:Int)>1024)<|aW<|zP 1 [yH [(2,{k:=(ae ax d.af).length})]] [.aa [3,10,2,1,0] [1]] [yR ((ae ax d.af).length)]<|zS<|zP 1 [yH ([(5,{b:=false}),(10,{b:=false}),(16,{b:=false})]++yg [3,4,7,8,9,12,13,14,15])] [.aa [30,3,10,2,1,0] [1]] (yM 3 (yF ((↑(ae ax d.af).length:Int)<1))++yM 4 (yF ((↑(ae ax d.af).length:Int)>8))++yM 5 (yF (d.need<1)))<|dq 30 (d.need>(↑(ae ax d.af).length:Int))<|aW<|zS<|zP 1 [yH [(2,{k:=d.ay.length})]] [.aa [35,30,3,10,2,1,0] [1]] [yI (aC d.ay)]<|bj 35 ((↑d.ay.length:Int) != (↑(ae ax d.af).length:Int)) (by simp_all)<|aW<|zS<|zQ 1 [yH [(2,{k:=(ae ax d.af).length})]] [yR ((ae ax d.af).length)]<|zB 0 (zL (fun (i:Nat)=>(⟨[(38,ai (↑(ae ax d.af).length:Int)),(37,AV.sl 1 (ae ax d.af)),(35,ao ((↑d.ay.length:Int) != (↑(ae ax d.af).length:Int))),(30,ao (decide (d.need>(↑(ae ax d.af).length:Int)))),(3,ai (↑(ae ax d.af).length:Int)),(10,ao (decide ((↑d.box.length:Int)>1024))),(1,AV.addr 1 0),(0,AV.agg (a_ d)),(39,ai i)],[(1,⟨1,false,true,List.map (aB 1) (a_ d)⟩)]⟩:AS)) (fun i=>(i≤d.af.length∧ff (mN d.af) i=0)) (fun i=>(d.af.length-i)) (0) ?_ (zW [.aa [38,37,35,30,3,10,1,0,39] [1]]) ?_)
 ·exact ⟨ah,rfl⟩
 rintro i ⟨hi,h0⟩
 refine zq<|zS (zD 40 ((↑i:Int)<(↑(ae ax d.af).length:Int)) (fun g=>?_) (fun g=>?_))
 ·have cX:i<d.af.length:=ah
  have gh:=ie cX
  have hA:=hh i cX
  have stop:∀e:Int,e≠0->mN d.af i=e->ff (mN d.af) d.af.length=e:=fun e he h1=>by
   have k2:ff (mN d.af) (i+1)=mN d.af i:=by show (if _ then _ else _)=_;rw [if_neg ah]
   rw [jB ah k2 d.af.length ah,h1]
  by_cases c5:eh (d.af.getD i default)=0
  case neg =>
   have k1:=stop _ c5 (I2 rfl c5)
   refine aW<|zS<|zB 1<|zP 1 [yH [(1,{k:=i}),(2,yV (cQ (d.af.getD i default)))]] [.aa [5,4,40,38,37,35,30,3,10,1,0,39] [1]] [yR (↑i:Int),yO (i<(ae ax d.af).length),yI gh]<|zS<|zP 2 [yH [(1,yV (ai (eh (d.af.getD i default))))],{}] [.aa [47,6,5,4,40,38,37,35,30,3,10,1,0,39] [1]] [yI (eE (d.af.getD i default) hA)]<|dm 47 (eh (d.af.getD i default) != (0:Int)) (by simp_all)<|zP 1 [{}] [.aa [2,47,6,5,4,40,38,37,35,30,3,10,1,0,39] [1]] []<|dd<|bc<|aN<|df<|bc<|aN (zV [yJ (eh (d.af.getD i default)) (ff (mN d.af) d.af.length) (by rw [k1])])
  by_cases c6:0<i
  ·obtain ⟨k,hk⟩:∃k,k+1=i:=⟨i-1,ah⟩
   have yP:=ie (l:=d.af) (i:=k) ah
   have c8:=I1 c5 hk
   by_cases c7:F9 (d.af.getD i default) (d.af.getD k default)=true
   ·have k1:=stop 7 ah (by rw [c8,if_pos c7])
    refine aW<|zS<|zB 1<|zP 1 [yH [(1,{k:=i}),(2,yV (cQ (d.af.getD i default)))]] [.aa [5,4,40,38,37,35,30,3,10,1,0,39] [1]] [yR (↑i:Int),yO (i<(ae ax d.af).length),yI gh]<|zS<|zP 2 [yH [(1,yV (ai (eh (d.af.getD i default))))],{}] [.aa [47,6,5,4,40,38,37,35,30,3,10,1,0,39] [1]] [yI (eE (d.af.getD i default) hA)]<|bj 47 (eh (d.af.getD i default) != (0:Int)) (by simp_all)<|aW<|zP 1 [yH [(7,yV (ai ↑k)),(8,{k:=k}),(9,yV (cQ (d.af.getD k default)))]] [.aa [60,47,6,5,4,40,38,37,35,30,3,10,1,0,39] [1]] (yM 5 (yT ((↑i:Int)>0))++ [yB (ai (IntKind.i64.wrap ((↑i:Int)-1))=ai ↑k) (congrArg (fun n=>AV.val (.int .i64 n)) (by rw [IntKind.wrap_i64];omega)),yT ((↑i:Int)>0),yR (↑k:Int),yO (k<(ae ax d.af).length),yT ((↑i:Int)>0),yI yP]++yM 2 (yT ((↑i:Int)>0)))<|dm 60 (Op.bytesLess (ByteArray.mk (d.af.getD i default).toArray).toList (ByteArray.mk (d.af.getD k default).toArray).toList || (ByteArray.mk (d.af.getD i default).toArray).toList == (ByteArray.mk (d.af.getD k default).toArray).toList) (by assumption)<|zq<|zR<|bc<|aN<|df<|bc<|aN (zV [yJ 7 (ff (mN d.af) d.af.length) (by rw [k1])])
   ·have c9:F9 (d.af.getD i default) (d.af.getD k default)=false:=by simpa using c7
    rw [if_neg c7] at c8
    refine aW<|zS<|zB 1<|zP 1 [yH [(1,{k:=i}),(2,yV (cQ (d.af.getD i default)))]] [.aa [5,4,40,38,37,35,30,3,10,1,0,39] [1]] [yR (↑i:Int),yO (i<(ae ax d.af).length),yI gh]<|zS<|zP 2 [yH [(1,yV (ai (eh (d.af.getD i default))))],{}] [.aa [47,6,5,4,40,38,37,35,30,3,10,1,0,39] [1]] [yI (eE (d.af.getD i default) hA)]<|bj 47 (eh (d.af.getD i default) != (0:Int)) (by simp_all)<|aW<|zP 1 [yH [(7,yV (ai ↑k)),(8,{k:=k}),(9,yV (cQ (d.af.getD k default)))]] [.aa [60,47,6,5,4,40,38,37,35,30,3,10,1,0,39] [1]] (yM 5 (yT ((↑i:Int)>0))++ [yB (ai (IntKind.i64.wrap ((↑i:Int)-1))=ai ↑k) (congrArg (fun n=>AV.val (.int .i64 n)) (by rw [IntKind.wrap_i64];omega)),yT ((↑i:Int)>0),yR (↑k:Int),yO (k<(ae ax d.af).length),yT ((↑i:Int)>0),yI yP]++yM 2 (yT ((↑i:Int)>0)))<|bj 60 (Op.bytesLess (ByteArray.mk (d.af.getD i default).toArray).toList (ByteArray.mk (d.af.getD k default).toArray).toList || (ByteArray.mk (d.af.getD i default).toArray).toList == (ByteArray.mk (d.af.getD k default).toArray).toList) (by assumption)<|zK<|aM<|ak<|zX (yH [(0,yV (ai ((↑i:Int)+1)))]) [yN ((↑i:Int)+1)] (aH (i+1) ⟨ah,by show (if _ then _ else _)=_;rw [if_neg ah,c8]⟩ ah (zW [.aa [38,37,35,30,3,10,1,0,39] [1]]))
  ·have e:i=0:=ah
   have h1:mN d.af i=0:=by subst e;exact E2 c5
   refine aW<|zS<|zB 1<|zP 1 [yH [(1,{k:=i}),(2,yV (cQ (d.af.getD i default)))]] [.aa [5,4,40,38,37,35,30,3,10,1,0,39] [1]] [yR (↑i:Int),yO (i<(ae ax d.af).length),yI gh]<|zS<|zP 2 [yH [(1,yV (ai (eh (d.af.getD i default))))],{}] [.aa [47,6,5,4,40,38,37,35,30,3,10,1,0,39] [1]] [yI (eE (d.af.getD i default) hA)]<|bj 47 (eh (d.af.getD i default) != (0:Int)) (by simp_all)<|aW<|zP 1 [yH ([(11,{b:=false})]++yg [3,4,5,6,7,8,9,10])] [.aa [60,47,6,5,4,40,38,37,35,30,3,10,1,0,39] [1]] (yM 9 (yF ((↑i:Int)>0)))<|zF 60<|zK<|aM<|ak<|zX (yH [(0,yV (ai ((↑i:Int)+1)))]) [yN ((↑i:Int)+1)] (aH (i+1) ⟨ah,by show (if _ then _ else _)=_;rw [if_neg ah,h1]⟩ ah (zW [.aa [38,37,35,30,3,10,1,0,39] [1]]))
 ·have e:i=d.af.length:=ah
  subst e
  refine zE 0<|aS<|aK<|bg<|ak<|zq<|zR (zV [yJ 0 (ff (mN d.af) d.af.length) (by rw [h0])])
def MU (d:np):List (List fJ):=[[aJ d.bY],[aJ d.peer],[dY d.box],bF (u64 d.af.length)::d.af.map cz,bF (u64 d.ay.length)::d.ay.map aJ,[aJ (u64 d.need)]]
theorem xd {T:Type} (f:T->fJ) (l:List T) {i:Nat} (h:i<l.length) (z:T):ae dj ((l.take i).map fun x=>[f x])++ [.sl 3 (ae aY [f (l.getD i z)])]=ae dj ((l.take (i+1)).map fun x=>[f x]):=by
 rw [List.take_add_one,List.map_append,←fG,List.getD_eq_getElem?_getD,List.getElem?_eq_getElem h];rfl
theorem wm (d:np) (hB:zZ d):bC Tryz.prog 124 [.agg (a_ d)] (.bk [.own 1 (ae dj (if fH d=0 then MU d else [])),ai (fH d)]):=by
 by_cases c:fH d=0
 case neg =>
  rw [if_neg c]
  refine zO Tryz.func124 72<|zq<|zS<|zP 2 [yH [(1,yV (ai (fH d)))],yH [(1,yV (ao true))]] [.aa [15,4,3,2,1,0] [1]] [yI (vA d hB),yB (ao (fH d != (0:Int))=ao true) (by simp [c])]<|zT 15<|zq<|dd (bL)
 rw [if_pos c,c]
 obtain ⟨o1,o2,o3,o4,o5,o6⟩:=JR c
 have oJ:(ae ax d.af).length=d.af.length:=by rw [aE (e:=1) (fun _=>rfl)];omega
 obtain ⟨v1,v2,v3,v4⟩:=po (xs:=d.af.map cz) (mK fun x hx=>th (o6 x hx)) (by rw [List.length_map];omega) (by rw [List.length_map];omega)
 obtain ⟨w1,w2,w3,w4⟩:=po (xs:=d.ay.map aJ) (mK fun x _=>.uint x) (by rw [List.length_map];omega) (by rw [List.length_map];omega)
 have ha:=rX _ v1 v2 v3
 have hd:=rX _ w1 w2 w3
 rw [v4,List.length_map,List.map_map] at ha
 rw [w4,List.length_map,List.map_map] at hd
 have hc:=vA d hB
 rw [c] at hc
 obtain ⟨b1,b2,b3,hh⟩:=hB
 refine zO Tryz.func124 72<|zq<|zS<|zP 2 [yH [(1,yV (ai 0))],{}] [.aa [15,4,3,2,1,0] [1]] [yI hc]<|zF 15<|aW<|zq<|zS<|zQ 1 [yH [(2,{k:=(ae ax d.af).length})]] [yR ((ae ax d.af).length)]<|zB 0 (zL (fun (i:Nat)=>(⟨[(19,ai (↑(ae ax d.af).length:Int)),(18,AV.sl 1 (ae ax d.af)),(15,ao ((0:Int) != (0:Int))),(4,ai 0),(3,ai 0),(2,AV.nil),(1,AV.addr 1 0),(0,AV.agg (a_ d)),(20,ai i),(5,AV.ref 5),(6,AV.ref 6)],[(5,⟨1,true,false,ae dj ((d.af.take i).map fun x=>[cz x])⟩),(6,⟨1,true,false,ae dj ((d.ay.take i).map fun x=>[aJ x])⟩),(1,⟨1,false,true,a_ d⟩)]⟩:AS)) (fun i=>(i≤d.af.length)) (fun i=>(d.af.length-i)) (0) ?_ (zW [.nil 5 5 1,.nil 6 6 1,.aa [19,18,15,4,3,2,1,0,20,5,6] [5,6,1]]) ?_)
 ·omega
 intro i hi
 refine zq<|zS (zD 21 ((↑i:Int)<(↑(ae ax d.af).length:Int)) (fun g=>?_) (fun g=>?_))
 ·have cX:i<d.af.length:=ah
  have gh:=ie cX
  have yP:=dK (l:=d.ay) (k:=i) ah
  have hA:=hh i cX
  have hz:=qV _ hA
  have s1:=xd cz d.af cX default
  have s2:=xd aJ d.ay (i:=i) ah 0
  refine aW<|zS<|zB 1<|zP 2 [yH [(1,{k:=i}),(2,yV (cQ (d.af.getD i default)))],yH [(2,{av:=some (AV.own 3 (ae aY [cz (d.af.getD i default)])),b:=false})]] [.aa [5,8,7,21,19,18,15,4,3,2,1,0,20,6] [29,6,1]] [yR (↑i:Int),yO (i<(ae ax d.af).length),yI gh,yI (tS (d.af.getD i default)),yB (((ae dj (List.map (fun x↦ [cz x]) (List.take i d.af))).length+1)*24≤140737488355328) (by simp only [List.length_take,List.length_map,aE (f:=dj) (e:=1) (fun _=>rfl)];omega)]<|zX (yH [(4,{k:=i}),(5,yV (aw (d.ay.getD i 0))),(6,{av:=some (AV.own 3 (ae aY [aJ (d.ay.getD i 0)])),b:=false})]) [yR (↑i:Int),yB (i<(aj d.ay).length) (by simp only [aC];omega),yI yP,yI (gX (d.ay.getD i 0)),yB (((ae dj (List.map (fun x↦ [aJ x]) (List.take i d.ay))).length+1)*24≤140737488355328) (by simp only [List.length_take,List.length_map,aE (f:=dj) (e:=1) (fun _=>rfl)];omega)]<|aM<|ak<|zX (yH [(0,yV (ai ((↑i:Int)+1)))]) [yN ((↑i:Int)+1)] (aH (i+1) (by assumption) ah (eu [.vK 29 5,.vK 38 6,.aa [19,18,15,4,3,2,1,0,20,5,6] [5,6,1]] [] [5,6,1] [yI s1,yI s2,yB (List.map (aB 37) (List.map (kJ 38 6) (cK 6 (Row.mk 1 false true (List.map (kJ 29 5) (cK 5 (Row.mk 1 false true (List.map (aB 38) (cK 6 (Row.mk 1 false true (List.map (aB 37) (fR 36 (Row.mk 3 true false (ae aY [aJ (d.ay.getD i 0)])) (Row.mk 1 false true (List.map (aB 36) (List.map (aB 28) (List.map (aB 29) (cK 5 (Row.mk 1 false true (List.map (aB 28) (fR 27 (Row.mk 3 true false (ae aY [cz (d.af.getD i default)])) (Row.mk 1 false true (List.map (aB 27) (a_ d)))).cells))).cells))))).cells))).cells))).cells))).cells)=a_ d) bt]))
 ·have e:i=d.af.length:=ah
  subst e
  have t1:d.af.take d.af.length=d.af:=List.take_length
  have t2:d.ay.take d.af.length=d.ay:=by rw [←o5];exact List.take_length
  rw [t1,t2]
  refine zE 0<|aS<|aK<|bg<|ak<|zP 1 [yH [(1,{av:=some (AV.bk [AV.sl 3 (ae aY (bF (u64 (↑d.af.length:Int))::List.map cz d.af)),ai 0]),b:=false})]] [.aa [10,9,21,19,18,15,4,3,2,1,0,20,5,6] [6,1]] [yI ha]<|zS<|zq<|zF 46<|aW<|zP 1 [yH [(1,{av:=some (AV.bk [AV.sl 3 (ae aY (bF (u64 (↑d.ay.length:Int))::List.map aJ d.ay)),ai 0]),b:=false})]] [.aa [10,11,46,9,21,19,18,15,4,3,2,1,0,20,5,6] [1]] [yI hd]<|zS<|zq<|zF 54<|aW<|zP 1 [{hs:=[(2,{av:=some (AV.own 3 (ae aY [aJ d.bY])),b:=false}),(5,{av:=some (AV.own 3 (ae aY [aJ d.peer])),b:=false}),(8,{av:=some (AV.own 3 (ae aY [dY d.box])),b:=false}),(13,yV (aw (u64 d.need))),(14,{av:=some (AV.own 3 (ae aY [aJ (u64 d.need)])),b:=false})],T:=15}] [.aa [3,2,54,10,11,46,9,21,19,18,15,4,1,0,20,5,6] [71,1]] [yI (gX d.bY),yI (gX d.peer),yI (B6 d.box b1),yI (ba d.need),yI (gX (u64 d.need))]<|zR (bL)
end Go.Proofs.YtjgbhhnghedgdaaGreatDoor
