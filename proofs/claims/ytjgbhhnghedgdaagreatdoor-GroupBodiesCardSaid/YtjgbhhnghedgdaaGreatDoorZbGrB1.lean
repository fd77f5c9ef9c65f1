import Derived.Test.YtjgbhhnghedgdaaGreatDoorZbTk3
set_option linter.all false
namespace Go.Proofs.YtjgbhhnghedgdaaGreatDoor
open Go.RowKit
set_option maxRecDepth 100000
set_option maxHeartbeats 4000000
def gk (e:eP):eP :=
 if e.kind=1 then {e with name:=[],kh:=0,kr:=0} else if e.kind=2 then {e with name:=[]} else if e.kind=3 then {e with bA:=0} else
 if e.kind=4 then {e with dep:=⟨0,0,[],[],[],0,e.dep.target⟩} else {e with bZ:=0,target:=0}
structure L7 (f:eP) (R:Bool):Prop where
 bad:(f.dep.bZ≠0∨f.dep.peer≠0∨f.dep.box.length≠0∨f.dep.af.length≠0∨f.dep.au.length≠0∨f.dep.need≠0∨f.dep.target≠0∨f.name≠ []∨ ¬(f.kh=0∧f.kr=0)∨f.bA≠0∨f.bZ≠0∨f.target≠0)->R=true
 mH:f.dep.bZ=0->f.dep.peer=0->f.dep.box.length=0->f.dep.af.length=0->f.dep.au.length=0->f.dep.need=0->f.dep.target=0->f.name= []->f.kh=0∧f.kr=0->f.bA=0->f.bZ=0->f.target=0->R=false
theorem JY {x:UInt64} (h:wv x=0):x=0:=by
 have h:((x.toNat:Nat):Int)=0:=h
 exact UInt64.toNat_inj.1 (by rw [show x.toNat=0 by omega];rfl)
theorem zl {h:Int} {r:UInt64} (g:¬(!(h == 0 && (wv r == 0 && true)))=true):h=0∧r=0:=by
 simp at g
 exact ⟨g.1,JY g.2⟩
theorem EZ {h:Int} {r:UInt64} (g:(!(h == 0 && (wv r == 0 && true)))=true):¬(h=0∧r=0):=by
 rintro ⟨rfl,rfl⟩
 exact absurd g (by decide)
theorem E0 (e:eP) (h1:1≤e.kind) (h5:e.kind≤5):L7 (gk e) (decide (¬fi e)):=by
 have key:((gk e).dep.bZ=0∧(gk e).dep.peer=0∧(gk e).dep.box.length=0∧(gk e).dep.af.length=0∧(gk e).dep.au.length=0∧(gk e).dep.need=0∧(gk e).dep.target=0∧(gk e).name= []∧((gk e).kh=0∧(gk e).kr=0)∧(gk e).bA=0∧(gk e).bZ=0∧(gk e).target=0)↔fi e:=by
  unfold gk fi vd
  by_cases k1:e.kind=1
  ·rw [if_pos k1];simp [k1];grind
  rw [if_neg k1]
  by_cases k2:e.kind=2
  ·rw [if_pos k2];simp [k2];grind
  rw [if_neg k2]
  by_cases k3:e.kind=3
  ·rw [if_pos k3];simp [k3];grind
  rw [if_neg k3]
  by_cases k4:e.kind=4
  ·rw [if_pos k4];simp [k4];grind
  rw [if_neg k4]
  have k5:e.kind=5:=aj
  simp [k5];grind
 refine ⟨fun h=>?_,fun a b c d e f g h i j k l=>?_⟩
 ·rw [decide_eq_true_iff]
  intro q
  obtain ⟨a,b,c,d,m,f,g,o,i,j,k,l⟩:=key.2 q
  clear key
  generalize gk e=z at *
  rcases h with q|q|q|q|q|q|q|q|q|q|q|q<;>contradiction
 ·rw [decide_eq_false_iff_not]
  exact fun q=>q (key.1 ⟨a,b,c,d,e,f,g,h,i,j,k,l⟩)
def P5:List (Nat×Nat):=[(9,1),(10,1),(11,1)]
theorem jF (e:eP) (h1:1≤e.kind) (h5:e.kind≤5):bL Tryz.prog 73 [.agg (a7 e)] (ao (decide (¬fi e))):=by
 refine zO Tryz.func73 94<|zq (bf.oM (fun (f:eP)=>(⟨[(2,ao false),(1,AV.addr 1 0),(0,AV.agg (a7 e))],[(1,⟨1,false,true,a7 f⟩)]⟩:AS)) (fun f=>(f=gk e)) bk ?_ ?_)
 ·by_cases k1:e.kind=1
  ·have hf:gk e= {e with name:=[],kh:=0,kr:=0}:=if_pos k1
   refine zq<|zB 0<|zP 1 [{}] [.aa [7,6,2,1,0] [1]] []<|dB 7 (e.kind == (1:Int)) fg<|zQ 1 [{}] [yL 4 17]<|zX {} [yL 6 17]<|aL<|aq (⟨(gk e),rfl,(eQ [.aa [2,1,0] [1]] [] [1] [yB (List.take 4 ((List.map (aE 1) (a7 e)).set 3 (AV.val (Value.string (ByteArray.mk #[]))))++ [ai 0,cQ]++List.drop 6 ((List.map (aE 1) (a7 e)).set 3 (AV.val (Value.string (ByteArray.mk #[]))))=a7 (gk e)) (by rw [hf];rfl)])⟩)
  by_cases k2:e.kind=2
  ·have hf:gk e= {e with name:=[]}:=by unfold gk;rw [if_neg k1,if_pos k2]
   refine zq<|zB 0<|zP 1 [{}] [.aa [7,6,2,1,0] [1]] []<|bn 7 (e.kind == (1:Int)) bE<|zq<|dB 12 (e.kind == (2:Int)) fg<|zX {} [yL 4 17]<|aL<|aq (⟨(gk e),rfl,(eQ [.aa [2,1,0] [1]] [] [1] [yB ((List.map (aE 1) (a7 e)).set 3 (AV.val (Value.string (ByteArray.mk #[])))=a7 (gk e)) (by rw [hf];rfl)])⟩)
  by_cases k3:e.kind=3
  ·have hf:gk e= {e with bA:=0}:=by unfold gk;rw [if_neg k1,if_neg k2,if_pos k3]
   refine zq<|zB 0<|zP 1 [{}] [.aa [7,6,2,1,0] [1]] []<|bn 7 (e.kind == (1:Int)) bE<|zq<|bn 12 (e.kind == (2:Int)) bE<|zP 1 [{}] [.aa [15,12,7,6,2,1,0] [1]] []<|dB 15 (e.kind == (3:Int)) fg<|zX {} [yL 7 17]<|aL<|aq (⟨(gk e),rfl,(eQ [.aa [2,1,0] [1]] [] [1] [yB ((List.map (aE 1) (a7 e)).set 6 (ai 0)=a7 (gk e)) (by rw [hf];rfl)])⟩)
  by_cases k4:e.kind=4
  ·have hf:gk e= {e with dep:=⟨0,0,[],[],[],0,e.dep.target⟩}:=by unfold gk;rw [if_neg k1,if_neg k2,if_neg k3,if_pos k4]
   refine zq<|zB 0<|zP 1 [{}] [.aa [7,6,2,1,0] [1]] []<|bn 7 (e.kind == (1:Int)) bE<|zq<|bn 12 (e.kind == (2:Int)) bE<|zP 1 [{}] [.aa [15,12,7,6,2,1,0] [1]] []<|bn 15 (e.kind == (3:Int)) bE<|zq<|dB 18 (e.kind == (4:Int)) fg<|zX {} [yL 14 17]<|aL<|aq<|MF (bS.ME 1 P5 bk) (⟨(gk e),rfl,(eQ [.aa [2,1,0] [1]] [] [1] [yB (JL P5 (BS (AS.mk [(24,AV.addr 1 7),(23,AV.agg [cQ,cQ,AV.nil,AV.nil,AV.nil,ai 0,aw e.dep.target]),(22,aw e.dep.target),(21,AV.addr 1 13),(20,AV.addr 1 7),(18,ao (e.kind == (4:Int))),(19,ao (e.kind == (4:Int))),(15,ao (e.kind == (3:Int))),(12,ao (e.kind == (2:Int))),(7,ao (e.kind == (1:Int))),(6,ai e.kind),(2,ao false),(1,AV.addr 1 0),(0,AV.agg (a7 e))] [(1,Row.mk 1 false true (List.take 7 (List.map (aE 1) (a7 e))++ [cQ,cQ,AV.nil,AV.nil,AV.nil,ai 0,aw e.dep.target]++List.drop 14 (List.map (aE 1) (a7 e))))]) 1).cells 0=a7 (gk e)) (by rw [hf];rfl)])⟩)
  have hf:gk e= {e with bZ:=0,target:=0}:=by unfold gk;rw [if_neg k1,if_neg k2,if_neg k3,if_neg k4]
  refine zq<|zB 0<|zP 1 [{}] [.aa [7,6,2,1,0] [1]] []<|bn 7 (e.kind == (1:Int)) bE<|zq<|bn 12 (e.kind == (2:Int)) bE<|zP 1 [{}] [.aa [15,12,7,6,2,1,0] [1]] []<|bn 15 (e.kind == (3:Int)) bE<|zq<|bn 18 (e.kind == (4:Int)) bE<|zP 1 [{}] [.aa [25,18,15,12,7,6,2,1,0] [1]] []<|dB 25 (e.kind == (5:Int)) fg<|zQ 1 [{}] [yL 15 17]<|zX {} [yL 16 17]<|aL<|aq (⟨(gk e),rfl,(eQ [.aa [2,1,0] [1]] [] [1] [yB (((List.map (aE 1) (a7 e)).set 14 (cQ)).set 15 (cQ)=a7 (gk e)) (by rw [hf];rfl)])⟩)
 intro f hf
 have hb:L7 f (decide (¬fi e)):=by rw [hf];exact E0 e h1 h5
 have PF:(ae ay f.dep.af).length=f.dep.af.length:=by rw [aG (e:=1) (fun _=>rfl)];omega
 generalize decide (¬fi e)=R at *
 clear hf h1 h5
 refine zP 1 [{}] [.aa [3,2,1,0] [3,1]] [yL 7 7] ((Classical.em (f.dep.bZ=0)).symm.elim (fun g1=>?_) (fun g1=>?_))
 ·skip
  refine zP 2 [yH [(2,yV (ao (f.dep.bZ != 0)))],{}] [.aa [2,4,3,1,0] [3,1]] ([yI (cN f.dep.bZ 0)]++yM 4 (yB ((f.dep.bZ != 0)=true) (by simp_all))++yM 44 (yR true))<|zR (zV [yB (Value.bool true=Value.bool R) (by rw [hb.bad (.inl g1)])])
 refine (Classical.em (f.dep.peer=0)).symm.elim (fun g2=>?_) (fun g2=>?_)
 ·skip
  refine zP 2 [yH ([(2,yV (ao (f.dep.bZ != 0))),(6,{av:=some (ao (f.dep.peer != 0)),g:=false}),(7,{b:=false})]++yg [4,5]),{}] [.aa [2,4,3,1,0] [3,1]] ([yI (cN f.dep.bZ 0)]++yM 3 (yB ((f.dep.bZ != 0)=false) (by simp_all))++ [yI (cN f.dep.peer 0),yB ((f.dep.bZ != 0)=false) (by simp_all)]++yM 5 (yB ((f.dep.peer != 0)=true) (by simp_all))++yM 39 (yR true))<|zR (zV [yB (Value.bool true=Value.bool R) (by rw [hb.bad (.inr (.inl g2))])])
 refine (Classical.em ((↑f.dep.box.length:Int)=0)).symm.elim (fun g3=>?_) (fun g3=>?_)
 ·skip
  refine zP 2 [yH ([(2,yV (ao (f.dep.bZ != 0))),(6,{av:=some (ao (f.dep.peer != 0)),g:=false}),(7,{b:=false}),(11,{k:=f.dep.box.length,g:=false}),(13,{b:=false})]++yg [4,5,9,10,12]),{}] [.aa [2,4,3,1,0] [3,1]] ([yI (cN f.dep.bZ 0)]++yM 3 (yB ((f.dep.bZ != 0)=false) (by simp_all))++ [yI (cN f.dep.peer 0),yB ((f.dep.bZ != 0)=false) (by simp_all)]++yM 3 (yB ((f.dep.peer != 0)=false) (by simp_all))++ [yI (aA f.dep.box)]++yM 2 (yB ((f.dep.peer != 0)=false) (by simp_all))++yM 5 (yB (((↑f.dep.box.length:Int) != (0:Int))=true) (by simp_all))++yM 34 (yR true))<|zR (zV [yB (Value.bool true=Value.bool R) (by rw [hb.bad (.inr (.inr (.inl aj)))])])
 refine (Classical.em ((↑(ae ay f.dep.af).length:Int)=0)).symm.elim (fun g4=>?_) (fun g4=>?_)
 ·skip
  refine zP 2 [yH ([(2,yV (ao (f.dep.bZ != 0))),(6,{av:=some (ao (f.dep.peer != 0)),g:=false}),(7,{b:=false}),(11,{k:=f.dep.box.length,g:=false}),(13,{b:=false}),(17,{k:=(ae ay f.dep.af).length,g:=false}),(19,{b:=false})]++yg [4,5,9,10,12,15,16,18]),{}] [.aa [2,4,3,1,0] [3,1]] ([yI (cN f.dep.bZ 0)]++yM 3 (yB ((f.dep.bZ != 0)=false) (by simp_all))++ [yI (cN f.dep.peer 0),yB ((f.dep.bZ != 0)=false) (by simp_all)]++yM 3 (yB ((f.dep.peer != 0)=false) (by simp_all))++ [yI (aA f.dep.box)]++yM 2 (yB ((f.dep.peer != 0)=false) (by simp_all))++yM 3 (yB (((↑f.dep.box.length:Int) != (0:Int))=false) (by simp_all))++ [yR ((ae ay f.dep.af).length)]++yM 2 (yB (((↑f.dep.box.length:Int) != (0:Int))=false) (by simp_all))++yM 5 (yB (((↑(ae ay f.dep.af).length:Int) != (0:Int))=true) (by simp_all))++yM 29 (yR true))<|zR (zV [yB (Value.bool true=Value.bool R) (by rw [hb.bad (.inr (.inr (.inr (.inl aj))))])])
 refine (Classical.em ((↑f.dep.au.length:Int)=0)).symm.elim (fun g5=>?_) (fun g5=>?_)
 ·skip
  refine zP 2 [yH ([(2,yV (ao (f.dep.bZ != 0))),(6,{av:=some (ao (f.dep.peer != 0)),g:=false}),(7,{b:=false}),(11,{k:=f.dep.box.length,g:=false}),(13,{b:=false}),(17,{k:=(ae ay f.dep.af).length,g:=false}),(19,{b:=false}),(23,{k:=f.dep.au.length,g:=false}),(25,{b:=false})]++yg [4,5,9,10,12,15,16,18,21,22,24]),{}] [.aa [2,4,3,1,0] [3,1]] ([yI (cN f.dep.bZ 0)]++yM 3 (yB ((f.dep.bZ != 0)=false) (by simp_all))++ [yI (cN f.dep.peer 0),yB ((f.dep.bZ != 0)=false) (by simp_all)]++yM 3 (yB ((f.dep.peer != 0)=false) (by simp_all))++ [yI (aA f.dep.box)]++yM 2 (yB ((f.dep.peer != 0)=false) (by simp_all))++yM 3 (yB (((↑f.dep.box.length:Int) != (0:Int))=false) (by simp_all))++ [yR ((ae ay f.dep.af).length)]++yM 2 (yB (((↑f.dep.box.length:Int) != (0:Int))=false) (by simp_all))++yM 3 (yB (((↑(ae ay f.dep.af).length:Int) != (0:Int))=false) (by simp_all))++ [yB ((ah f.dep.au).length=f.dep.au.length) (aC _)]++yM 2 (yB (((↑(ae ay f.dep.af).length:Int) != (0:Int))=false) (by simp_all))++yM 4 (yB (((↑f.dep.au.length:Int) != (0:Int))=true) (by simp_all))++yM 25 (yR true))<|zR (zV [yB (Value.bool true=Value.bool R) (by rw [hb.bad (.inr (.inr (.inr (.inr (.inl aj)))))])])
 refine (Classical.em (f.dep.need=0)).symm.elim (fun g6=>?_) (fun g6=>?_)
 ·skip
  refine zP 2 [yH ([(2,yV (ao (f.dep.bZ != 0))),(6,{av:=some (ao (f.dep.peer != 0)),g:=false}),(7,{b:=false}),(11,{k:=f.dep.box.length,g:=false}),(13,{b:=false}),(17,{k:=(ae ay f.dep.af).length,g:=false}),(19,{b:=false}),(23,{k:=f.dep.au.length,g:=false}),(25,{b:=false}),(30,{b:=false})]++yg [4,5,9,10,12,15,16,18,21,22,24,27,28,29]),{}] [.aa [2,4,3,1,0] [3,1]] ([yI (cN f.dep.bZ 0)]++yM 3 (yB ((f.dep.bZ != 0)=false) (by simp_all))++ [yI (cN f.dep.peer 0),yB ((f.dep.bZ != 0)=false) (by simp_all)]++yM 3 (yB ((f.dep.peer != 0)=false) (by simp_all))++ [yI (aA f.dep.box)]++yM 2 (yB ((f.dep.peer != 0)=false) (by simp_all))++yM 3 (yB (((↑f.dep.box.length:Int) != (0:Int))=false) (by simp_all))++ [yR ((ae ay f.dep.af).length)]++yM 2 (yB (((↑f.dep.box.length:Int) != (0:Int))=false) (by simp_all))++yM 3 (yB (((↑(ae ay f.dep.af).length:Int) != (0:Int))=false) (by simp_all))++ [yB ((ah f.dep.au).length=f.dep.au.length) (aC _)]++yM 2 (yB (((↑(ae ay f.dep.af).length:Int) != (0:Int))=false) (by simp_all))++yM 4 (yB (((↑f.dep.au.length:Int) != (0:Int))=false) (by simp_all))++yM 4 (yB ((f.dep.need != (0:Int))=true) (by simp_all))++yM 21 (yR true))<|zR (zV [yB (Value.bool true=Value.bool R) (by rw [hb.bad (.inr (.inr (.inr (.inr (.inr (.inl g6))))))])])
 refine zP 1 [yH ([(2,yV (ao (f.dep.bZ != 0))),(6,{av:=some (ao (f.dep.peer != 0)),g:=false}),(7,{b:=false}),(11,{k:=f.dep.box.length,g:=false}),(13,{b:=false}),(17,{k:=(ae ay f.dep.af).length,g:=false}),(19,{b:=false}),(23,{k:=f.dep.au.length,g:=false}),(25,{b:=false}),(30,{b:=false}),(34,{av:=some (ao (f.dep.target != 0)),g:=false}),(35,{b:=false})]++yg [4,5,9,10,12,15,16,18,21,22,24,27,28,29,32,33])] [.aa [4,3,2,1,0] [3,1]] ([yI (cN f.dep.bZ 0)]++yM 3 (yB ((f.dep.bZ != 0)=false) (by simp_all))++ [yI (cN f.dep.peer 0),yB ((f.dep.bZ != 0)=false) (by simp_all)]++yM 3 (yB ((f.dep.peer != 0)=false) (by simp_all))++ [yI (aA f.dep.box)]++yM 2 (yB ((f.dep.peer != 0)=false) (by simp_all))++yM 3 (yB (((↑f.dep.box.length:Int) != (0:Int))=false) (by simp_all))++ [yR ((ae ay f.dep.af).length)]++yM 2 (yB (((↑f.dep.box.length:Int) != (0:Int))=false) (by simp_all))++yM 3 (yB (((↑(ae ay f.dep.af).length:Int) != (0:Int))=false) (by simp_all))++ [yB ((ah f.dep.au).length=f.dep.au.length) (aC _)]++yM 2 (yB (((↑(ae ay f.dep.af).length:Int) != (0:Int))=false) (by simp_all))++yM 4 (yB (((↑f.dep.au.length:Int) != (0:Int))=false) (by simp_all))++yM 3 (yB ((f.dep.need != (0:Int))=false) (by simp_all))++ [yI (cN f.dep.target 0),yB ((f.dep.need != (0:Int))=false) (by simp_all)]) ((Classical.em (f.dep.target=0)).symm.elim (fun g7=>?_) (fun g7=>?_))
 ·skip
  refine zP 1 [{}] [.aa [2,4,3,1,0] [3,1]] (yM 4 (yB ((f.dep.target != 0)=true) (by simp_all))++yM 17 (yR true))<|zR (zV [yB (Value.bool true=Value.bool R) (by rw [hb.bad (.inr (.inr (.inr (.inr (.inr (.inr (.inl g7)))))))])])
 refine (Classical.em (f.name= [])).symm.elim (fun g8=>?_) (fun g8=>?_)
 ·skip
  refine zP 1 [yH ([(4,{av:=some (ao (f.name != [])),g:=false}),(5,{b:=false})]++yg [2,3])] [.aa [2,4,3,1,0] [3,1]] (yM 3 (yB ((f.dep.target != 0)=false) (by simp_all))++ [yB (ao (!(ByteArray.mk f.name.toArray).toList == (ByteArray.mk #[]).toList)=ao (f.name != [])) (Mo (f.name) ([])),yB ((f.dep.target != 0)=false) (by simp_all)]++yM 5 (yB ((f.name != [])=true) (by simp_all))++yM 12 (yR true))<|zR (zV [yB (Value.bool true=Value.bool R) (by rw [hb.bad (.inr (.inr (.inr (.inr (.inr (.inr (.inr (.inl g8))))))))])])
 refine (Classical.em ((!(f.kh == (0:Int) && (wv f.kr == (0:Int) && true)))=true)).elim (fun g9=>?_) (fun g9=>?_)
 ·have Sr:¬(f.kh=0∧f.kr=0):=EZ g9
  refine zP 1 [yH ([(4,{av:=some (ao (f.name != [])),g:=false}),(5,{b:=false}),(11,{b:=false})]++yg [2,3,7,8,9,10])] [.aa [2,4,3,1,0] [3,1]] (yM 3 (yB ((f.dep.target != 0)=false) (by simp_all))++ [yB (ao (!(ByteArray.mk f.name.toArray).toList == (ByteArray.mk #[]).toList)=ao (f.name != [])) (by simp_all),yB ((f.dep.target != 0)=false) (by simp_all)]++yM 5 (yB ((f.name != [])=false) (by simp_all))++yM 4 (yI g9)++yM 8 (yR true))<|zR (zV [yB (Value.bool true=Value.bool R) (by rw [hb.bad (.inr (.inr (.inr (.inr (.inr (.inr (.inr (.inr (.inl Sr)))))))))])])
 refine (Classical.em (f.bA=0)).symm.elim (fun g10=>?_) (fun g10=>?_)
 ·skip
  refine zP 1 [yH ([(4,{av:=some (ao (f.name != [])),g:=false}),(5,{b:=false}),(11,{b:=false}),(16,{b:=false})]++yg [2,3,7,8,9,10,13,14,15])] [.aa [2,4,3,1,0] [3,1]] (yM 3 (yB ((f.dep.target != 0)=false) (by simp_all))++ [yB (ao (!(ByteArray.mk f.name.toArray).toList == (ByteArray.mk #[]).toList)=ao (f.name != [])) (by simp_all),yB ((f.dep.target != 0)=false) (by simp_all)]++yM 5 (yB ((f.name != [])=false) (by simp_all))++yM 4 (yB ((!(f.kh == (0:Int) && (wv f.kr == (0:Int) && true)))=false) (by simp_all))++yM 4 (yB ((f.bA != (0:Int))=true) (by simp_all))++yM 4 (yR true))<|zR (zV [yB (Value.bool true=Value.bool R) (by rw [hb.bad (.inr (.inr (.inr (.inr (.inr (.inr (.inr (.inr (.inr (.inl g10))))))))))])])
 refine (Classical.em (f.bZ=0)).symm.elim (fun g11=>?_) (fun g11=>?_)
 ·skip
  refine zP 1 [yH ([(4,{av:=some (ao (f.name != [])),g:=false}),(5,{b:=false}),(11,{b:=false}),(16,{b:=false}),(20,{av:=some (ao (f.bZ != 0)),g:=false}),(21,{b:=false})]++yg [2,3,7,8,9,10,13,14,15,18,19])] [.aa [2,4,3,1,0] [3,1]] (yM 3 (yB ((f.dep.target != 0)=false) (by simp_all))++ [yB (ao (!(ByteArray.mk f.name.toArray).toList == (ByteArray.mk #[]).toList)=ao (f.name != [])) (by simp_all),yB ((f.dep.target != 0)=false) (by simp_all)]++yM 5 (yB ((f.name != [])=false) (by simp_all))++yM 4 (yB ((!(f.kh == (0:Int) && (wv f.kr == (0:Int) && true)))=false) (by simp_all))++yM 3 (yB ((f.bA != (0:Int))=false) (by simp_all))++ [yI (cN f.bZ 0),yB ((f.bA != (0:Int))=false) (by simp_all)]++yM 4 (yB ((f.bZ != 0)=true) (by simp_all)))<|zR (zV [yB (Value.bool true=Value.bool R) (by rw [hb.bad (.inr (.inr (.inr (.inr (.inr (.inr (.inr (.inr (.inr (.inr (.inl g11)))))))))))])])
 have Sr:f.kh=0∧f.kr=0:=zl g9
 by_cases g12:f.target=0
 ·skip
  refine zP 1 [yH ([(4,{av:=some (ao (f.name != [])),g:=false}),(5,{b:=false}),(11,{b:=false}),(16,{b:=false}),(20,{av:=some (ao (f.bZ != 0)),g:=false}),(21,{b:=false}),(25,{av:=some (ao (f.target != 0)),g:=false}),(26,{b:=false})]++yg [2,3,7,8,9,10,13,14,15,18,19,23,24])] [.aa [2,4,3,1,0] [3,1]] (yM 3 (yB ((f.dep.target != 0)=false) (by simp_all))++ [yB (ao (!(ByteArray.mk f.name.toArray).toList == (ByteArray.mk #[]).toList)=ao (f.name != [])) (by simp_all),yB ((f.dep.target != 0)=false) (by simp_all)]++yM 5 (yB ((f.name != [])=false) (by simp_all))++yM 4 (yB ((!(f.kh == (0:Int) && (wv f.kr == (0:Int) && true)))=false) (by simp_all))++yM 3 (yB ((f.bA != (0:Int))=false) (by simp_all))++ [yB (ao (wv f.bZ != (0:Int))=ao (f.bZ != 0)) (by simp_all),yB ((f.bA != (0:Int))=false) (by simp_all)]++yM 3 (yB ((f.bZ != 0)=false) (by simp_all))++ [yB (ao (wv f.target != (0:Int))=ao (f.target != 0)) (by simp_all),yB ((f.bZ != 0)=false) (by simp_all)])<|zR (zV [yB (Value.bool (f.target != 0)=Value.bool R) (by rw [hb.mH g1 g2 aj aj aj g6 g7 g8 Sr g10 g11 g12];simp [g12])])
 ·skip
  refine zP 1 [yH ([(4,{av:=some (ao (f.name != [])),g:=false}),(5,{b:=false}),(11,{b:=false}),(16,{b:=false}),(20,{av:=some (ao (f.bZ != 0)),g:=false}),(21,{b:=false}),(25,{av:=some (ao (f.target != 0)),g:=false}),(26,{b:=false})]++yg [2,3,7,8,9,10,13,14,15,18,19,23,24])] [.aa [2,4,3,1,0] [3,1]] (yM 3 (yB ((f.dep.target != 0)=false) (by simp_all))++ [yB (ao (!(ByteArray.mk f.name.toArray).toList == (ByteArray.mk #[]).toList)=ao (f.name != [])) (by simp_all),yB ((f.dep.target != 0)=false) (by simp_all)]++yM 5 (yB ((f.name != [])=false) (by simp_all))++yM 4 (yB ((!(f.kh == (0:Int) && (wv f.kr == (0:Int) && true)))=false) (by simp_all))++yM 3 (yB ((f.bA != (0:Int))=false) (by simp_all))++ [yB (ao (wv f.bZ != (0:Int))=ao (f.bZ != 0)) (by simp_all),yB ((f.bA != (0:Int))=false) (by simp_all)]++yM 3 (yB ((f.bZ != 0)=false) (by simp_all))++ [yI (cN f.target 0),yB ((f.bZ != 0)=false) (by simp_all)])<|zR (zV [yB (Value.bool (f.target != 0)=Value.bool R) (by rw [hb.bad (.inr (.inr (.inr (.inr (.inr (.inr (.inr (.inr (.inr (.inr (.inr g12)))))))))))];simp [g12])])
structure yU (d:na):Prop where
 box:d.box.length≤1000000
 AB:d.af.length≤1000000
 Nx:d.au.length≤1000000
 OW:∀i,i<d.af.length->(d.af.getD i default).length≤1000
theorem vi (d:na) (hB:yU d):bL Tryz.prog 161 [.agg (bg d)] (ai (fF d)):=by
 have uG:(ae ay d.af).length=d.af.length:=by rw [aG (e:=1) (fun _=>rfl)];omega
 obtain ⟨b1,b2,b3,hh⟩:=hB
 by_cases c1:1024<d.box.length
 ·have e:fF d=8:=if_pos c1
  refine zO Tryz.func161 62<|zq<|zS<|zP 1 [yH [(2,{k:=d.box.length})]] [.aa [10,2,1,0] [1]] [yI (aA d.box)]<|gU 10 ((↑d.box.length:Int)>1024)<|zq<|dn (zV [yJ 8 (fF d) (by rw [e])])
 by_cases c2:nP d.af.length d.need
 ·have e:fF d=9:=by unfold fF;rw [if_neg c1,if_pos c2]
  unfold nP at c2
  by_cases k1:d.af.length<1
  ·refine zO Tryz.func161 62<|zq<|zS<|zP 1 [yH [(2,{k:=d.box.length})]] [.aa [10,2,1,0] [1]] [yI (aA d.box)]<|dt 10 ((↑d.box.length:Int)>1024)<|a_<|zP 1 [yH [(2,{k:=(ae ay d.af).length})]] [.aa [3,10,2,1,0] [1]] [yR ((ae ay d.af).length)]<|zS<|zP 1 [{}] [.aa [30,3,10,2,1,0] [1]] (yM 3 (yT ((↑(ae ay d.af).length:Int)<1))++yM 9 (yR true))<|zT 30<|zq<|dn (zV [yJ 9 (fF d) (by rw [e])])
  by_cases k2:8<d.af.length
  ·refine zO Tryz.func161 62<|zq<|zS<|zP 1 [yH [(2,{k:=d.box.length})]] [.aa [10,2,1,0] [1]] [yI (aA d.box)]<|dt 10 ((↑d.box.length:Int)>1024)<|a_<|zP 1 [yH [(2,{k:=(ae ay d.af).length})]] [.aa [3,10,2,1,0] [1]] [yR ((ae ay d.af).length)]<|zS<|zP 1 [yH ([(5,{b:=false})]++yg [3,4])] [.aa [30,3,10,2,1,0] [1]] (yM 3 (yF ((↑(ae ay d.af).length:Int)<1))++yM 4 (yT ((↑(ae ay d.af).length:Int)>8))++yM 5 (yR true))<|zT 30<|zq<|dn (zV [yJ 9 (fF d) (by rw [e])])
  by_cases k3:d.need<1
  ·refine zO Tryz.func161 62<|zq<|zS<|zP 1 [yH [(2,{k:=d.box.length})]] [.aa [10,2,1,0] [1]] [yI (aA d.box)]<|dt 10 ((↑d.box.length:Int)>1024)<|a_<|zP 1 [yH [(2,{k:=(ae ay d.af).length})]] [.aa [3,10,2,1,0] [1]] [yR ((ae ay d.af).length)]<|zS<|zP 1 [yH ([(5,{b:=false}),(10,{b:=false})]++yg [3,4,7,8,9])] [.aa [30,3,10,2,1,0] [1]] (yM 3 (yF ((↑(ae ay d.af).length:Int)<1))++yM 4 (yF ((↑(ae ay d.af).length:Int)>8))++yM 5 (yT (d.need<1)))<|zT 30<|zq<|dn (zV [yJ 9 (fF d) (by rw [e])])
  ·refine zO Tryz.func161 62<|zq<|zS<|zP 1 [yH [(2,{k:=d.box.length})]] [.aa [10,2,1,0] [1]] [yI (aA d.box)]<|dt 10 ((↑d.box.length:Int)>1024)<|a_<|zP 1 [yH [(2,{k:=(ae ay d.af).length})]] [.aa [3,10,2,1,0] [1]] [yR ((ae ay d.af).length)]<|zS<|zP 1 [yH ([(5,{b:=false}),(10,{b:=false}),(16,{b:=false})]++yg [3,4,7,8,9,12,13,14,15])] [.aa [30,3,10,2,1,0] [1]] (yM 3 (yF ((↑(ae ay d.af).length:Int)<1))++yM 4 (yF ((↑(ae ay d.af).length:Int)>8))++yM 5 (yF (d.need<1)))<|gU 30 (d.need>(↑(ae ay d.af).length:Int))<|zq<|dn (zV [yJ 9 (fF d) (by rw [e])])
 by_cases c3:d.au.length≠d.af.length
 ·have e:fF d=4:=by unfold fF;rw [if_neg c1,if_neg c2,if_pos c3]
  unfold nP at c2
  refine zO Tryz.func161 62<|zq<|zS<|zP 1 [yH [(2,{k:=d.box.length})]] [.aa [10,2,1,0] [1]] [yI (aA d.box)]<|dt 10 ((↑d.box.length:Int)>1024)<|a_<|zP 1 [yH [(2,{k:=(ae ay d.af).length})]] [.aa [3,10,2,1,0] [1]] [yR ((ae ay d.af).length)]<|zS<|zP 1 [yH ([(5,{b:=false}),(10,{b:=false}),(16,{b:=false})]++yg [3,4,7,8,9,12,13,14,15])] [.aa [30,3,10,2,1,0] [1]] (yM 3 (yF ((↑(ae ay d.af).length:Int)<1))++yM 4 (yF ((↑(ae ay d.af).length:Int)>8))++yM 5 (yF (d.need<1)))<|dt 30 (d.need>(↑(ae ay d.af).length:Int))<|a_<|zS<|zP 1 [yH [(2,{k:=d.au.length})]] [.aa [35,30,3,10,2,1,0] [1]] [yB ((ah d.au).length=d.au.length) (aC _)]<|dB 35 ((↑d.au.length:Int) != (↑(ae ay d.af).length:Int)) (by simp;omega)<|zq<|dn (zV [yJ 4 (fF d) (by rw [e])])
 have e:fF d=ff (mF d.af) d.af.length:=by unfold fF;rw [if_neg c1,if_neg c2,if_neg c3]
 rw [e]
 have VB:d.au.length=d.af.length:=aj
 unfold nP at c2
 refine zO Tryz.func161 62<|zq<|zS<|zP 1 [yH [(2,{k:=d.box.length})]] [.aa [10,2,1,0] [1]] [yI (aA d.box)]<|dt 10 ((↑d.box.length:Int)>1024)<|a_<|zP 1 [yH [(2,{k:=(ae ay d.af).length})]] [.aa [3,10,2,1,0] [1]] [yR ((ae ay d.af).length)]<|zS<|zP 1 [yH ([(5,{b:=false}),(10,{b:=false}),(16,{b:=false})]++yg [3,4,7,8,9,12,13,14,15])] [.aa [30,3,10,2,1,0] [1]] (yM 3 (yF ((↑(ae ay d.af).length:Int)<1))++yM 4 (yF ((↑(ae ay d.af).length:Int)>8))++yM 5 (yF (d.need<1)))<|dt 30 (d.need>(↑(ae ay d.af).length:Int))<|a_<|zS<|zP 1 [yH [(2,{k:=d.au.length})]] [.aa [35,30,3,10,2,1,0] [1]] [yB ((ah d.au).length=d.au.length) (aC _)]<|bn 35 ((↑d.au.length:Int) != (↑(ae ay d.af).length:Int)) (by simp_all)<|a_<|zS<|zQ 1 [yH [(2,{k:=(ae ay d.af).length})]] [yR ((ae ay d.af).length)]<|zB 0 (zL (fun (i:Nat)=>(⟨[(38,ai (↑(ae ay d.af).length:Int)),(37,AV.sl 1 (ae ay d.af)),(35,ao ((↑d.au.length:Int) != (↑(ae ay d.af).length:Int))),(30,ao (decide (d.need>(↑(ae ay d.af).length:Int)))),(3,ai (↑(ae ay d.af).length:Int)),(10,ao (decide ((↑d.box.length:Int)>1024))),(1,AV.addr 1 0),(0,AV.agg (bg d)),(39,ai i)],[(1,⟨1,false,true,List.map (aE 1) (bg d)⟩)]⟩:AS)) (fun i=>(i≤d.af.length∧ff (mF d.af) i=0)) (fun i=>(d.af.length-i)) (0) ?_ (zW [.aa [38,37,35,30,3,10,1,0,39] [1]]) ?_)
 ·exact ⟨aj,rfl⟩
 rintro i ⟨hi,h0⟩
 refine zq<|zS (zD 40 ((↑i:Int)<(↑(ae ay d.af).length:Int)) (fun g=>?_) (fun g=>?_))
 ·have dM:i<d.af.length:=aj
  have gN:=js dM
  have hA:=hh i dM
  have stop:∀e:Int,e≠0->mF d.af i=e->ff (mF d.af) d.af.length=e:=fun e he h1=>by
   have k2:ff (mF d.af) (i+1)=mF d.af i:=by show (if _ then _ else _)=_;rw [if_neg aj]
   rw [lg aj k2 d.af.length aj,h1]
  by_cases c5:eg (d.af.getD i default)=0
  case neg =>
   have k1:=stop _ c5 (Im rfl c5)
   refine a_<|zS<|zB 1<|zP 1 [yH [(1,{k:=i}),(2,yV (cF (d.af.getD i default)))]] [.aa [5,4,40,38,37,35,30,3,10,1,0,39] [1]] [yR (↑i:Int),yO (i<(ae ay d.af).length),yI gN]<|zS<|zP 2 [yH [(1,yV (ai (eg (d.af.getD i default))))],{}] [.aa [47,6,5,4,40,38,37,35,30,3,10,1,0,39] [1]] [yI (eF (d.af.getD i default) hA)]<|dB 47 (eg (d.af.getD i default) != (0:Int)) (by simp_all)<|zP 1 [{}] [.aa [2,47,6,5,4,40,38,37,35,30,3,10,1,0,39] [1]] []<|dn<|a6<|aI<|de<|a6<|aI (zV [yJ (eg (d.af.getD i default)) (ff (mF d.af) d.af.length) (by rw [k1])])
  by_cases c6:0<i
  ·obtain ⟨k,hk⟩:∃k,k+1=i:=⟨i-1,aj⟩
   have xU:=js (l:=d.af) (i:=k) aj
   have c8:=Il c5 hk
   by_cases c7:Fq (d.af.getD i default) (d.af.getD k default)=true
   ·have k1:=stop 7 aj (by rw [c8,if_pos c7])
    refine a_<|zS<|zB 1<|zP 1 [yH [(1,{k:=i}),(2,yV (cF (d.af.getD i default)))]] [.aa [5,4,40,38,37,35,30,3,10,1,0,39] [1]] [yR (↑i:Int),yO (i<(ae ay d.af).length),yI gN]<|zS<|zP 2 [yH [(1,yV (ai (eg (d.af.getD i default))))],{}] [.aa [47,6,5,4,40,38,37,35,30,3,10,1,0,39] [1]] [yI (eF (d.af.getD i default) hA)]<|bn 47 (eg (d.af.getD i default) != (0:Int)) (by simp_all)<|a_<|zP 1 [yH [(7,yV (ai ↑k)),(8,{k:=k}),(9,yV (cF (d.af.getD k default)))]] [.aa [60,47,6,5,4,40,38,37,35,30,3,10,1,0,39] [1]] (yM 5 (yT ((↑i:Int)>0))++ [yB (ai (IntKind.i64.wrap ((↑i:Int)-1))=ai ↑k) (congrArg (fun n=>AV.val (.int .i64 n)) (by rw [IntKind.wrap_i64];omega)),yT ((↑i:Int)>0),yR (↑k:Int),yO (k<(ae ay d.af).length),yT ((↑i:Int)>0),yI xU]++yM 2 (yT ((↑i:Int)>0)))<|dB 60 (Op.bytesLess (ByteArray.mk (d.af.getD i default).toArray).toList (ByteArray.mk (d.af.getD k default).toArray).toList || (ByteArray.mk (d.af.getD i default).toArray).toList == (ByteArray.mk (d.af.getD k default).toArray).toList) (by assumption)<|zq<|zR<|a6<|aI<|de<|a6<|aI (zV [yJ 7 (ff (mF d.af) d.af.length) (by rw [k1])])
   ·have c9:Fq (d.af.getD i default) (d.af.getD k default)=false:=by simpa using c7
    rw [if_neg c7] at c8
    refine a_<|zS<|zB 1<|zP 1 [yH [(1,{k:=i}),(2,yV (cF (d.af.getD i default)))]] [.aa [5,4,40,38,37,35,30,3,10,1,0,39] [1]] [yR (↑i:Int),yO (i<(ae ay d.af).length),yI gN]<|zS<|zP 2 [yH [(1,yV (ai (eg (d.af.getD i default))))],{}] [.aa [47,6,5,4,40,38,37,35,30,3,10,1,0,39] [1]] [yI (eF (d.af.getD i default) hA)]<|bn 47 (eg (d.af.getD i default) != (0:Int)) (by simp_all)<|a_<|zP 1 [yH [(7,yV (ai ↑k)),(8,{k:=k}),(9,yV (cF (d.af.getD k default)))]] [.aa [60,47,6,5,4,40,38,37,35,30,3,10,1,0,39] [1]] (yM 5 (yT ((↑i:Int)>0))++ [yB (ai (IntKind.i64.wrap ((↑i:Int)-1))=ai ↑k) (congrArg (fun n=>AV.val (.int .i64 n)) (by rw [IntKind.wrap_i64];omega)),yT ((↑i:Int)>0),yR (↑k:Int),yO (k<(ae ay d.af).length),yT ((↑i:Int)>0),yI xU]++yM 2 (yT ((↑i:Int)>0)))<|bn 60 (Op.bytesLess (ByteArray.mk (d.af.getD i default).toArray).toList (ByteArray.mk (d.af.getD k default).toArray).toList || (ByteArray.mk (d.af.getD i default).toArray).toList == (ByteArray.mk (d.af.getD k default).toArray).toList) (by assumption)<|zK<|aL<|aq<|zX (yH [(0,yV (ai ((↑i:Int)+1)))]) [yN ((↑i:Int)+1)] (aK (i+1) ⟨aj,by show (if _ then _ else _)=_;rw [if_neg aj,c8]⟩ aj (zW [.aa [38,37,35,30,3,10,1,0,39] [1]]))
  ·have e:i=0:=aj
   have h1:mF d.af i=0:=by subst e;exact Er c5
   refine a_<|zS<|zB 1<|zP 1 [yH [(1,{k:=i}),(2,yV (cF (d.af.getD i default)))]] [.aa [5,4,40,38,37,35,30,3,10,1,0,39] [1]] [yR (↑i:Int),yO (i<(ae ay d.af).length),yI gN]<|zS<|zP 2 [yH [(1,yV (ai (eg (d.af.getD i default))))],{}] [.aa [47,6,5,4,40,38,37,35,30,3,10,1,0,39] [1]] [yI (eF (d.af.getD i default) hA)]<|bn 47 (eg (d.af.getD i default) != (0:Int)) (by simp_all)<|a_<|zP 1 [yH ([(11,{b:=false})]++yg [3,4,5,6,7,8,9,10])] [.aa [60,47,6,5,4,40,38,37,35,30,3,10,1,0,39] [1]] (yM 9 (yF ((↑i:Int)>0)))<|zF 60<|zK<|aL<|aq<|zX (yH [(0,yV (ai ((↑i:Int)+1)))]) [yN ((↑i:Int)+1)] (aK (i+1) ⟨aj,by show (if _ then _ else _)=_;rw [if_neg aj,h1]⟩ aj (zW [.aa [38,37,35,30,3,10,1,0,39] [1]]))
 ·have e:i=d.af.length:=aj
  subst e
  refine zE 0<|ba<|aS<|br<|aq<|zq<|zR (zV [yJ 0 (ff (mF d.af) d.af.length) (by rw [h0])])
def Mk (d:na):List (List fH):=[[aH d.bZ],[aH d.peer],[dZ d.box],bD (u64 d.af.length)::d.af.map cC,bD (u64 d.au.length)::d.au.map aH,[aH (u64 d.need)]]
theorem wI {T:Type} (f:T->fH) (l:List T) {i:Nat} (h:i<l.length) (z:T):ae di ((l.take i).map fun x=>[f x])++ [.sl 3 (ae aT [f (l.getD i z)])]=ae di ((l.take (i+1)).map fun x=>[f x]):=by
 rw [List.take_add_one,List.map_append,←fE,List.getD_eq_getElem?_getD,List.getElem?_eq_getElem h];rfl
theorem vK (d:na) (hB:yU d):bL Tryz.prog 124 [.agg (bg d)] (.bt [.own 1 (ae di (if fF d=0 then Mk d else [])),ai (fF d)]):=by
 by_cases c:fF d=0
 case neg =>
  rw [if_neg c]
  refine zO Tryz.func124 72<|zq<|zS<|zP 2 [yH [(1,yV (ai (fF d)))],yH [(1,yV (ao true))]] [.aa [15,4,3,2,1,0] [1]] [yI (vi d hB),yB (ao (fF d != (0:Int))=ao true) (by simp [c])]<|zT 15<|zq<|dn (bR)
 rw [if_pos c,c]
 obtain ⟨o1,o2,o3,o4,o5,o6⟩:=Jh c
 have uG:(ae ay d.af).length=d.af.length:=by rw [aG (e:=1) (fun _=>rfl)];omega
 obtain ⟨v1,v2,v3,v4⟩:=o_ (xs:=d.af.map cC) (mC fun x hx=>sY (o6 x hx)) (by rw [List.length_map];omega) (by rw [List.length_map];omega)
 obtain ⟨w1,w2,w3,w4⟩:=o_ (xs:=d.au.map aH) (mC fun x _=>.uint x) (by rw [List.length_map];omega) (by rw [List.length_map];omega)
 have ha:=rH _ v1 v2 v3
 have hd:=rH _ w1 w2 w3
 rw [v4,List.length_map,List.map_map] at ha
 rw [w4,List.length_map,List.map_map] at hd
 have hc:=vi d hB
 rw [c] at hc
 obtain ⟨b1,b2,b3,hh⟩:=hB
 refine zO Tryz.func124 72<|zq<|zS<|zP 2 [yH [(1,yV (ai 0))],{}] [.aa [15,4,3,2,1,0] [1]] [yI hc]<|zF 15<|a_<|zq<|zS<|zQ 1 [yH [(2,{k:=(ae ay d.af).length})]] [yR ((ae ay d.af).length)]<|zB 0 (zL (fun (i:Nat)=>(⟨[(19,ai (↑(ae ay d.af).length:Int)),(18,AV.sl 1 (ae ay d.af)),(15,ao ((0:Int) != (0:Int))),(4,ai 0),(3,ai 0),(2,AV.nil),(1,AV.addr 1 0),(0,AV.agg (bg d)),(20,ai i),(5,AV.ref 5),(6,AV.ref 6)],[(5,⟨1,true,false,ae di ((d.af.take i).map fun x=>[cC x])⟩),(6,⟨1,true,false,ae di ((d.au.take i).map fun x=>[aH x])⟩),(1,⟨1,false,true,bg d⟩)]⟩:AS)) (fun i=>(i≤d.af.length)) (fun i=>(d.af.length-i)) (0) ?_ (zW [.nil 5 5 1,.nil 6 6 1,.aa [19,18,15,4,3,2,1,0,20,5,6] [5,6,1]]) ?_)
 ·omega
 intro i hi
 refine zq<|zS (zD 21 ((↑i:Int)<(↑(ae ay d.af).length:Int)) (fun g=>?_) (fun g=>?_))
 ·have dM:i<d.af.length:=aj
  have gN:=js dM
  have xU:=eE (l:=d.au) (k:=i) aj
  have hA:=hh i dM
  have hz:=qI _ hA
  have s1:=wI cC d.af dM default
  have s2:=wI aH d.au (i:=i) aj 0
  refine a_<|zS<|zB 1<|zP 2 [yH [(1,{k:=i}),(2,yV (cF (d.af.getD i default)))],yH [(2,{av:=some (AV.own 3 (ae aT [cC (d.af.getD i default)])),b:=false})]] [.aa [5,8,7,21,19,18,15,4,3,2,1,0,20,6] [29,6,1]] [yR (↑i:Int),yO (i<(ae ay d.af).length),yI gN,yI (tF (d.af.getD i default)),yB (((ae di (List.map (fun x↦ [cC x]) (List.take i d.af))).length+1)*24≤140737488355328) (by simp only [List.length_take,List.length_map,aG (f:=di) (e:=1) (fun _=>rfl)];omega)]<|zX (yH [(4,{k:=i}),(5,yV (aw (d.au.getD i 0))),(6,{av:=some (AV.own 3 (ae aT [aH (d.au.getD i 0)])),b:=false})]) [yR (↑i:Int),yB (i<(ah d.au).length) (by simp only [aC];omega),yI xU,yI (gY (d.au.getD i 0)),yB (((ae di (List.map (fun x↦ [aH x]) (List.take i d.au))).length+1)*24≤140737488355328) (by simp only [List.length_take,List.length_map,aG (f:=di) (e:=1) (fun _=>rfl)];omega)]<|aL<|aq<|zX (yH [(0,yV (ai ((↑i:Int)+1)))]) [yN ((↑i:Int)+1)] (aK (i+1) (by assumption) aj (eQ [.vp 29 5,.vp 38 6,.aa [19,18,15,4,3,2,1,0,20,5,6] [5,6,1]] [] [5,6,1] [yI s1,yI s2,yB (List.map (aE 37) (List.map (kG 38 6) (cP 6 (Row.mk 1 false true (List.map (kG 29 5) (cP 5 (Row.mk 1 false true (List.map (aE 38) (cP 6 (Row.mk 1 false true (List.map (aE 37) (gD 36 (Row.mk 3 true false (ae aT [aH (d.au.getD i 0)])) (Row.mk 1 false true (List.map (aE 36) (List.map (aE 28) (List.map (aE 29) (cP 5 (Row.mk 1 false true (List.map (aE 28) (gD 27 (Row.mk 3 true false (ae aT [cC (d.af.getD i default)])) (Row.mk 1 false true (List.map (aE 27) (bg d)))).cells))).cells))))).cells))).cells))).cells))).cells)=bg d) bk]))
 ·have e:i=d.af.length:=aj
  subst e
  have t1:d.af.take d.af.length=d.af:=List.take_length
  have t2:d.au.take d.af.length=d.au:=by rw [←o5];exact List.take_length
  rw [t1,t2]
  refine zE 0<|ba<|aS<|br<|aq<|zP 1 [yH [(1,{av:=some (AV.bt [AV.sl 3 (ae aT (bD (u64 (↑d.af.length:Int))::List.map cC d.af)),ai 0]),b:=false})]] [.aa [10,9,21,19,18,15,4,3,2,1,0,20,5,6] [6,1]] [yI ha]<|zS<|zq<|zF 46<|a_<|zP 1 [yH [(1,{av:=some (AV.bt [AV.sl 3 (ae aT (bD (u64 (↑d.au.length:Int))::List.map aH d.au)),ai 0]),b:=false})]] [.aa [10,11,46,9,21,19,18,15,4,3,2,1,0,20,5,6] [1]] [yI hd]<|zS<|zq<|zF 54<|a_<|zP 1 [{hs:=[(2,{av:=some (AV.own 3 (ae aT [aH d.bZ])),b:=false}),(5,{av:=some (AV.own 3 (ae aT [aH d.peer])),b:=false}),(8,{av:=some (AV.own 3 (ae aT [dZ d.box])),b:=false}),(13,yV (aw (u64 d.need))),(14,{av:=some (AV.own 3 (ae aT [aH (u64 d.need)])),b:=false})],T:=15}] [.aa [3,2,54,10,11,46,9,21,19,18,15,4,1,0,20,5,6] [71,1]] [yI (gY d.bZ),yI (gY d.peer),yI (Bk d.box b1),yI (aY d.need),yI (gY (u64 d.need))]<|zR (bR)
end Go.Proofs.YtjgbhhnghedgdaaGreatDoor
