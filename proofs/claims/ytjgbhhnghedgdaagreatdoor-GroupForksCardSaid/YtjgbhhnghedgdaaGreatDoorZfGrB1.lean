import Derived.Test.YtjgbhhnghedgdaaGreatDoorZfTk3
set_option linter.all false
namespace Go.Proofs.YtjgbhhnghedgdaaGreatDoor
open Go.RowKit
set_option maxRecDepth 100000
set_option maxHeartbeats 4000000
def gI (e:dj):dj :=
 if e.kind=1 then {e with name:=[],kh:=0,kr:=0} else if e.kind=2 then {e with name:=[]} else if e.kind=3 then {e with bm:=0} else
 if e.kind=4 then {e with dep:=⟨0,0,[],[],[],0,e.dep.target⟩} else {e with cm:=0,target:=0}
structure NI (f:dj) (R:Bool):Prop where
 bad:(f.dep.cm≠0∨f.dep.peer≠0∨f.dep.box.length≠0∨f.dep.af.length≠0∨f.dep.ay.length≠0∨f.dep.need≠0∨f.dep.target≠0∨f.name≠ []∨ ¬(f.kh=0∧f.kr=0)∨f.bm≠0∨f.cm≠0∨f.target≠0)->R=true
 m7:f.dep.cm=0->f.dep.peer=0->f.dep.box.length=0->f.dep.af.length=0->f.dep.ay.length=0->f.dep.need=0->f.dep.target=0->f.name= []->f.kh=0∧f.kr=0->f.bm=0->f.cm=0->f.target=0->R=false
theorem Lq {x:UInt64} (h:wv x=0):x=0:=by
 have h:((x.toNat:Nat):Int)=0:=h
 exact UInt64.toNat_inj.1 (by rw [show x.toNat=0 by omega];rfl)
theorem A8 {h:Int} {r:UInt64} (g:¬(!(h == 0 && (wv r == 0 && true)))=true):h=0∧r=0:=by
 simp at g
 exact ⟨g.1,Lq g.2⟩
theorem Gu {h:Int} {r:UInt64} (g:(!(h == 0 && (wv r == 0 && true)))=true):¬(h=0∧r=0):=by
 rintro ⟨rfl,rfl⟩
 exact absurd g (by decide)
theorem Gv (e:dj) (h1:1≤e.kind) (h5:e.kind≤5):NI (gI e) (decide (¬fW e)):=by
 have key:((gI e).dep.cm=0∧(gI e).dep.peer=0∧(gI e).dep.box.length=0∧(gI e).dep.af.length=0∧(gI e).dep.ay.length=0∧(gI e).dep.need=0∧(gI e).dep.target=0∧(gI e).name= []∧((gI e).kh=0∧(gI e).kr=0)∧(gI e).bm=0∧(gI e).cm=0∧(gI e).target=0)↔fW e:=by
  unfold gI fW wz
  by_cases k1:e.kind=1
  ·rw [if_pos k1];simp [k1];grind
  rw [if_neg k1]
  by_cases k2:e.kind=2
  ·rw [if_pos k2];simp [k2];grind
  rw [if_neg k2]
  by_cases k3:e.kind=3
  ·rw [if_pos k3];simp [k3];grind
  rw [if_neg k3]
  by_cases k4:e.kind=4
  ·rw [if_pos k4];simp [k4];grind
  rw [if_neg k4]
  have k5:e.kind=5:=ag
  simp [k5];grind
 refine ⟨fun h=>?_,fun a b c d e f g h i j k l=>?_⟩
 ·rw [decide_eq_true_iff]
  intro q
  obtain ⟨a,b,c,d,m,f,g,o,i,j,k,l⟩:=key.2 q
  clear key
  generalize gI e=z at *
  rcases h with q|q|q|q|q|q|q|q|q|q|q|q<;>contradiction
 ·rw [decide_eq_false_iff_not]
  exact fun q=>q (key.1 ⟨a,b,c,d,e,f,g,h,i,j,k,l⟩)
def RN:List (Nat×Nat):=[(9,1),(10,1),(11,1)]
theorem jT (e:dj) (h1:1≤e.kind) (h5:e.kind≤5):bA Tryz.prog 73 [.agg (aG e)] (ao (decide (¬fW e))):=by
 refine zO Tryz.func73 94<|zq (bf.pr (fun (f:dj)=>(⟨[(2,ao false),(1,AV.addr 1 0),(0,AV.agg (aG e))],[(1,⟨1,false,true,aG f⟩)]⟩:AS)) (fun f=>(f=gI e)) bC ?_ ?_)
 ·by_cases k1:e.kind=1
  ·have hf:gI e= {e with name:=[],kh:=0,kr:=0}:=if_pos k1
   refine zq<|zB 0<|zP 1 [{}] [.aa [7,6,2,1,0] [1]] []<|du 7 (e.kind == (1:Int)) fh<|zQ 1 [{}] [yL 4 17]<|zX {} [yL 6 17]<|aK<|al (⟨(gI e),rfl,(eX [.aa [2,1,0] [1]] [] [1] [yB (List.take 4 ((List.map (aH 1) (aG e)).set 3 (AV.val (Value.string (ByteArray.mk #[]))))++ [ai 0,dY]++List.drop 6 ((List.map (aH 1) (aG e)).set 3 (AV.val (Value.string (ByteArray.mk #[]))))=aG (gI e)) (by rw [hf];rfl)])⟩)
  by_cases k2:e.kind=2
  ·have hf:gI e= {e with name:=[]}:=by unfold gI;rw [if_neg k1,if_pos k2]
   refine zq<|zB 0<|zP 1 [{}] [.aa [7,6,2,1,0] [1]] []<|bj 7 (e.kind == (1:Int)) bx<|zq<|du 12 (e.kind == (2:Int)) fh<|zX {} [yL 4 17]<|aK<|al (⟨(gI e),rfl,(eX [.aa [2,1,0] [1]] [] [1] [yB ((List.map (aH 1) (aG e)).set 3 (AV.val (Value.string (ByteArray.mk #[])))=aG (gI e)) (by rw [hf];rfl)])⟩)
  by_cases k3:e.kind=3
  ·have hf:gI e= {e with bm:=0}:=by unfold gI;rw [if_neg k1,if_neg k2,if_pos k3]
   refine zq<|zB 0<|zP 1 [{}] [.aa [7,6,2,1,0] [1]] []<|bj 7 (e.kind == (1:Int)) bx<|zq<|bj 12 (e.kind == (2:Int)) bx<|zP 1 [{}] [.aa [15,12,7,6,2,1,0] [1]] []<|du 15 (e.kind == (3:Int)) fh<|zX {} [yL 7 17]<|aK<|al (⟨(gI e),rfl,(eX [.aa [2,1,0] [1]] [] [1] [yB ((List.map (aH 1) (aG e)).set 6 (ai 0)=aG (gI e)) (by rw [hf];rfl)])⟩)
  by_cases k4:e.kind=4
  ·have hf:gI e= {e with dep:=⟨0,0,[],[],[],0,e.dep.target⟩}:=by unfold gI;rw [if_neg k1,if_neg k2,if_neg k3,if_pos k4]
   refine zq<|zB 0<|zP 1 [{}] [.aa [7,6,2,1,0] [1]] []<|bj 7 (e.kind == (1:Int)) bx<|zq<|bj 12 (e.kind == (2:Int)) bx<|zP 1 [{}] [.aa [15,12,7,6,2,1,0] [1]] []<|bj 15 (e.kind == (3:Int)) bx<|zq<|du 18 (e.kind == (4:Int)) fh<|zX {} [yL 14 17]<|aK<|al<|Ow (bO.Ot 1 RN bC) (⟨(gI e),rfl,(eX [.aa [2,1,0] [1]] [] [1] [yB (LC RN (Gz (AS.mk [(24,AV.addr 1 7),(23,AV.agg [dY,dY,AV.nil,AV.nil,AV.nil,ai 0,aw e.dep.target]),(22,aw e.dep.target),(21,AV.addr 1 13),(20,AV.addr 1 7),(18,ao (e.kind == (4:Int))),(19,ao (e.kind == (4:Int))),(15,ao (e.kind == (3:Int))),(12,ao (e.kind == (2:Int))),(7,ao (e.kind == (1:Int))),(6,ai e.kind),(2,ao false),(1,AV.addr 1 0),(0,AV.agg (aG e))] [(1,Row.mk 1 false true (List.take 7 (List.map (aH 1) (aG e))++ [dY,dY,AV.nil,AV.nil,AV.nil,ai 0,aw e.dep.target]++List.drop 14 (List.map (aH 1) (aG e))))]) 1).cells 0=aG (gI e)) (by rw [hf];rfl)])⟩)
  have hf:gI e= {e with cm:=0,target:=0}:=by unfold gI;rw [if_neg k1,if_neg k2,if_neg k3,if_neg k4]
  refine zq<|zB 0<|zP 1 [{}] [.aa [7,6,2,1,0] [1]] []<|bj 7 (e.kind == (1:Int)) bx<|zq<|bj 12 (e.kind == (2:Int)) bx<|zP 1 [{}] [.aa [15,12,7,6,2,1,0] [1]] []<|bj 15 (e.kind == (3:Int)) bx<|zq<|bj 18 (e.kind == (4:Int)) bx<|zP 1 [{}] [.aa [25,18,15,12,7,6,2,1,0] [1]] []<|du 25 (e.kind == (5:Int)) fh<|zQ 1 [{}] [yL 15 17]<|zX {} [yL 16 17]<|aK<|al (⟨(gI e),rfl,(eX [.aa [2,1,0] [1]] [] [1] [yB (((List.map (aH 1) (aG e)).set 14 (dY)).set 15 (dY)=aG (gI e)) (by rw [hf];rfl)])⟩)
 intro f hf
 have hb:NI f (decide (¬fW e)):=by rw [hf];exact Gv e h1 h5
 have Ss:(ae au f.dep.af).length=f.dep.af.length:=by rw [aA (e:=1) (fun _=>rfl)];omega
 generalize decide (¬fW e)=R at *
 clear hf h1 h5
 refine zP 1 [{}] [.aa [3,2,1,0] [3,1]] [yL 7 7] ((Classical.em (f.dep.cm=0)).symm.elim (fun g1=>?_) (fun g1=>?_))
 ·skip
  refine zP 2 [yH [(2,yV (ao (f.dep.cm != 0)))],{}] [.aa [2,4,3,1,0] [3,1]] ([yI (cK f.dep.cm 0)]++yM 4 (yS ((f.dep.cm != 0)=true))++yM 44 (yR true))<|zR (zV [yB (Value.bool true=Value.bool R) (by rw [hb.bad (.inl g1)])])
 refine (Classical.em (f.dep.peer=0)).symm.elim (fun g2=>?_) (fun g2=>?_)
 ·skip
  refine zP 2 [yH ([(2,yV (ao (f.dep.cm != 0))),(6,{av:=some (ao (f.dep.peer != 0)),g:=false}),(7,{b:=false})]++yg [4,5]),{}] [.aa [2,4,3,1,0] [3,1]] ([yI (cK f.dep.cm 0)]++yM 3 (yS ((f.dep.cm != 0)=false))++ [yI (cK f.dep.peer 0),yS ((f.dep.cm != 0)=false)]++yM 5 (yS ((f.dep.peer != 0)=true))++yM 39 (yR true))<|zR (zV [yB (Value.bool true=Value.bool R) (by rw [hb.bad (.inr (.inl g2))])])
 refine (Classical.em ((↑f.dep.box.length:Int)=0)).symm.elim (fun g3=>?_) (fun g3=>?_)
 ·skip
  refine zP 2 [yH ([(2,yV (ao (f.dep.cm != 0))),(6,{av:=some (ao (f.dep.peer != 0)),g:=false}),(7,{b:=false}),(11,{k:=f.dep.box.length,g:=false}),(13,{b:=false})]++yg [4,5,9,10,12]),{}] [.aa [2,4,3,1,0] [3,1]] ([yI (cK f.dep.cm 0)]++yM 3 (yS ((f.dep.cm != 0)=false))++ [yI (cK f.dep.peer 0),yS ((f.dep.cm != 0)=false)]++yM 3 (yS ((f.dep.peer != 0)=false))++ [yI (aB f.dep.box)]++yM 2 (yS ((f.dep.peer != 0)=false))++yM 5 (yS (((↑f.dep.box.length:Int) != (0:Int))=true))++yM 34 (yR true))<|zR (zV [yB (Value.bool true=Value.bool R) (by rw [hb.bad (.inr (.inr (.inl ag)))])])
 refine (Classical.em ((↑(ae au f.dep.af).length:Int)=0)).symm.elim (fun g4=>?_) (fun g4=>?_)
 ·skip
  refine zP 2 [yH ([(2,yV (ao (f.dep.cm != 0))),(6,{av:=some (ao (f.dep.peer != 0)),g:=false}),(7,{b:=false}),(11,{k:=f.dep.box.length,g:=false}),(13,{b:=false}),(17,{k:=(ae au f.dep.af).length,g:=false}),(19,{b:=false})]++yg [4,5,9,10,12,15,16,18]),{}] [.aa [2,4,3,1,0] [3,1]] ([yI (cK f.dep.cm 0)]++yM 3 (yS ((f.dep.cm != 0)=false))++ [yI (cK f.dep.peer 0),yS ((f.dep.cm != 0)=false)]++yM 3 (yS ((f.dep.peer != 0)=false))++ [yI (aB f.dep.box)]++yM 2 (yS ((f.dep.peer != 0)=false))++yM 3 (yS (((↑f.dep.box.length:Int) != (0:Int))=false))++ [yR ((ae au f.dep.af).length)]++yM 2 (yS (((↑f.dep.box.length:Int) != (0:Int))=false))++yM 5 (yS (((↑(ae au f.dep.af).length:Int) != (0:Int))=true))++yM 29 (yR true))<|zR (zV [yB (Value.bool true=Value.bool R) (by rw [hb.bad (.inr (.inr (.inr (.inl ag))))])])
 refine (Classical.em ((↑f.dep.ay.length:Int)=0)).symm.elim (fun g5=>?_) (fun g5=>?_)
 ·skip
  refine zP 2 [yH ([(2,yV (ao (f.dep.cm != 0))),(6,{av:=some (ao (f.dep.peer != 0)),g:=false}),(7,{b:=false}),(11,{k:=f.dep.box.length,g:=false}),(13,{b:=false}),(17,{k:=(ae au f.dep.af).length,g:=false}),(19,{b:=false}),(23,{k:=f.dep.ay.length,g:=false}),(25,{b:=false})]++yg [4,5,9,10,12,15,16,18,21,22,24]),{}] [.aa [2,4,3,1,0] [3,1]] ([yI (cK f.dep.cm 0)]++yM 3 (yS ((f.dep.cm != 0)=false))++ [yI (cK f.dep.peer 0),yS ((f.dep.cm != 0)=false)]++yM 3 (yS ((f.dep.peer != 0)=false))++ [yI (aB f.dep.box)]++yM 2 (yS ((f.dep.peer != 0)=false))++yM 3 (yS (((↑f.dep.box.length:Int) != (0:Int))=false))++ [yR ((ae au f.dep.af).length)]++yM 2 (yS (((↑f.dep.box.length:Int) != (0:Int))=false))++yM 3 (yS (((↑(ae au f.dep.af).length:Int) != (0:Int))=false))++ [yI (aE f.dep.ay)]++yM 2 (yS (((↑(ae au f.dep.af).length:Int) != (0:Int))=false))++yM 4 (yS (((↑f.dep.ay.length:Int) != (0:Int))=true))++yM 25 (yR true))<|zR (zV [yB (Value.bool true=Value.bool R) (by rw [hb.bad (.inr (.inr (.inr (.inr (.inl ag)))))])])
 refine (Classical.em (f.dep.need=0)).symm.elim (fun g6=>?_) (fun g6=>?_)
 ·skip
  refine zP 2 [yH ([(2,yV (ao (f.dep.cm != 0))),(6,{av:=some (ao (f.dep.peer != 0)),g:=false}),(7,{b:=false}),(11,{k:=f.dep.box.length,g:=false}),(13,{b:=false}),(17,{k:=(ae au f.dep.af).length,g:=false}),(19,{b:=false}),(23,{k:=f.dep.ay.length,g:=false}),(25,{b:=false}),(30,{b:=false})]++yg [4,5,9,10,12,15,16,18,21,22,24,27,28,29]),{}] [.aa [2,4,3,1,0] [3,1]] ([yI (cK f.dep.cm 0)]++yM 3 (yS ((f.dep.cm != 0)=false))++ [yI (cK f.dep.peer 0),yS ((f.dep.cm != 0)=false)]++yM 3 (yS ((f.dep.peer != 0)=false))++ [yI (aB f.dep.box)]++yM 2 (yS ((f.dep.peer != 0)=false))++yM 3 (yS (((↑f.dep.box.length:Int) != (0:Int))=false))++ [yR ((ae au f.dep.af).length)]++yM 2 (yS (((↑f.dep.box.length:Int) != (0:Int))=false))++yM 3 (yS (((↑(ae au f.dep.af).length:Int) != (0:Int))=false))++ [yI (aE f.dep.ay)]++yM 2 (yS (((↑(ae au f.dep.af).length:Int) != (0:Int))=false))++yM 4 (yS (((↑f.dep.ay.length:Int) != (0:Int))=false))++yM 4 (yS ((f.dep.need != (0:Int))=true))++yM 21 (yR true))<|zR (zV [yB (Value.bool true=Value.bool R) (by rw [hb.bad (.inr (.inr (.inr (.inr (.inr (.inl g6))))))])])
 refine zP 1 [yH ([(2,yV (ao (f.dep.cm != 0))),(6,{av:=some (ao (f.dep.peer != 0)),g:=false}),(7,{b:=false}),(11,{k:=f.dep.box.length,g:=false}),(13,{b:=false}),(17,{k:=(ae au f.dep.af).length,g:=false}),(19,{b:=false}),(23,{k:=f.dep.ay.length,g:=false}),(25,{b:=false}),(30,{b:=false}),(34,{av:=some (ao (f.dep.target != 0)),g:=false}),(35,{b:=false})]++yg [4,5,9,10,12,15,16,18,21,22,24,27,28,29,32,33])] [.aa [4,3,2,1,0] [3,1]] ([yI (cK f.dep.cm 0)]++yM 3 (yS ((f.dep.cm != 0)=false))++ [yI (cK f.dep.peer 0),yS ((f.dep.cm != 0)=false)]++yM 3 (yS ((f.dep.peer != 0)=false))++ [yI (aB f.dep.box)]++yM 2 (yS ((f.dep.peer != 0)=false))++yM 3 (yS (((↑f.dep.box.length:Int) != (0:Int))=false))++ [yR ((ae au f.dep.af).length)]++yM 2 (yS (((↑f.dep.box.length:Int) != (0:Int))=false))++yM 3 (yS (((↑(ae au f.dep.af).length:Int) != (0:Int))=false))++ [yI (aE f.dep.ay)]++yM 2 (yS (((↑(ae au f.dep.af).length:Int) != (0:Int))=false))++yM 4 (yS (((↑f.dep.ay.length:Int) != (0:Int))=false))++yM 3 (yS ((f.dep.need != (0:Int))=false))++ [yI (cK f.dep.target 0),yS ((f.dep.need != (0:Int))=false)]) ((Classical.em (f.dep.target=0)).symm.elim (fun g7=>?_) (fun g7=>?_))
 ·skip
  refine zP 1 [{}] [.aa [2,4,3,1,0] [3,1]] (yM 4 (yS ((f.dep.target != 0)=true))++yM 17 (yR true))<|zR (zV [yB (Value.bool true=Value.bool R) (by rw [hb.bad (.inr (.inr (.inr (.inr (.inr (.inr (.inl g7)))))))])])
 refine (Classical.em (f.name= [])).symm.elim (fun g8=>?_) (fun g8=>?_)
 ·skip
  refine zP 1 [yH ([(4,{av:=some (ao (f.name != [])),g:=false}),(5,{b:=false})]++yg [2,3])] [.aa [2,4,3,1,0] [3,1]] (yM 3 (yS ((f.dep.target != 0)=false))++ [yI (N8 f.name []),yS ((f.dep.target != 0)=false)]++yM 5 (yS ((f.name != [])=true))++yM 12 (yR true))<|zR (zV [yB (Value.bool true=Value.bool R) (by rw [hb.bad (.inr (.inr (.inr (.inr (.inr (.inr (.inr (.inl g8))))))))])])
 refine (Classical.em ((!(f.kh == (0:Int) && (wv f.kr == (0:Int) && true)))=true)).elim (fun g9=>?_) (fun g9=>?_)
 ·have Ul:¬(f.kh=0∧f.kr=0):=Gu g9
  refine zP 1 [yH ([(4,{av:=some (ao (f.name != [])),g:=false}),(5,{b:=false}),(11,{b:=false})]++yg [2,3,7,8,9,10])] [.aa [2,4,3,1,0] [3,1]] (yM 3 (yS ((f.dep.target != 0)=false))++ [yS (ao (!(ByteArray.mk f.name.toArray).toList == (ByteArray.mk #[]).toList)=ao (f.name != [])),yS ((f.dep.target != 0)=false)]++yM 5 (yS ((f.name != [])=false))++yM 4 (yI g9)++yM 8 (yR true))<|zR (zV [yB (Value.bool true=Value.bool R) (by rw [hb.bad (.inr (.inr (.inr (.inr (.inr (.inr (.inr (.inr (.inl Ul)))))))))])])
 refine (Classical.em (f.bm=0)).symm.elim (fun g10=>?_) (fun g10=>?_)
 ·skip
  refine zP 1 [yH ([(4,{av:=some (ao (f.name != [])),g:=false}),(5,{b:=false}),(11,{b:=false}),(16,{b:=false})]++yg [2,3,7,8,9,10,13,14,15])] [.aa [2,4,3,1,0] [3,1]] (yM 3 (yS ((f.dep.target != 0)=false))++ [yS (ao (!(ByteArray.mk f.name.toArray).toList == (ByteArray.mk #[]).toList)=ao (f.name != [])),yS ((f.dep.target != 0)=false)]++yM 5 (yS ((f.name != [])=false))++yM 4 (yS ((!(f.kh == (0:Int) && (wv f.kr == (0:Int) && true)))=false))++yM 4 (yS ((f.bm != (0:Int))=true))++yM 4 (yR true))<|zR (zV [yB (Value.bool true=Value.bool R) (by rw [hb.bad (.inr (.inr (.inr (.inr (.inr (.inr (.inr (.inr (.inr (.inl g10))))))))))])])
 refine (Classical.em (f.cm=0)).symm.elim (fun g11=>?_) (fun g11=>?_)
 ·skip
  refine zP 1 [yH ([(4,{av:=some (ao (f.name != [])),g:=false}),(5,{b:=false}),(11,{b:=false}),(16,{b:=false}),(20,{av:=some (ao (f.cm != 0)),g:=false}),(21,{b:=false})]++yg [2,3,7,8,9,10,13,14,15,18,19])] [.aa [2,4,3,1,0] [3,1]] (yM 3 (yS ((f.dep.target != 0)=false))++ [yS (ao (!(ByteArray.mk f.name.toArray).toList == (ByteArray.mk #[]).toList)=ao (f.name != [])),yS ((f.dep.target != 0)=false)]++yM 5 (yS ((f.name != [])=false))++yM 4 (yS ((!(f.kh == (0:Int) && (wv f.kr == (0:Int) && true)))=false))++yM 3 (yS ((f.bm != (0:Int))=false))++ [yI (cK f.cm 0),yS ((f.bm != (0:Int))=false)]++yM 4 (yS ((f.cm != 0)=true)))<|zR (zV [yB (Value.bool true=Value.bool R) (by rw [hb.bad (.inr (.inr (.inr (.inr (.inr (.inr (.inr (.inr (.inr (.inr (.inl g11)))))))))))])])
 have Ul:f.kh=0∧f.kr=0:=A8 g9
 by_cases g12:f.target=0
 ·skip
  refine zP 1 [yH ([(4,{av:=some (ao (f.name != [])),g:=false}),(5,{b:=false}),(11,{b:=false}),(16,{b:=false}),(20,{av:=some (ao (f.cm != 0)),g:=false}),(21,{b:=false}),(25,{av:=some (ao (f.target != 0)),g:=false}),(26,{b:=false})]++yg [2,3,7,8,9,10,13,14,15,18,19,23,24])] [.aa [2,4,3,1,0] [3,1]] (yM 3 (yS ((f.dep.target != 0)=false))++ [yS (ao (!(ByteArray.mk f.name.toArray).toList == (ByteArray.mk #[]).toList)=ao (f.name != [])),yS ((f.dep.target != 0)=false)]++yM 5 (yS ((f.name != [])=false))++yM 4 (yS ((!(f.kh == (0:Int) && (wv f.kr == (0:Int) && true)))=false))++yM 3 (yS ((f.bm != (0:Int))=false))++ [yS (ao (wv f.cm != (0:Int))=ao (f.cm != 0)),yS ((f.bm != (0:Int))=false)]++yM 3 (yS ((f.cm != 0)=false))++ [yS (ao (wv f.target != (0:Int))=ao (f.target != 0)),yS ((f.cm != 0)=false)])<|zR (zV [yB (Value.bool (f.target != 0)=Value.bool R) (by rw [hb.m7 g1 g2 ag ag ag g6 g7 g8 Ul g10 g11 g12];simp [g12])])
 ·skip
  refine zP 1 [yH ([(4,{av:=some (ao (f.name != [])),g:=false}),(5,{b:=false}),(11,{b:=false}),(16,{b:=false}),(20,{av:=some (ao (f.cm != 0)),g:=false}),(21,{b:=false}),(25,{av:=some (ao (f.target != 0)),g:=false}),(26,{b:=false})]++yg [2,3,7,8,9,10,13,14,15,18,19,23,24])] [.aa [2,4,3,1,0] [3,1]] (yM 3 (yS ((f.dep.target != 0)=false))++ [yS (ao (!(ByteArray.mk f.name.toArray).toList == (ByteArray.mk #[]).toList)=ao (f.name != [])),yS ((f.dep.target != 0)=false)]++yM 5 (yS ((f.name != [])=false))++yM 4 (yS ((!(f.kh == (0:Int) && (wv f.kr == (0:Int) && true)))=false))++yM 3 (yS ((f.bm != (0:Int))=false))++ [yS (ao (wv f.cm != (0:Int))=ao (f.cm != 0)),yS ((f.bm != (0:Int))=false)]++yM 3 (yS ((f.cm != 0)=false))++ [yI (cK f.target 0),yS ((f.cm != 0)=false)])<|zR (zV [yB (Value.bool (f.target != 0)=Value.bool R) (by rw [hb.bad (.inr (.inr (.inr (.inr (.inr (.inr (.inr (.inr (.inr (.inr (.inr g12)))))))))))];simp [g12])])
structure AG (d:oD):Prop where
 box:d.box.length≤1000000
 CW:d.af.length≤1000000
 SD:d.ay.length≤1000000
 Sd:∀i,i<d.af.length->(d.af.getD i default).length≤1000
theorem wI (d:oD) (hB:AG d):bA Tryz.prog 161 [.agg (bk d)] (ai (fZ d)):=by
 have tK:(ae au d.af).length=d.af.length:=by rw [aA (e:=1) (fun _=>rfl)];omega
 obtain ⟨b1,b2,b3,hh⟩:=hB
 by_cases c1:1024<d.box.length
 ·have e:fZ d=8:=if_pos c1
  refine zO Tryz.func161 62<|zq<|zS<|zP 1 [yH [(2,{k:=d.box.length})]] [.aa [10,2,1,0] [1]] [yI (aB d.box)]<|gX 10 ((↑d.box.length:Int)>1024)<|zq<|dk (zV [yJ 8 (fZ d) (by rw [e])])
 by_cases c2:ow d.af.length d.need
 ·have e:fZ d=9:=by unfold fZ;rw [if_neg c1,if_pos c2]
  unfold ow at c2
  by_cases k1:d.af.length<1
  ·refine zO Tryz.func161 62<|zq<|zS<|zP 1 [yH [(2,{k:=d.box.length})]] [.aa [10,2,1,0] [1]] [yI (aB d.box)]<|dm 10 ((↑d.box.length:Int)>1024)<|a6<|zP 1 [yH [(2,{k:=(ae au d.af).length})]] [.aa [3,10,2,1,0] [1]] [yR ((ae au d.af).length)]<|zS<|zP 1 [{}] [.aa [30,3,10,2,1,0] [1]] (yM 3 (yT ((↑(ae au d.af).length:Int)<1))++yM 9 (yR true))<|zT 30<|zq<|dk (zV [yJ 9 (fZ d) (by rw [e])])
  by_cases k2:8<d.af.length
  ·refine zO Tryz.func161 62<|zq<|zS<|zP 1 [yH [(2,{k:=d.box.length})]] [.aa [10,2,1,0] [1]] [yI (aB d.box)]<|dm 10 ((↑d.box.length:Int)>1024)<|a6<|zP 1 [yH [(2,{k:=(ae au d.af).length})]] [.aa [3,10,2,1,0] [1]] [yR ((ae au d.af).length)]<|zS<|zP 1 [yH ([(5,{b:=false})]++yg [3,4])] [.aa [30,3,10,2,1,0] [1]] (yM 3 (yF ((↑(ae au d.af).length:Int)<1))++yM 4 (yT ((↑(ae au d.af).length:Int)>8))++yM 5 (yR true))<|zT 30<|zq<|dk (zV [yJ 9 (fZ d) (by rw [e])])
  by_cases k3:d.need<1
  ·refine zO Tryz.func161 62<|zq<|zS<|zP 1 [yH [(2,{k:=d.box.length})]] [.aa [10,2,1,0] [1]] [yI (aB d.box)]<|dm 10 ((↑d.box.length:Int)>1024)<|a6<|zP 1 [yH [(2,{k:=(ae au d.af).length})]] [.aa [3,10,2,1,0] [1]] [yR ((ae au d.af).length)]<|zS<|zP 1 [yH ([(5,{b:=false}),(10,{b:=false})]++yg [3,4,7,8,9])] [.aa [30,3,10,2,1,0] [1]] (yM 3 (yF ((↑(ae au d.af).length:Int)<1))++yM 4 (yF ((↑(ae au d.af).length:Int)>8))++yM 5 (yT (d.need<1)))<|zT 30<|zq<|dk (zV [yJ 9 (fZ d) (by rw [e])])
  ·refine zO Tryz.func161 62<|zq<|zS<|zP 1 [yH [(2,{k:=d.box.length})]] [.aa [10,2,1,0] [1]] [yI (aB d.box)]<|dm 10 ((↑d.box.length:Int)>1024)<|a6<|zP 1 [yH [(2,{k:=(ae au d.af).length})]] [.aa [3,10,2,1,0] [1]] [yR ((ae au d.af).length)]<|zS<|zP 1 [yH ([(5,{b:=false}),(10,{b:=false}),(16,{b:=false})]++yg [3,4,7,8,9,12,13,14,15])] [.aa [30,3,10,2,1,0] [1]] (yM 3 (yF ((↑(ae au d.af).length:Int)<1))++yM 4 (yF ((↑(ae au d.af).length:Int)>8))++yM 5 (yF (d.need<1)))<|gX 30 (d.need>(↑(ae au d.af).length:Int))<|zq<|dk (zV [yJ 9 (fZ d) (by rw [e])])
 by_cases c3:d.ay.length≠d.af.length
 ·have e:fZ d=4:=by unfold fZ;rw [if_neg c1,if_neg c2,if_pos c3]
  unfold ow at c2
  refine zO Tryz.func161 62<|zq<|zS<|zP 1 [yH [(2,{k:=d.box.length})]] [.aa [10,2,1,0] [1]] [yI (aB d.box)]<|dm 10 ((↑d.box.length:Int)>1024)<|a6<|zP 1 [yH [(2,{k:=(ae au d.af).length})]] [.aa [3,10,2,1,0] [1]] [yR ((ae au d.af).length)]<|zS<|zP 1 [yH ([(5,{b:=false}),(10,{b:=false}),(16,{b:=false})]++yg [3,4,7,8,9,12,13,14,15])] [.aa [30,3,10,2,1,0] [1]] (yM 3 (yF ((↑(ae au d.af).length:Int)<1))++yM 4 (yF ((↑(ae au d.af).length:Int)>8))++yM 5 (yF (d.need<1)))<|dm 30 (d.need>(↑(ae au d.af).length:Int))<|a6<|zS<|zP 1 [yH [(2,{k:=d.ay.length})]] [.aa [35,30,3,10,2,1,0] [1]] [yI (aE d.ay)]<|du 35 ((↑d.ay.length:Int) != (↑(ae au d.af).length:Int)) (by simp;omega)<|zq<|dk (zV [yJ 4 (fZ d) (by rw [e])])
 have e:fZ d=ff (nt d.af) d.af.length:=by unfold fZ;rw [if_neg c1,if_neg c2,if_neg c3]
 rw [e]
 have Xs:d.ay.length=d.af.length:=ag
 unfold ow at c2
 refine zO Tryz.func161 62<|zq<|zS<|zP 1 [yH [(2,{k:=d.box.length})]] [.aa [10,2,1,0] [1]] [yI (aB d.box)]<|dm 10 ((↑d.box.length:Int)>1024)<|a6<|zP 1 [yH [(2,{k:=(ae au d.af).length})]] [.aa [3,10,2,1,0] [1]] [yR ((ae au d.af).length)]<|zS<|zP 1 [yH ([(5,{b:=false}),(10,{b:=false}),(16,{b:=false})]++yg [3,4,7,8,9,12,13,14,15])] [.aa [30,3,10,2,1,0] [1]] (yM 3 (yF ((↑(ae au d.af).length:Int)<1))++yM 4 (yF ((↑(ae au d.af).length:Int)>8))++yM 5 (yF (d.need<1)))<|dm 30 (d.need>(↑(ae au d.af).length:Int))<|a6<|zS<|zP 1 [yH [(2,{k:=d.ay.length})]] [.aa [35,30,3,10,2,1,0] [1]] [yI (aE d.ay)]<|bj 35 ((↑d.ay.length:Int) != (↑(ae au d.af).length:Int)) (by simp_all)<|a6<|zS<|zQ 1 [yH [(2,{k:=(ae au d.af).length})]] [yR ((ae au d.af).length)]<|zB 0 (zL (fun (i:Nat)=>(⟨[(38,ai (↑(ae au d.af).length:Int)),(37,AV.sl 1 (ae au d.af)),(35,ao ((↑d.ay.length:Int) != (↑(ae au d.af).length:Int))),(30,ao (decide (d.need>(↑(ae au d.af).length:Int)))),(3,ai (↑(ae au d.af).length:Int)),(10,ao (decide ((↑d.box.length:Int)>1024))),(1,AV.addr 1 0),(0,AV.agg (bk d)),(39,ai i)],[(1,⟨1,false,true,List.map (aH 1) (bk d)⟩)]⟩:AS)) (fun i=>(i≤d.af.length∧ff (nt d.af) i=0)) (fun i=>(d.af.length-i)) (0) ?_ (zW [.aa [38,37,35,30,3,10,1,0,39] [1]]) ?_)
 ·exact ⟨ag,rfl⟩
 rintro i ⟨hi,h0⟩
 refine zq<|zS (zD 40 ((↑i:Int)<(↑(ae au d.af).length:Int)) (fun g=>?_) (fun g=>?_))
 ·have dc:i<d.af.length:=ag
  have ic:=iZ dc
  have hA:=hh i dc
  have stop:∀e:Int,e≠0->nt d.af i=e->ff (nt d.af) d.af.length=e:=fun e he h1=>by
   have k2:ff (nt d.af) (i+1)=nt d.af i:=by show (if _ then _ else _)=_;rw [if_neg ag]
   rw [kz ag k2 d.af.length ag,h1]
  by_cases c5:eg (d.af.getD i default)=0
  case neg =>
   have k1:=stop _ c5 (JS rfl c5)
   refine a6<|zS<|zB 1<|zP 1 [yH [(1,{k:=i}),(2,yV (di (d.af.getD i default)))]] [.aa [5,4,40,38,37,35,30,3,10,1,0,39] [1]] [yR (↑i:Int),yO (i<(ae au d.af).length),yI ic]<|zS<|zP 2 [yH [(1,yV (ai (eg (d.af.getD i default))))],{}] [.aa [47,6,5,4,40,38,37,35,30,3,10,1,0,39] [1]] [yI (eQ (d.af.getD i default) hA)]<|du 47 (eg (d.af.getD i default) != (0:Int)) (by simp_all)<|zP 1 [{}] [.aa [2,47,6,5,4,40,38,37,35,30,3,10,1,0,39] [1]] []<|dk<|ba<|aI<|dh<|ba<|aI (zV [yJ (eg (d.af.getD i default)) (ff (nt d.af) d.af.length) (by rw [k1])])
  by_cases c6:0<i
  ·obtain ⟨k,hk⟩:∃k,k+1=i:=⟨i-1,ag⟩
   have zH:=iZ (l:=d.af) (i:=k) ag
   have c8:=JR c5 hk
   by_cases c7:xT (d.af.getD i default) (d.af.getD k default)=true
   ·have k1:=stop 7 ag (by rw [c8,if_pos c7])
    refine a6<|zS<|zB 1<|zP 1 [yH [(1,{k:=i}),(2,yV (di (d.af.getD i default)))]] [.aa [5,4,40,38,37,35,30,3,10,1,0,39] [1]] [yR (↑i:Int),yO (i<(ae au d.af).length),yI ic]<|zS<|zP 2 [yH [(1,yV (ai (eg (d.af.getD i default))))],{}] [.aa [47,6,5,4,40,38,37,35,30,3,10,1,0,39] [1]] [yI (eQ (d.af.getD i default) hA)]<|bj 47 (eg (d.af.getD i default) != (0:Int)) (by simp_all)<|a6<|zP 1 [yH [(7,yV (ai ↑k)),(8,{k:=k}),(9,yV (di (d.af.getD k default)))]] [.aa [60,47,6,5,4,40,38,37,35,30,3,10,1,0,39] [1]] (yM 5 (yT ((↑i:Int)>0))++ [yB (ai (IntKind.i64.wrap ((↑i:Int)-1))=ai ↑k) (congrArg (fun n=>AV.val (.int .i64 n)) (by rw [IntKind.wrap_i64];omega)),yT ((↑i:Int)>0),yR (↑k:Int),yO (k<(ae au d.af).length),yT ((↑i:Int)>0),yI zH]++yM 2 (yT ((↑i:Int)>0)))<|du 60 (Op.bytesLess (ByteArray.mk (d.af.getD i default).toArray).toList (ByteArray.mk (d.af.getD k default).toArray).toList || (ByteArray.mk (d.af.getD i default).toArray).toList == (ByteArray.mk (d.af.getD k default).toArray).toList) (by assumption)<|zq<|zR<|ba<|aI<|dh<|ba<|aI (zV [yJ 7 (ff (nt d.af) d.af.length) (by rw [k1])])
   ·have c9:xT (d.af.getD i default) (d.af.getD k default)=false:=by simpa using c7
    rw [if_neg c7] at c8
    refine a6<|zS<|zB 1<|zP 1 [yH [(1,{k:=i}),(2,yV (di (d.af.getD i default)))]] [.aa [5,4,40,38,37,35,30,3,10,1,0,39] [1]] [yR (↑i:Int),yO (i<(ae au d.af).length),yI ic]<|zS<|zP 2 [yH [(1,yV (ai (eg (d.af.getD i default))))],{}] [.aa [47,6,5,4,40,38,37,35,30,3,10,1,0,39] [1]] [yI (eQ (d.af.getD i default) hA)]<|bj 47 (eg (d.af.getD i default) != (0:Int)) (by simp_all)<|a6<|zP 1 [yH [(7,yV (ai ↑k)),(8,{k:=k}),(9,yV (di (d.af.getD k default)))]] [.aa [60,47,6,5,4,40,38,37,35,30,3,10,1,0,39] [1]] (yM 5 (yT ((↑i:Int)>0))++ [yB (ai (IntKind.i64.wrap ((↑i:Int)-1))=ai ↑k) (congrArg (fun n=>AV.val (.int .i64 n)) (by rw [IntKind.wrap_i64];omega)),yT ((↑i:Int)>0),yR (↑k:Int),yO (k<(ae au d.af).length),yT ((↑i:Int)>0),yI zH]++yM 2 (yT ((↑i:Int)>0)))<|bj 60 (Op.bytesLess (ByteArray.mk (d.af.getD i default).toArray).toList (ByteArray.mk (d.af.getD k default).toArray).toList || (ByteArray.mk (d.af.getD i default).toArray).toList == (ByteArray.mk (d.af.getD k default).toArray).toList) (by assumption)<|zK<|aK<|al<|zX (yH [(0,yV (ai ((↑i:Int)+1)))]) [yN ((↑i:Int)+1)] (aF (i+1) ⟨ag,by show (if _ then _ else _)=_;rw [if_neg ag,c8]⟩ ag (zW [.aa [38,37,35,30,3,10,1,0,39] [1]]))
  ·have e:i=0:=ag
   have h1:nt d.af i=0:=by subst e;exact FR c5
   refine a6<|zS<|zB 1<|zP 1 [yH [(1,{k:=i}),(2,yV (di (d.af.getD i default)))]] [.aa [5,4,40,38,37,35,30,3,10,1,0,39] [1]] [yR (↑i:Int),yO (i<(ae au d.af).length),yI ic]<|zS<|zP 2 [yH [(1,yV (ai (eg (d.af.getD i default))))],{}] [.aa [47,6,5,4,40,38,37,35,30,3,10,1,0,39] [1]] [yI (eQ (d.af.getD i default) hA)]<|bj 47 (eg (d.af.getD i default) != (0:Int)) (by simp_all)<|a6<|zP 1 [yH ([(11,{b:=false})]++yg [3,4,5,6,7,8,9,10])] [.aa [60,47,6,5,4,40,38,37,35,30,3,10,1,0,39] [1]] (yM 9 (yF ((↑i:Int)>0)))<|zF 60<|zK<|aK<|al<|zX (yH [(0,yV (ai ((↑i:Int)+1)))]) [yN ((↑i:Int)+1)] (aF (i+1) ⟨ag,by show (if _ then _ else _)=_;rw [if_neg ag,h1]⟩ ag (zW [.aa [38,37,35,30,3,10,1,0,39] [1]]))
 ·have e:i=d.af.length:=ag
  subst e
  refine zE 0<|a7<|aP<|bp<|al<|zq<|zR (zV [yJ 0 (ff (nt d.af) d.af.length) (by rw [h0])])
def NY (d:oD):List (List fP):=[[aL d.cm],[aL d.peer],[fj d.box],bG (u64 d.af.length)::d.af.map cL,bG (u64 d.ay.length)::d.ay.map aL,[aL (u64 d.need)]]
theorem xV {T:Type} (f:T->fP) (l:List T) {i:Nat} (h:i<l.length) (z:T):ae dI ((l.take i).map fun x=>[f x])++ [.sl 3 (ae bn [f (l.getD i z)])]=ae dI ((l.take (i+1)).map fun x=>[f x]):=by
 rw [List.take_add_one,List.map_append,←fT,List.getD_eq_getElem?_getD,List.getElem?_eq_getElem h];rfl
theorem xh (d:oD) (hB:AG d):bA Tryz.prog 124 [.agg (bk d)] (.b_ [.own 1 (ae dI (if fZ d=0 then NY d else [])),ai (fZ d)]):=by
 by_cases c:fZ d=0
 case neg =>
  rw [if_neg c]
  refine zO Tryz.func124 72<|zq<|zS<|zP 2 [yH [(1,yV (ai (fZ d)))],yH [(1,yV (ao true))]] [.aa [15,4,3,2,1,0] [1]] [yI (wI d hB),yB (ao (fZ d != (0:Int))=ao true) (by simp [c])]<|zT 15<|zq<|dk (bL)
 rw [if_pos c,c]
 obtain ⟨o1,o2,o3,o4,o5,o6⟩:=KL c
 have tK:(ae au d.af).length=d.af.length:=by rw [aA (e:=1) (fun _=>rfl)];omega
 obtain ⟨v1,v2,v3,v4⟩:=pQ (xs:=d.af.map cL) (mY fun x hx=>t_ (o6 x hx)) (by rw [List.length_map];omega) (by rw [List.length_map];omega)
 obtain ⟨w1,w2,w3,w4⟩:=pQ (xs:=d.ay.map aL) (mY fun x _=>.uint x) (by rw [List.length_map];omega) (by rw [List.length_map];omega)
 have ha:=sL _ v1 v2 v3
 have hd:=sL _ w1 w2 w3
 rw [v4,List.length_map,List.map_map] at ha
 rw [w4,List.length_map,List.map_map] at hd
 have hc:=wI d hB
 rw [c] at hc
 obtain ⟨b1,b2,b3,hh⟩:=hB
 refine zO Tryz.func124 72<|zq<|zS<|zP 2 [yH [(1,yC hc)],{}] [.aa [15,4,3,2,1,0] [1]] [yI hc]<|zF 15<|a6<|zq<|zS<|zQ 1 [yH [(2,{k:=(ae au d.af).length})]] [yR ((ae au d.af).length)]<|zB 0 (zL (fun (i:Nat)=>(⟨[(19,ai (↑(ae au d.af).length:Int)),(18,AV.sl 1 (ae au d.af)),(15,ao ((0:Int) != (0:Int))),(4,ai 0),(3,ai 0),(2,AV.nil),(1,AV.addr 1 0),(0,AV.agg (bk d)),(20,ai i),(5,AV.ref 5),(6,AV.ref 6)],[(5,⟨1,true,false,ae dI ((d.af.take i).map fun x=>[cL x])⟩),(6,⟨1,true,false,ae dI ((d.ay.take i).map fun x=>[aL x])⟩),(1,⟨1,false,true,bk d⟩)]⟩:AS)) (fun i=>(i≤d.af.length)) (fun i=>(d.af.length-i)) (0) ?_ (zW [.nil 5 5 1,.nil 6 6 1,.aa [19,18,15,4,3,2,1,0,20,5,6] [5,6,1]]) ?_)
 ·omega
 intro i hi
 refine zq<|zS (zD 21 ((↑i:Int)<(↑(ae au d.af).length:Int)) (fun g=>?_) (fun g=>?_))
 ·have dc:i<d.af.length:=ag
  have ic:=iZ dc
  have zH:=eM (l:=d.ay) (k:=i) ag
  have hA:=hh i dc
  have hz:=rH _ hA
  have s1:=xV cL d.af dc default
  have s2:=xV aL d.ay (i:=i) ag 0
  refine a6<|zS<|zB 1<|zP 2 [yH [(1,{k:=i}),(2,yV (di (d.af.getD i default)))],yH [(2,yD (me (d.af.getD i default)))]] [.aa [5,8,7,21,19,18,15,4,3,2,1,0,20,6] [29,6,1]] [yR (↑i:Int),yO (i<(ae au d.af).length),yI ic,yI (me (d.af.getD i default)),yB (((ae dI (List.map (fun x↦ [cL x]) (List.take i d.af))).length+1)*24≤140737488355328) (by simp only [List.length_take,List.length_map,aA (f:=dI) (e:=1) (fun _=>rfl)];omega)]<|zX (yH [(4,{k:=i}),(5,yV (aw (d.ay.getD i 0))),(6,yD (dn (d.ay.getD i 0)))]) [yR (↑i:Int),yB (i<(aj d.ay).length) (by simp only [aE];omega),yI zH,yI (dn (d.ay.getD i 0)),yB (((ae dI (List.map (fun x↦ [aL x]) (List.take i d.ay))).length+1)*24≤140737488355328) (by simp only [List.length_take,List.length_map,aA (f:=dI) (e:=1) (fun _=>rfl)];omega)]<|aK<|al<|zX (yH [(0,yV (ai ((↑i:Int)+1)))]) [yN ((↑i:Int)+1)] (aF (i+1) (by assumption) ag (eX [.wU 29 5,.wU 38 6,.aa [19,18,15,4,3,2,1,0,20,5,6] [5,6,1]] [] [5,6,1] [yI s1,yI s2,yB (List.map (aH 37) (List.map (kV 38 6) (cF 6 (Row.mk 1 false true (List.map (kV 29 5) (cF 5 (Row.mk 1 false true (List.map (aH 38) (cF 6 (Row.mk 1 false true (List.map (aH 37) (gg 36 (Row.mk 3 true false (ae bn [aL (d.ay.getD i 0)])) (Row.mk 1 false true (List.map (aH 36) (List.map (aH 28) (List.map (aH 29) (cF 5 (Row.mk 1 false true (List.map (aH 28) (gg 27 (Row.mk 3 true false (ae bn [cL (d.af.getD i default)])) (Row.mk 1 false true (List.map (aH 27) (bk d)))).cells))).cells))))).cells))).cells))).cells))).cells)=bk d) bC]))
 ·have e:i=d.af.length:=ag
  subst e
  have t1:d.af.take d.af.length=d.af:=List.take_length
  have t2:d.ay.take d.af.length=d.ay:=by rw [←o5];exact List.take_length
  rw [t1,t2]
  refine zE 0<|a7<|aP<|bp<|al<|zP 1 [yH [(1,yD ha)]] [.aa [10,9,21,19,18,15,4,3,2,1,0,20,5,6] [6,1]] [yI ha]<|zS<|zq<|zF 46<|a6<|zP 1 [yH [(1,yD hd)]] [.aa [10,11,46,9,21,19,18,15,4,3,2,1,0,20,5,6] [1]] [yI hd]<|zS<|zq<|zF 54<|a6<|zP 1 [{hs:=[(2,yD (dn (d.cm))),(5,yD (dn (d.peer))),(8,yD (rk (d.box) b1)),(13,yV (aw (u64 d.need))),(14,yD (dn (u64 d.need)))],T:=15}] [.aa [3,2,54,10,11,46,9,21,19,18,15,4,1,0,20,5,6] [71,1]] [yI (dn d.cm),yI (dn d.peer),yI (rk d.box b1),yI (a8 d.need),yI (dn (u64 d.need))]<|zR (bL)
end Go.Proofs.YtjgbhhnghedgdaaGreatDoor
