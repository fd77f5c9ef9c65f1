import Derived.Test.YtjgbhhnghedgdaaGreatDoorZsTk3
set_option linter.all false
namespace Go.Proofs.YtjgbhhnghedgdaaGreatDoor
open Go.RowKit
set_option maxRecDepth 100000
set_option maxHeartbeats 4000000
def ga (e:eK):eK :=
 if e.kind=1 then {e with name:=[],kh:=0,kr:=0} else if e.kind=2 then {e with name:=[]} else if e.kind=3 then {e with bB:=0} else
 if e.kind=4 then {e with dep:=⟨0,0,[],[],[],0,e.dep.target⟩} else {e with cm:=0,target:=0}
structure LS (f:eK) (R:Bool):Prop where
 bad:(f.dep.cm≠0∨f.dep.peer≠0∨f.dep.box.length≠0∨f.dep.ae.length≠0∨f.dep.au.length≠0∨f.dep.need≠0∨f.dep.target≠0∨f.name≠ []∨ ¬(f.kh=0∧f.kr=0)∨f.bB≠0∨f.cm≠0∨f.target≠0)->R=true
 mm:f.dep.cm=0->f.dep.peer=0->f.dep.box.length=0->f.dep.ae.length=0->f.dep.au.length=0->f.dep.need=0->f.dep.target=0->f.name= []->f.kh=0∧f.kr=0->f.bB=0->f.cm=0->f.target=0->R=false
theorem JD {x:UInt64} (h:wv x=0):x=0:=by
 have h:((x.toNat:Nat):Int)=0:=h
 exact UInt64.toNat_inj.1 (by rw [show x.toNat=0 by omega];rfl)
theorem yG {h:Int} {r:UInt64} (g:¬(!(h == 0 && (wv r == 0 && true)))=true):h=0∧r=0:=by
 simp at g
 exact ⟨g.1,JD g.2⟩
theorem Ey {h:Int} {r:UInt64} (g:(!(h == 0 && (wv r == 0 && true)))=true):¬(h=0∧r=0):=by
 rintro ⟨rfl,rfl⟩
 exact absurd g (by decide)
theorem Ez (e:eK) (h1:1≤e.kind) (h5:e.kind≤5):LS (ga e) (decide (¬eN e)):=by
 have key:((ga e).dep.cm=0∧(ga e).dep.peer=0∧(ga e).dep.box.length=0∧(ga e).dep.ae.length=0∧(ga e).dep.au.length=0∧(ga e).dep.need=0∧(ga e).dep.target=0∧(ga e).name= []∧((ga e).kh=0∧(ga e).kr=0)∧(ga e).bB=0∧(ga e).cm=0∧(ga e).target=0)↔eN e:=by
  unfold ga eN uQ
  by_cases k1:e.kind=1
  ·rw [if_pos k1];simp [k1];grind
  rw [if_neg k1]
  by_cases k2:e.kind=2
  ·rw [if_pos k2];simp [k2];grind
  rw [if_neg k2]
  by_cases k3:e.kind=3
  ·rw [if_pos k3];simp [k3];grind
  rw [if_neg k3]
  by_cases k4:e.kind=4
  ·rw [if_pos k4];simp [k4];grind
  rw [if_neg k4]
  have k5:e.kind=5:=ah
  simp [k5];grind
 refine ⟨fun h=>?_,fun a b c d e f g h i j k l=>?_⟩
 ·rw [decide_eq_true_iff]
  intro q
  obtain ⟨a,b,c,d,m,f,g,o,i,j,k,l⟩:=key.2 q
  clear key
  generalize ga e=z at *
  rcases h with q|q|q|q|q|q|q|q|q|q|q|q<;>contradiction
 ·rw [decide_eq_false_iff_not]
  exact fun q=>q (key.1 ⟨a,b,c,d,e,f,g,h,i,j,k,l⟩)
def PN:List (Nat×Nat):=[(9,1),(10,1),(11,1)]
theorem jv (e:eK) (h1:1≤e.kind) (h5:e.kind≤5):bK Tryz.prog 73 [.agg (bk e)] (ao (decide (¬eN e))):=by
 refine zO Tryz.func73 94<|zq (a7.pE (fun (f:eK)=>(⟨[(2,ao false),(1,AV.addr 1 0),(0,AV.agg (bk e))],[(1,⟨1,false,true,bk f⟩)]⟩:AS)) (fun f=>(f=ga e)) bH ?_ ?_)
 ·by_cases k1:e.kind=1
  ·have hf:ga e= {e with name:=[],kh:=0,kr:=0}:=if_pos k1
   refine zq<|zB 0<|zP 1 [{}] [.aa [7,6,2,1,0] [1]] []<|dQ 7 (e.kind == (1:Int)) fX<|zQ 1 [{}] [yL 4 17]<|zX {} [yL 6 17]<|aM<|ak (⟨(ga e),rfl,(e_ [.aa [2,1,0] [1]] [] [1] [yB (List.take 4 ((List.map (aQ 1) (bk e)).set 3 (AV.val (Value.string (ByteArray.mk #[]))))++ [ai 0,eh]++List.drop 6 ((List.map (aQ 1) (bk e)).set 3 (AV.val (Value.string (ByteArray.mk #[]))))=bk (ga e)) (by rw [hf];rfl)])⟩)
  by_cases k2:e.kind=2
  ·have hf:ga e= {e with name:=[]}:=by unfold ga;rw [if_neg k1,if_pos k2]
   refine zq<|zB 0<|zP 1 [{}] [.aa [7,6,2,1,0] [1]] []<|bo 7 (e.kind == (1:Int)) bR<|zq<|dQ 12 (e.kind == (2:Int)) fX<|zX {} [yL 4 17]<|aM<|ak (⟨(ga e),rfl,(e_ [.aa [2,1,0] [1]] [] [1] [yB ((List.map (aQ 1) (bk e)).set 3 (AV.val (Value.string (ByteArray.mk #[])))=bk (ga e)) (by rw [hf];rfl)])⟩)
  by_cases k3:e.kind=3
  ·have hf:ga e= {e with bB:=0}:=by unfold ga;rw [if_neg k1,if_neg k2,if_pos k3]
   refine zq<|zB 0<|zP 1 [{}] [.aa [7,6,2,1,0] [1]] []<|bo 7 (e.kind == (1:Int)) bR<|zq<|bo 12 (e.kind == (2:Int)) bR<|zP 1 [{}] [.aa [15,12,7,6,2,1,0] [1]] []<|dQ 15 (e.kind == (3:Int)) fX<|zX {} [yL 7 17]<|aM<|ak (⟨(ga e),rfl,(e_ [.aa [2,1,0] [1]] [] [1] [yB ((List.map (aQ 1) (bk e)).set 6 (ai 0)=bk (ga e)) (by rw [hf];rfl)])⟩)
  by_cases k4:e.kind=4
  ·have hf:ga e= {e with dep:=⟨0,0,[],[],[],0,e.dep.target⟩}:=by unfold ga;rw [if_neg k1,if_neg k2,if_neg k3,if_pos k4]
   refine zq<|zB 0<|zP 1 [{}] [.aa [7,6,2,1,0] [1]] []<|bo 7 (e.kind == (1:Int)) bR<|zq<|bo 12 (e.kind == (2:Int)) bR<|zP 1 [{}] [.aa [15,12,7,6,2,1,0] [1]] []<|bo 15 (e.kind == (3:Int)) bR<|zq<|dQ 18 (e.kind == (4:Int)) fX<|zX {} [yL 14 17]<|aM<|ak<|Mx (bN.Mu 1 PN bH) (⟨(ga e),rfl,(e_ [.aa [2,1,0] [1]] [] [1] [yB (JO PN (ED (AS.mk [(24,AV.addr 1 7),(23,AV.agg [eh,eh,AV.nil,AV.nil,AV.nil,ai 0,aw e.dep.target]),(22,aw e.dep.target),(21,AV.addr 1 13),(20,AV.addr 1 7),(18,ao (e.kind == (4:Int))),(19,ao (e.kind == (4:Int))),(15,ao (e.kind == (3:Int))),(12,ao (e.kind == (2:Int))),(7,ao (e.kind == (1:Int))),(6,ai e.kind),(2,ao false),(1,AV.addr 1 0),(0,AV.agg (bk e))] [(1,Row.mk 1 false true (List.take 7 (List.map (aQ 1) (bk e))++ [eh,eh,AV.nil,AV.nil,AV.nil,ai 0,aw e.dep.target]++List.drop 14 (List.map (aQ 1) (bk e))))]) 1).cells 0=bk (ga e)) (by rw [hf];rfl)])⟩)
  have hf:ga e= {e with cm:=0,target:=0}:=by unfold ga;rw [if_neg k1,if_neg k2,if_neg k3,if_neg k4]
  refine zq<|zB 0<|zP 1 [{}] [.aa [7,6,2,1,0] [1]] []<|bo 7 (e.kind == (1:Int)) bR<|zq<|bo 12 (e.kind == (2:Int)) bR<|zP 1 [{}] [.aa [15,12,7,6,2,1,0] [1]] []<|bo 15 (e.kind == (3:Int)) bR<|zq<|bo 18 (e.kind == (4:Int)) bR<|zP 1 [{}] [.aa [25,18,15,12,7,6,2,1,0] [1]] []<|dQ 25 (e.kind == (5:Int)) fX<|zQ 1 [{}] [yL 15 17]<|zX {} [yL 16 17]<|aM<|ak (⟨(ga e),rfl,(e_ [.aa [2,1,0] [1]] [] [1] [yB (((List.map (aQ 1) (bk e)).set 14 (eh)).set 15 (eh)=bk (ga e)) (by rw [hf];rfl)])⟩)
 intro f hf
 have hb:LS f (decide (¬eN e)):=by rw [hf];exact Ez e h1 h5
 have LI:(af ay f.dep.ae).length=f.dep.ae.length:=by rw [aG (e:=1) (fun _=>rfl)];omega
 generalize decide (¬eN e)=R at *
 clear hf h1 h5
 refine zP 1 [{}] [.aa [3,2,1,0] [3,1]] [yL 7 7] ((Classical.em (f.dep.cm=0)).symm.elim (fun g1=>?_) (fun g1=>?_))
 ·skip
  refine zP 2 [yH [(2,yV (ao (f.dep.cm != 0)))],{}] [.aa [2,4,3,1,0] [3,1]] ([yI (cU f.dep.cm 0)]++yM 4 (yS ((f.dep.cm != 0)=true))++yM 44 (yR true))<|zR (zV [yB (Value.bool true=Value.bool R) (by rw [hb.bad (.inl g1)])])
 refine (Classical.em (f.dep.peer=0)).symm.elim (fun g2=>?_) (fun g2=>?_)
 ·skip
  refine zP 2 [yH ([(2,yV (ao (f.dep.cm != 0))),(6,{av:=some (ao (f.dep.peer != 0)),g:=false}),(7,{b:=false})]++yg [4,5]),{}] [.aa [2,4,3,1,0] [3,1]] ([yI (cU f.dep.cm 0)]++yM 3 (yS ((f.dep.cm != 0)=false))++ [yI (cU f.dep.peer 0),yS ((f.dep.cm != 0)=false)]++yM 5 (yS ((f.dep.peer != 0)=true))++yM 39 (yR true))<|zR (zV [yB (Value.bool true=Value.bool R) (by rw [hb.bad (.inr (.inl g2))])])
 refine (Classical.em ((↑f.dep.box.length:Int)=0)).symm.elim (fun g3=>?_) (fun g3=>?_)
 ·skip
  refine zP 2 [yH ([(2,yV (ao (f.dep.cm != 0))),(6,{av:=some (ao (f.dep.peer != 0)),g:=false}),(7,{b:=false}),(11,{k:=f.dep.box.length,g:=false}),(13,{b:=false})]++yg [4,5,9,10,12]),{}] [.aa [2,4,3,1,0] [3,1]] ([yI (cU f.dep.cm 0)]++yM 3 (yS ((f.dep.cm != 0)=false))++ [yI (cU f.dep.peer 0),yS ((f.dep.cm != 0)=false)]++yM 3 (yS ((f.dep.peer != 0)=false))++ [yI (aA f.dep.box)]++yM 2 (yS ((f.dep.peer != 0)=false))++yM 5 (yS (((↑f.dep.box.length:Int) != (0:Int))=true))++yM 34 (yR true))<|zR (zV [yB (Value.bool true=Value.bool R) (by rw [hb.bad (.inr (.inr (.inl ah)))])])
 refine (Classical.em ((↑(af ay f.dep.ae).length:Int)=0)).symm.elim (fun g4=>?_) (fun g4=>?_)
 ·skip
  refine zP 2 [yH ([(2,yV (ao (f.dep.cm != 0))),(6,{av:=some (ao (f.dep.peer != 0)),g:=false}),(7,{b:=false}),(11,{k:=f.dep.box.length,g:=false}),(13,{b:=false}),(17,{k:=(af ay f.dep.ae).length,g:=false}),(19,{b:=false})]++yg [4,5,9,10,12,15,16,18]),{}] [.aa [2,4,3,1,0] [3,1]] ([yI (cU f.dep.cm 0)]++yM 3 (yS ((f.dep.cm != 0)=false))++ [yI (cU f.dep.peer 0),yS ((f.dep.cm != 0)=false)]++yM 3 (yS ((f.dep.peer != 0)=false))++ [yI (aA f.dep.box)]++yM 2 (yS ((f.dep.peer != 0)=false))++yM 3 (yS (((↑f.dep.box.length:Int) != (0:Int))=false))++ [yR ((af ay f.dep.ae).length)]++yM 2 (yS (((↑f.dep.box.length:Int) != (0:Int))=false))++yM 5 (yS (((↑(af ay f.dep.ae).length:Int) != (0:Int))=true))++yM 29 (yR true))<|zR (zV [yB (Value.bool true=Value.bool R) (by rw [hb.bad (.inr (.inr (.inr (.inl ah))))])])
 refine (Classical.em ((↑f.dep.au.length:Int)=0)).symm.elim (fun g5=>?_) (fun g5=>?_)
 ·skip
  refine zP 2 [yH ([(2,yV (ao (f.dep.cm != 0))),(6,{av:=some (ao (f.dep.peer != 0)),g:=false}),(7,{b:=false}),(11,{k:=f.dep.box.length,g:=false}),(13,{b:=false}),(17,{k:=(af ay f.dep.ae).length,g:=false}),(19,{b:=false}),(23,{k:=f.dep.au.length,g:=false}),(25,{b:=false})]++yg [4,5,9,10,12,15,16,18,21,22,24]),{}] [.aa [2,4,3,1,0] [3,1]] ([yI (cU f.dep.cm 0)]++yM 3 (yS ((f.dep.cm != 0)=false))++ [yI (cU f.dep.peer 0),yS ((f.dep.cm != 0)=false)]++yM 3 (yS ((f.dep.peer != 0)=false))++ [yI (aA f.dep.box)]++yM 2 (yS ((f.dep.peer != 0)=false))++yM 3 (yS (((↑f.dep.box.length:Int) != (0:Int))=false))++ [yR ((af ay f.dep.ae).length)]++yM 2 (yS (((↑f.dep.box.length:Int) != (0:Int))=false))++yM 3 (yS (((↑(af ay f.dep.ae).length:Int) != (0:Int))=false))++ [yI (aD f.dep.au)]++yM 2 (yS (((↑(af ay f.dep.ae).length:Int) != (0:Int))=false))++yM 4 (yS (((↑f.dep.au.length:Int) != (0:Int))=true))++yM 25 (yR true))<|zR (zV [yB (Value.bool true=Value.bool R) (by rw [hb.bad (.inr (.inr (.inr (.inr (.inl ah)))))])])
 refine (Classical.em (f.dep.need=0)).symm.elim (fun g6=>?_) (fun g6=>?_)
 ·skip
  refine zP 2 [yH ([(2,yV (ao (f.dep.cm != 0))),(6,{av:=some (ao (f.dep.peer != 0)),g:=false}),(7,{b:=false}),(11,{k:=f.dep.box.length,g:=false}),(13,{b:=false}),(17,{k:=(af ay f.dep.ae).length,g:=false}),(19,{b:=false}),(23,{k:=f.dep.au.length,g:=false}),(25,{b:=false}),(30,{b:=false})]++yg [4,5,9,10,12,15,16,18,21,22,24,27,28,29]),{}] [.aa [2,4,3,1,0] [3,1]] ([yI (cU f.dep.cm 0)]++yM 3 (yS ((f.dep.cm != 0)=false))++ [yI (cU f.dep.peer 0),yS ((f.dep.cm != 0)=false)]++yM 3 (yS ((f.dep.peer != 0)=false))++ [yI (aA f.dep.box)]++yM 2 (yS ((f.dep.peer != 0)=false))++yM 3 (yS (((↑f.dep.box.length:Int) != (0:Int))=false))++ [yR ((af ay f.dep.ae).length)]++yM 2 (yS (((↑f.dep.box.length:Int) != (0:Int))=false))++yM 3 (yS (((↑(af ay f.dep.ae).length:Int) != (0:Int))=false))++ [yI (aD f.dep.au)]++yM 2 (yS (((↑(af ay f.dep.ae).length:Int) != (0:Int))=false))++yM 4 (yS (((↑f.dep.au.length:Int) != (0:Int))=false))++yM 4 (yS ((f.dep.need != (0:Int))=true))++yM 21 (yR true))<|zR (zV [yB (Value.bool true=Value.bool R) (by rw [hb.bad (.inr (.inr (.inr (.inr (.inr (.inl g6))))))])])
 refine zP 1 [yH ([(2,yV (ao (f.dep.cm != 0))),(6,{av:=some (ao (f.dep.peer != 0)),g:=false}),(7,{b:=false}),(11,{k:=f.dep.box.length,g:=false}),(13,{b:=false}),(17,{k:=(af ay f.dep.ae).length,g:=false}),(19,{b:=false}),(23,{k:=f.dep.au.length,g:=false}),(25,{b:=false}),(30,{b:=false}),(34,{av:=some (ao (f.dep.target != 0)),g:=false}),(35,{b:=false})]++yg [4,5,9,10,12,15,16,18,21,22,24,27,28,29,32,33])] [.aa [4,3,2,1,0] [3,1]] ([yI (cU f.dep.cm 0)]++yM 3 (yS ((f.dep.cm != 0)=false))++ [yI (cU f.dep.peer 0),yS ((f.dep.cm != 0)=false)]++yM 3 (yS ((f.dep.peer != 0)=false))++ [yI (aA f.dep.box)]++yM 2 (yS ((f.dep.peer != 0)=false))++yM 3 (yS (((↑f.dep.box.length:Int) != (0:Int))=false))++ [yR ((af ay f.dep.ae).length)]++yM 2 (yS (((↑f.dep.box.length:Int) != (0:Int))=false))++yM 3 (yS (((↑(af ay f.dep.ae).length:Int) != (0:Int))=false))++ [yI (aD f.dep.au)]++yM 2 (yS (((↑(af ay f.dep.ae).length:Int) != (0:Int))=false))++yM 4 (yS (((↑f.dep.au.length:Int) != (0:Int))=false))++yM 3 (yS ((f.dep.need != (0:Int))=false))++ [yI (cU f.dep.target 0),yS ((f.dep.need != (0:Int))=false)]) ((Classical.em (f.dep.target=0)).symm.elim (fun g7=>?_) (fun g7=>?_))
 ·skip
  refine zP 1 [{}] [.aa [2,4,3,1,0] [3,1]] (yM 4 (yS ((f.dep.target != 0)=true))++yM 17 (yR true))<|zR (zV [yB (Value.bool true=Value.bool R) (by rw [hb.bad (.inr (.inr (.inr (.inr (.inr (.inr (.inl g7)))))))])])
 refine (Classical.em (f.name= [])).symm.elim (fun g8=>?_) (fun g8=>?_)
 ·skip
  refine zP 1 [yH ([(4,{av:=some (ao (f.name != [])),g:=false}),(5,{b:=false})]++yg [2,3])] [.aa [2,4,3,1,0] [3,1]] (yM 3 (yS ((f.dep.target != 0)=false))++ [yI (Md f.name []),yS ((f.dep.target != 0)=false)]++yM 5 (yS ((f.name != [])=true))++yM 12 (yR true))<|zR (zV [yB (Value.bool true=Value.bool R) (by rw [hb.bad (.inr (.inr (.inr (.inr (.inr (.inr (.inr (.inl g8))))))))])])
 refine (Classical.em ((!(f.kh == (0:Int) && (wv f.kr == (0:Int) && true)))=true)).elim (fun g9=>?_) (fun g9=>?_)
 ·have Sn:¬(f.kh=0∧f.kr=0):=Ey g9
  refine zP 1 [yH ([(4,{av:=some (ao (f.name != [])),g:=false}),(5,{b:=false}),(11,{b:=false})]++yg [2,3,7,8,9,10])] [.aa [2,4,3,1,0] [3,1]] (yM 3 (yS ((f.dep.target != 0)=false))++ [yS (ao (!(ByteArray.mk f.name.toArray).toList == (ByteArray.mk #[]).toList)=ao (f.name != [])),yS ((f.dep.target != 0)=false)]++yM 5 (yS ((f.name != [])=false))++yM 4 (yI g9)++yM 8 (yR true))<|zR (zV [yB (Value.bool true=Value.bool R) (by rw [hb.bad (.inr (.inr (.inr (.inr (.inr (.inr (.inr (.inr (.inl Sn)))))))))])])
 refine (Classical.em (f.bB=0)).symm.elim (fun g10=>?_) (fun g10=>?_)
 ·skip
  refine zP 1 [yH ([(4,{av:=some (ao (f.name != [])),g:=false}),(5,{b:=false}),(11,{b:=false}),(16,{b:=false})]++yg [2,3,7,8,9,10,13,14,15])] [.aa [2,4,3,1,0] [3,1]] (yM 3 (yS ((f.dep.target != 0)=false))++ [yS (ao (!(ByteArray.mk f.name.toArray).toList == (ByteArray.mk #[]).toList)=ao (f.name != [])),yS ((f.dep.target != 0)=false)]++yM 5 (yS ((f.name != [])=false))++yM 4 (yS ((!(f.kh == (0:Int) && (wv f.kr == (0:Int) && true)))=false))++yM 4 (yS ((f.bB != (0:Int))=true))++yM 4 (yR true))<|zR (zV [yB (Value.bool true=Value.bool R) (by rw [hb.bad (.inr (.inr (.inr (.inr (.inr (.inr (.inr (.inr (.inr (.inl g10))))))))))])])
 refine (Classical.em (f.cm=0)).symm.elim (fun g11=>?_) (fun g11=>?_)
 ·skip
  refine zP 1 [yH ([(4,{av:=some (ao (f.name != [])),g:=false}),(5,{b:=false}),(11,{b:=false}),(16,{b:=false}),(20,{av:=some (ao (f.cm != 0)),g:=false}),(21,{b:=false})]++yg [2,3,7,8,9,10,13,14,15,18,19])] [.aa [2,4,3,1,0] [3,1]] (yM 3 (yS ((f.dep.target != 0)=false))++ [yS (ao (!(ByteArray.mk f.name.toArray).toList == (ByteArray.mk #[]).toList)=ao (f.name != [])),yS ((f.dep.target != 0)=false)]++yM 5 (yS ((f.name != [])=false))++yM 4 (yS ((!(f.kh == (0:Int) && (wv f.kr == (0:Int) && true)))=false))++yM 3 (yS ((f.bB != (0:Int))=false))++ [yI (cU f.cm 0),yS ((f.bB != (0:Int))=false)]++yM 4 (yS ((f.cm != 0)=true)))<|zR (zV [yB (Value.bool true=Value.bool R) (by rw [hb.bad (.inr (.inr (.inr (.inr (.inr (.inr (.inr (.inr (.inr (.inr (.inl g11)))))))))))])])
 have Sn:f.kh=0∧f.kr=0:=yG g9
 by_cases g12:f.target=0
 ·skip
  refine zP 1 [yH ([(4,{av:=some (ao (f.name != [])),g:=false}),(5,{b:=false}),(11,{b:=false}),(16,{b:=false}),(20,{av:=some (ao (f.cm != 0)),g:=false}),(21,{b:=false}),(25,{av:=some (ao (f.target != 0)),g:=false}),(26,{b:=false})]++yg [2,3,7,8,9,10,13,14,15,18,19,23,24])] [.aa [2,4,3,1,0] [3,1]] (yM 3 (yS ((f.dep.target != 0)=false))++ [yS (ao (!(ByteArray.mk f.name.toArray).toList == (ByteArray.mk #[]).toList)=ao (f.name != [])),yS ((f.dep.target != 0)=false)]++yM 5 (yS ((f.name != [])=false))++yM 4 (yS ((!(f.kh == (0:Int) && (wv f.kr == (0:Int) && true)))=false))++yM 3 (yS ((f.bB != (0:Int))=false))++ [yS (ao (wv f.cm != (0:Int))=ao (f.cm != 0)),yS ((f.bB != (0:Int))=false)]++yM 3 (yS ((f.cm != 0)=false))++ [yS (ao (wv f.target != (0:Int))=ao (f.target != 0)),yS ((f.cm != 0)=false)])<|zR (zV [yB (Value.bool (f.target != 0)=Value.bool R) (by rw [hb.mm g1 g2 ah ah ah g6 g7 g8 Sn g10 g11 g12];simp [g12])])
 ·skip
  refine zP 1 [yH ([(4,{av:=some (ao (f.name != [])),g:=false}),(5,{b:=false}),(11,{b:=false}),(16,{b:=false}),(20,{av:=some (ao (f.cm != 0)),g:=false}),(21,{b:=false}),(25,{av:=some (ao (f.target != 0)),g:=false}),(26,{b:=false})]++yg [2,3,7,8,9,10,13,14,15,18,19,23,24])] [.aa [2,4,3,1,0] [3,1]] (yM 3 (yS ((f.dep.target != 0)=false))++ [yS (ao (!(ByteArray.mk f.name.toArray).toList == (ByteArray.mk #[]).toList)=ao (f.name != [])),yS ((f.dep.target != 0)=false)]++yM 5 (yS ((f.name != [])=false))++yM 4 (yS ((!(f.kh == (0:Int) && (wv f.kr == (0:Int) && true)))=false))++yM 3 (yS ((f.bB != (0:Int))=false))++ [yS (ao (wv f.cm != (0:Int))=ao (f.cm != 0)),yS ((f.bB != (0:Int))=false)]++yM 3 (yS ((f.cm != 0)=false))++ [yI (cU f.target 0),yS ((f.cm != 0)=false)])<|zR (zV [yB (Value.bool (f.target != 0)=Value.bool R) (by rw [hb.bad (.inr (.inr (.inr (.inr (.inr (.inr (.inr (.inr (.inr (.inr (.inr g12)))))))))))];simp [g12])])
structure yh (d:nC):Prop where
 box:d.box.length≤1000000
 HP:d.ae.length≤1000000
 QI:d.au.length≤1000000
 Qc:∀i,i<d.ae.length->(d.ae.getD i default).length≤1000
theorem uV (d:nC) (hB:yh d):bK Tryz.prog 161 [.agg (bg d)] (ai (fk d)):=by
 have sI:(af ay d.ae).length=d.ae.length:=by rw [aG (e:=1) (fun _=>rfl)];omega
 obtain ⟨b1,b2,b3,hh⟩:=hB
 by_cases c1:1024<d.box.length
 ·have e:fk d=8:=if_pos c1
  refine zO Tryz.func161 62<|zq<|zS<|zP 1 [yH [(2,{k:=d.box.length})]] [.aa [10,2,1,0] [1]] [yI (aA d.box)]<|jO 10 ((↑d.box.length:Int)>1024)<|zq<|dW (zV [yJ 8 (fk d) (by rw [e])])
 by_cases c2:nv d.ae.length d.need
 ·have e:fk d=9:=by unfold fk;rw [if_neg c1,if_pos c2]
  unfold nv at c2
  by_cases k1:d.ae.length<1
  ·refine zO Tryz.func161 62<|zq<|zS<|zP 1 [yH [(2,{k:=d.box.length})]] [.aa [10,2,1,0] [1]] [yI (aA d.box)]<|dK 10 ((↑d.box.length:Int)>1024)<|a8<|zP 1 [yH [(2,{k:=(af ay d.ae).length})]] [.aa [3,10,2,1,0] [1]] [yR ((af ay d.ae).length)]<|zS<|zP 1 [{}] [.aa [30,3,10,2,1,0] [1]] (yM 3 (yT ((↑(af ay d.ae).length:Int)<1))++yM 9 (yR true))<|zT 30<|zq<|dW (zV [yJ 9 (fk d) (by rw [e])])
  by_cases k2:8<d.ae.length
  ·refine zO Tryz.func161 62<|zq<|zS<|zP 1 [yH [(2,{k:=d.box.length})]] [.aa [10,2,1,0] [1]] [yI (aA d.box)]<|dK 10 ((↑d.box.length:Int)>1024)<|a8<|zP 1 [yH [(2,{k:=(af ay d.ae).length})]] [.aa [3,10,2,1,0] [1]] [yR ((af ay d.ae).length)]<|zS<|zP 1 [yH ([(5,{b:=false})]++yg [3,4])] [.aa [30,3,10,2,1,0] [1]] (yM 3 (yF ((↑(af ay d.ae).length:Int)<1))++yM 4 (yT ((↑(af ay d.ae).length:Int)>8))++yM 5 (yR true))<|zT 30<|zq<|dW (zV [yJ 9 (fk d) (by rw [e])])
  by_cases k3:d.need<1
  ·refine zO Tryz.func161 62<|zq<|zS<|zP 1 [yH [(2,{k:=d.box.length})]] [.aa [10,2,1,0] [1]] [yI (aA d.box)]<|dK 10 ((↑d.box.length:Int)>1024)<|a8<|zP 1 [yH [(2,{k:=(af ay d.ae).length})]] [.aa [3,10,2,1,0] [1]] [yR ((af ay d.ae).length)]<|zS<|zP 1 [yH ([(5,{b:=false}),(10,{b:=false})]++yg [3,4,7,8,9])] [.aa [30,3,10,2,1,0] [1]] (yM 3 (yF ((↑(af ay d.ae).length:Int)<1))++yM 4 (yF ((↑(af ay d.ae).length:Int)>8))++yM 5 (yT (d.need<1)))<|zT 30<|zq<|dW (zV [yJ 9 (fk d) (by rw [e])])
  ·refine zO Tryz.func161 62<|zq<|zS<|zP 1 [yH [(2,{k:=d.box.length})]] [.aa [10,2,1,0] [1]] [yI (aA d.box)]<|dK 10 ((↑d.box.length:Int)>1024)<|a8<|zP 1 [yH [(2,{k:=(af ay d.ae).length})]] [.aa [3,10,2,1,0] [1]] [yR ((af ay d.ae).length)]<|zS<|zP 1 [yH ([(5,{b:=false}),(10,{b:=false}),(16,{b:=false})]++yg [3,4,7,8,9,12,13,14,15])] [.aa [30,3,10,2,1,0] [1]] (yM 3 (yF ((↑(af ay d.ae).length:Int)<1))++yM 4 (yF ((↑(af ay d.ae).length:Int)>8))++yM 5 (yF (d.need<1)))<|jO 30 (d.need>(↑(af ay d.ae).length:Int))<|zq<|dW (zV [yJ 9 (fk d) (by rw [e])])
 by_cases c3:d.au.length≠d.ae.length
 ·have e:fk d=4:=by unfold fk;rw [if_neg c1,if_neg c2,if_pos c3]
  unfold nv at c2
  refine zO Tryz.func161 62<|zq<|zS<|zP 1 [yH [(2,{k:=d.box.length})]] [.aa [10,2,1,0] [1]] [yI (aA d.box)]<|dK 10 ((↑d.box.length:Int)>1024)<|a8<|zP 1 [yH [(2,{k:=(af ay d.ae).length})]] [.aa [3,10,2,1,0] [1]] [yR ((af ay d.ae).length)]<|zS<|zP 1 [yH ([(5,{b:=false}),(10,{b:=false}),(16,{b:=false})]++yg [3,4,7,8,9,12,13,14,15])] [.aa [30,3,10,2,1,0] [1]] (yM 3 (yF ((↑(af ay d.ae).length:Int)<1))++yM 4 (yF ((↑(af ay d.ae).length:Int)>8))++yM 5 (yF (d.need<1)))<|dK 30 (d.need>(↑(af ay d.ae).length:Int))<|a8<|zS<|zP 1 [yH [(2,{k:=d.au.length})]] [.aa [35,30,3,10,2,1,0] [1]] [yI (aD d.au)]<|dQ 35 ((↑d.au.length:Int) != (↑(af ay d.ae).length:Int)) (by simp;omega)<|zq<|dW (zV [yJ 4 (fk d) (by rw [e])])
 have e:fk d=ff (mj d.ae) d.ae.length:=by unfold fk;rw [if_neg c1,if_neg c2,if_neg c3]
 rw [e]
 have VE:d.au.length=d.ae.length:=ah
 unfold nv at c2
 refine zO Tryz.func161 62<|zq<|zS<|zP 1 [yH [(2,{k:=d.box.length})]] [.aa [10,2,1,0] [1]] [yI (aA d.box)]<|dK 10 ((↑d.box.length:Int)>1024)<|a8<|zP 1 [yH [(2,{k:=(af ay d.ae).length})]] [.aa [3,10,2,1,0] [1]] [yR ((af ay d.ae).length)]<|zS<|zP 1 [yH ([(5,{b:=false}),(10,{b:=false}),(16,{b:=false})]++yg [3,4,7,8,9,12,13,14,15])] [.aa [30,3,10,2,1,0] [1]] (yM 3 (yF ((↑(af ay d.ae).length:Int)<1))++yM 4 (yF ((↑(af ay d.ae).length:Int)>8))++yM 5 (yF (d.need<1)))<|dK 30 (d.need>(↑(af ay d.ae).length:Int))<|a8<|zS<|zP 1 [yH [(2,{k:=d.au.length})]] [.aa [35,30,3,10,2,1,0] [1]] [yI (aD d.au)]<|bo 35 ((↑d.au.length:Int) != (↑(af ay d.ae).length:Int)) (by simp_all)<|a8<|zS<|zQ 1 [yH [(2,{k:=(af ay d.ae).length})]] [yR ((af ay d.ae).length)]<|zB 0 (zL (fun (i:Nat)=>(⟨[(38,ai (↑(af ay d.ae).length:Int)),(37,AV.sl 1 (af ay d.ae)),(35,ao ((↑d.au.length:Int) != (↑(af ay d.ae).length:Int))),(30,ao (decide (d.need>(↑(af ay d.ae).length:Int)))),(3,ai (↑(af ay d.ae).length:Int)),(10,ao (decide ((↑d.box.length:Int)>1024))),(1,AV.addr 1 0),(0,AV.agg (bg d)),(39,ai i)],[(1,⟨1,false,true,List.map (aQ 1) (bg d)⟩)]⟩:AS)) (fun i=>(i≤d.ae.length∧ff (mj d.ae) i=0)) (fun i=>(d.ae.length-i)) (0) ?_ (zW [.aa [38,37,35,30,3,10,1,0,39] [1]]) ?_)
 ·exact ⟨ah,rfl⟩
 rintro i ⟨hi,h0⟩
 refine zq<|zS (zD 40 ((↑i:Int)<(↑(af ay d.ae).length:Int)) (fun g=>?_) (fun g=>?_))
 ·have dM:i<d.ae.length:=ah
  have ix:=jV dM
  have hA:=hh i dM
  have stop:∀e:Int,e≠0->mj d.ae i=e->ff (mj d.ae) d.ae.length=e:=fun e he h1=>by
   have k2:ff (mj d.ae) (i+1)=mj d.ae i:=by show (if _ then _ else _)=_;rw [if_neg ah]
   rw [mn ah k2 d.ae.length ah,h1]
  by_cases c5:dG (d.ae.getD i default)=0
  case neg =>
   have k1:=stop _ c5 (HV rfl c5)
   refine a8<|zS<|zB 1<|zP 1 [yH [(1,{k:=i}),(2,yV (dw (d.ae.getD i default)))]] [.aa [5,4,40,38,37,35,30,3,10,1,0,39] [1]] [yR (↑i:Int),yO (i<(af ay d.ae).length),yI ix]<|zS<|zP 2 [yH [(1,yV (ai (dG (d.ae.getD i default))))],{}] [.aa [47,6,5,4,40,38,37,35,30,3,10,1,0,39] [1]] [yI (dR (d.ae.getD i default) hA)]<|dQ 47 (dG (d.ae.getD i default) != (0:Int)) (by simp_all)<|zP 1 [{}] [.aa [2,47,6,5,4,40,38,37,35,30,3,10,1,0,39] [1]] []<|dW<|bl<|aW<|fD<|bl<|aW (zV [yJ (dG (d.ae.getD i default)) (ff (mj d.ae) d.ae.length) (by rw [k1])])
  by_cases c6:0<i
  ·obtain ⟨k,hk⟩:∃k,k+1=i:=⟨i-1,ah⟩
   have Am:=jV (l:=d.ae) (i:=k) ah
   have c8:=HU c5 hk
   by_cases c7:Hn (d.ae.getD i default) (d.ae.getD k default)=true
   ·have k1:=stop 7 ah (by rw [c8,if_pos c7])
    refine a8<|zS<|zB 1<|zP 1 [yH [(1,{k:=i}),(2,yV (dw (d.ae.getD i default)))]] [.aa [5,4,40,38,37,35,30,3,10,1,0,39] [1]] [yR (↑i:Int),yO (i<(af ay d.ae).length),yI ix]<|zS<|zP 2 [yH [(1,yV (ai (dG (d.ae.getD i default))))],{}] [.aa [47,6,5,4,40,38,37,35,30,3,10,1,0,39] [1]] [yI (dR (d.ae.getD i default) hA)]<|bo 47 (dG (d.ae.getD i default) != (0:Int)) (by simp_all)<|a8<|zP 1 [yH [(7,yV (ai ↑k)),(8,{k:=k}),(9,yV (dw (d.ae.getD k default)))]] [.aa [60,47,6,5,4,40,38,37,35,30,3,10,1,0,39] [1]] (yM 5 (yT ((↑i:Int)>0))++ [yB (ai (IntKind.i64.wrap ((↑i:Int)-1))=ai ↑k) (congrArg (fun n=>AV.val (.int .i64 n)) (by rw [IntKind.wrap_i64];omega)),yT ((↑i:Int)>0),yR (↑k:Int),yO (k<(af ay d.ae).length),yT ((↑i:Int)>0),yI Am]++yM 2 (yT ((↑i:Int)>0)))<|dQ 60 (Op.bytesLess (ByteArray.mk (d.ae.getD i default).toArray).toList (ByteArray.mk (d.ae.getD k default).toArray).toList || (ByteArray.mk (d.ae.getD i default).toArray).toList == (ByteArray.mk (d.ae.getD k default).toArray).toList) (by assumption)<|zq<|zR<|bl<|aW<|fD<|bl<|aW (zV [yJ 7 (ff (mj d.ae) d.ae.length) (by rw [k1])])
   ·have c9:Hn (d.ae.getD i default) (d.ae.getD k default)=false:=by simpa using c7
    rw [if_neg c7] at c8
    refine a8<|zS<|zB 1<|zP 1 [yH [(1,{k:=i}),(2,yV (dw (d.ae.getD i default)))]] [.aa [5,4,40,38,37,35,30,3,10,1,0,39] [1]] [yR (↑i:Int),yO (i<(af ay d.ae).length),yI ix]<|zS<|zP 2 [yH [(1,yV (ai (dG (d.ae.getD i default))))],{}] [.aa [47,6,5,4,40,38,37,35,30,3,10,1,0,39] [1]] [yI (dR (d.ae.getD i default) hA)]<|bo 47 (dG (d.ae.getD i default) != (0:Int)) (by simp_all)<|a8<|zP 1 [yH [(7,yV (ai ↑k)),(8,{k:=k}),(9,yV (dw (d.ae.getD k default)))]] [.aa [60,47,6,5,4,40,38,37,35,30,3,10,1,0,39] [1]] (yM 5 (yT ((↑i:Int)>0))++ [yB (ai (IntKind.i64.wrap ((↑i:Int)-1))=ai ↑k) (congrArg (fun n=>AV.val (.int .i64 n)) (by rw [IntKind.wrap_i64];omega)),yT ((↑i:Int)>0),yR (↑k:Int),yO (k<(af ay d.ae).length),yT ((↑i:Int)>0),yI Am]++yM 2 (yT ((↑i:Int)>0)))<|bo 60 (Op.bytesLess (ByteArray.mk (d.ae.getD i default).toArray).toList (ByteArray.mk (d.ae.getD k default).toArray).toList || (ByteArray.mk (d.ae.getD i default).toArray).toList == (ByteArray.mk (d.ae.getD k default).toArray).toList) (by assumption)<|zK<|aM<|ak<|zX (yH [(0,yV (ai ((↑i:Int)+1)))]) [yN ((↑i:Int)+1)] (aI (i+1) ⟨ah,by show (if _ then _ else _)=_;rw [if_neg ah,c8]⟩ ah (zW [.aa [38,37,35,30,3,10,1,0,39] [1]]))
  ·have e:i=0:=ah
   have h1:mj d.ae i=0:=by subst e;exact DT c5
   refine a8<|zS<|zB 1<|zP 1 [yH [(1,{k:=i}),(2,yV (dw (d.ae.getD i default)))]] [.aa [5,4,40,38,37,35,30,3,10,1,0,39] [1]] [yR (↑i:Int),yO (i<(af ay d.ae).length),yI ix]<|zS<|zP 2 [yH [(1,yV (ai (dG (d.ae.getD i default))))],{}] [.aa [47,6,5,4,40,38,37,35,30,3,10,1,0,39] [1]] [yI (dR (d.ae.getD i default) hA)]<|bo 47 (dG (d.ae.getD i default) != (0:Int)) (by simp_all)<|a8<|zP 1 [yH ([(11,{b:=false})]++yg [3,4,5,6,7,8,9,10])] [.aa [60,47,6,5,4,40,38,37,35,30,3,10,1,0,39] [1]] (yM 9 (yF ((↑i:Int)>0)))<|zF 60<|zK<|aM<|ak<|zX (yH [(0,yV (ai ((↑i:Int)+1)))]) [yN ((↑i:Int)+1)] (aI (i+1) ⟨ah,by show (if _ then _ else _)=_;rw [if_neg ah,h1]⟩ ah (zW [.aa [38,37,35,30,3,10,1,0,39] [1]]))
 ·have e:i=d.ae.length:=ah
  subst e
  refine zE 0<|aY<|aN<|bm<|ak<|zq<|zR (zV [yJ 0 (ff (mj d.ae) d.ae.length) (by rw [h0])])
def L_ (d:nC):List (List fo):=[[aE d.cm],[aE d.peer],[dC d.box],bz (u64 d.ae.length)::d.ae.map b_,bz (u64 d.au.length)::d.au.map aE,[aE (u64 d.need)]]
theorem wa {T:Type} (f:T->fo) (l:List T) {i:Nat} (h:i<l.length) (z:T):af cV ((l.take i).map fun x=>[f x])++ [.sl 3 (af aU [f (l.getD i z)])]=af cV ((l.take (i+1)).map fun x=>[f x]):=by
 rw [List.take_add_one,List.map_append,←fO,List.getD_eq_getElem?_getD,List.getElem?_eq_getElem h];rfl
theorem vr (d:nC) (hB:yh d):bK Tryz.prog 124 [.agg (bg d)] (.br [.own 1 (af cV (if fk d=0 then L_ d else [])),ai (fk d)]):=by
 by_cases c:fk d=0
 case neg =>
  rw [if_neg c]
  refine zO Tryz.func124 72<|zq<|zS<|zP 2 [yH [(1,yV (ai (fk d)))],yH [(1,yV (ao true))]] [.aa [15,4,3,2,1,0] [1]] [yI (uV d hB),yB (ao (fk d != (0:Int))=ao true) (by simp [c])]<|zT 15<|zq<|dW (cE)
 rw [if_pos c,c]
 obtain ⟨o1,o2,o3,o4,o5,o6⟩:=IP c
 have sI:(af ay d.ae).length=d.ae.length:=by rw [aG (e:=1) (fun _=>rfl)];omega
 obtain ⟨v1,v2,v3,v4⟩:=oJ (xs:=d.ae.map b_) (mg fun x hx=>sD (o6 x hx)) (by rw [List.length_map];omega) (by rw [List.length_map];omega)
 obtain ⟨w1,w2,w3,w4⟩:=oJ (xs:=d.au.map aE) (mg fun x _=>.uint x) (by rw [List.length_map];omega) (by rw [List.length_map];omega)
 have ha:=rn _ v1 v2 v3
 have hd:=rn _ w1 w2 w3
 rw [v4,List.length_map,List.map_map] at ha
 rw [w4,List.length_map,List.map_map] at hd
 have hc:=uV d hB
 rw [c] at hc
 obtain ⟨b1,b2,b3,hh⟩:=hB
 refine zO Tryz.func124 72<|zq<|zS<|zP 2 [yH [(1,yV (ai 0))],{}] [.aa [15,4,3,2,1,0] [1]] [yI hc]<|zF 15<|a8<|zq<|zS<|zQ 1 [yH [(2,{k:=(af ay d.ae).length})]] [yR ((af ay d.ae).length)]<|zB 0 (zL (fun (i:Nat)=>(⟨[(19,ai (↑(af ay d.ae).length:Int)),(18,AV.sl 1 (af ay d.ae)),(15,ao ((0:Int) != (0:Int))),(4,ai 0),(3,ai 0),(2,AV.nil),(1,AV.addr 1 0),(0,AV.agg (bg d)),(20,ai i),(5,AV.ref 5),(6,AV.ref 6)],[(5,⟨1,true,false,af cV ((d.ae.take i).map fun x=>[b_ x])⟩),(6,⟨1,true,false,af cV ((d.au.take i).map fun x=>[aE x])⟩),(1,⟨1,false,true,bg d⟩)]⟩:AS)) (fun i=>(i≤d.ae.length)) (fun i=>(d.ae.length-i)) (0) ?_ (zW [.nil 5 5 1,.nil 6 6 1,.aa [19,18,15,4,3,2,1,0,20,5,6] [5,6,1]]) ?_)
 ·omega
 intro i hi
 refine zq<|zS (zD 21 ((↑i:Int)<(↑(af ay d.ae).length:Int)) (fun g=>?_) (fun g=>?_))
 ·have dM:i<d.ae.length:=ah
  have ix:=jV dM
  have Am:=eG (l:=d.au) (k:=i) ah
  have hA:=hh i dM
  have hz:=qn _ hA
  have s1:=wa b_ d.ae dM default
  have s2:=wa aE d.au (i:=i) ah 0
  refine a8<|zS<|zB 1<|zP 2 [yH [(1,{k:=i}),(2,yV (dw (d.ae.getD i default)))],yH [(2,{av:=some (AV.own 3 (af aU [b_ (d.ae.getD i default)])),b:=false})]] [.aa [5,8,7,21,19,18,15,4,3,2,1,0,20,6] [29,6,1]] [yR (↑i:Int),yO (i<(af ay d.ae).length),yI ix,yI (tl (d.ae.getD i default)),yB (((af cV (List.map (fun x↦ [b_ x]) (List.take i d.ae))).length+1)*24≤140737488355328) (by simp only [List.length_take,List.length_map,aG (f:=cV) (e:=1) (fun _=>rfl)];omega)]<|zX (yH [(4,{k:=i}),(5,yV (aw (d.au.getD i 0))),(6,{av:=some (AV.own 3 (af aU [aE (d.au.getD i 0)])),b:=false})]) [yR (↑i:Int),yB (i<(aj d.au).length) (by simp only [aD];omega),yI Am,yI (gJ (d.au.getD i 0)),yB (((af cV (List.map (fun x↦ [aE x]) (List.take i d.au))).length+1)*24≤140737488355328) (by simp only [List.length_take,List.length_map,aG (f:=cV) (e:=1) (fun _=>rfl)];omega)]<|aM<|ak<|zX (yH [(0,yV (ai ((↑i:Int)+1)))]) [yN ((↑i:Int)+1)] (aI (i+1) (by assumption) ah (e_ [.vS 29 5,.vS 38 6,.aa [19,18,15,4,3,2,1,0,20,5,6] [5,6,1]] [] [5,6,1] [yI s1,yI s2,yB (List.map (aQ 37) (List.map (ky 38 6) (dr 6 (Row.mk 1 false true (List.map (ky 29 5) (dr 5 (Row.mk 1 false true (List.map (aQ 38) (dr 6 (Row.mk 1 false true (List.map (aQ 37) (gp 36 (Row.mk 3 true false (af aU [aE (d.au.getD i 0)])) (Row.mk 1 false true (List.map (aQ 36) (List.map (aQ 28) (List.map (aQ 29) (dr 5 (Row.mk 1 false true (List.map (aQ 28) (gp 27 (Row.mk 3 true false (af aU [b_ (d.ae.getD i default)])) (Row.mk 1 false true (List.map (aQ 27) (bg d)))).cells))).cells))))).cells))).cells))).cells))).cells)=bg d) bH]))
 ·have e:i=d.ae.length:=ah
  subst e
  have t1:d.ae.take d.ae.length=d.ae:=List.take_length
  have t2:d.au.take d.ae.length=d.au:=by rw [←o5];exact List.take_length
  rw [t1,t2]
  refine zE 0<|aY<|aN<|bm<|ak<|zP 1 [yH [(1,{av:=some (AV.br [AV.sl 3 (af aU (bz (u64 (↑d.ae.length:Int))::List.map b_ d.ae)),ai 0]),b:=false})]] [.aa [10,9,21,19,18,15,4,3,2,1,0,20,5,6] [6,1]] [yI ha]<|zS<|zq<|zF 46<|a8<|zP 1 [yH [(1,{av:=some (AV.br [AV.sl 3 (af aU (bz (u64 (↑d.au.length:Int))::List.map aE d.au)),ai 0]),b:=false})]] [.aa [10,11,46,9,21,19,18,15,4,3,2,1,0,20,5,6] [1]] [yI hd]<|zS<|zq<|zF 54<|a8<|zP 1 [{hs:=[(2,{av:=some (AV.own 3 (af aU [aE d.cm])),b:=false}),(5,{av:=some (AV.own 3 (af aU [aE d.peer])),b:=false}),(8,{av:=some (AV.own 3 (af aU [dC d.box])),b:=false}),(13,yV (aw (u64 d.need))),(14,{av:=some (AV.own 3 (af aU [aE (u64 d.need)])),b:=false})],T:=15}] [.aa [3,2,54,10,11,46,9,21,19,18,15,4,1,0,20,5,6] [71,1]] [yI (gJ d.cm),yI (gJ d.peer),yI (AW d.box b1),yI (a6 d.need),yI (gJ (u64 d.need))]<|zR (cE)
end Go.Proofs.YtjgbhhnghedgdaaGreatDoor
