import Derived.Test.YtjgbhhnghedgdaaGreatDoorZpTk3
set_option linter.all false
namespace Go.Proofs.YtjgbhhnghedgdaaGreatDoor
open Go.RowKit
set_option maxRecDepth 100000
set_option maxHeartbeats 4000000
def gj (e:fo):fo :=
 if e.kind=1 then {e with name:=[],kh:=0,kr:=0} else if e.kind=2 then {e with name:=[]} else if e.kind=3 then {e with bt:=0} else
 if e.kind=4 then {e with dep:=⟨0,0,[],[],[],0,e.dep.target⟩} else {e with bF:=0,target:=0}
structure LS (f:fo) (R:Bool):Prop where
 bad:(f.dep.bF≠0∨f.dep.peer≠0∨f.dep.box.length≠0∨f.dep.ae.length≠0∨f.dep.au.length≠0∨f.dep.need≠0∨f.dep.target≠0∨f.name≠ []∨ ¬(f.kh=0∧f.kr=0)∨f.bt≠0∨f.bF≠0∨f.target≠0)->R=true
 mw:f.dep.bF=0->f.dep.peer=0->f.dep.box.length=0->f.dep.ae.length=0->f.dep.au.length=0->f.dep.need=0->f.dep.target=0->f.name= []->f.kh=0∧f.kr=0->f.bt=0->f.bF=0->f.target=0->R=false
theorem JN {x:UInt64} (h:wv x=0):x=0:=by
 have h:((x.toNat:Nat):Int)=0:=h
 exact UInt64.toNat_inj.1 (by rw [show x.toNat=0 by omega];rfl)
theorem zh {h:Int} {r:UInt64} (g:¬(!(h == 0 && (wv r == 0 && true)))=true):h=0∧r=0:=by
 simp at g
 exact ⟨g.1,JN g.2⟩
theorem EM {h:Int} {r:UInt64} (g:(!(h == 0 && (wv r == 0 && true)))=true):¬(h=0∧r=0):=by
 rintro ⟨rfl,rfl⟩
 exact absurd g (by decide)
theorem EN (e:fo) (h1:1≤e.kind) (h5:e.kind≤5):LS (gj e) (decide (¬fa e)):=by
 have key:((gj e).dep.bF=0∧(gj e).dep.peer=0∧(gj e).dep.box.length=0∧(gj e).dep.ae.length=0∧(gj e).dep.au.length=0∧(gj e).dep.need=0∧(gj e).dep.target=0∧(gj e).name= []∧((gj e).kh=0∧(gj e).kr=0)∧(gj e).bt=0∧(gj e).bF=0∧(gj e).target=0)↔fa e:=by
  unfold gj fa uY
  by_cases k1:e.kind=1
  ·rw [if_pos k1];simp [k1];grind
  rw [if_neg k1]
  by_cases k2:e.kind=2
  ·rw [if_pos k2];simp [k2];grind
  rw [if_neg k2]
  by_cases k3:e.kind=3
  ·rw [if_pos k3];simp [k3];grind
  rw [if_neg k3]
  by_cases k4:e.kind=4
  ·rw [if_pos k4];simp [k4];grind
  rw [if_neg k4]
  have k5:e.kind=5:=aj
  simp [k5];grind
 refine ⟨fun h=>?_,fun a b c d e f g h i j k l=>?_⟩
 ·rw [decide_eq_true_iff]
  intro q
  obtain ⟨a,b,c,d,m,f,g,o,i,j,k,l⟩:=key.2 q
  clear key
  generalize gj e=z at *
  rcases h with q|q|q|q|q|q|q|q|q|q|q|q<;>contradiction
 ·rw [decide_eq_false_iff_not]
  exact fun q=>q (key.1 ⟨a,b,c,d,e,f,g,h,i,j,k,l⟩)
def PQ:List (Nat×Nat):=[(9,1),(10,1),(11,1)]
theorem jB (e:fo) (h1:1≤e.kind) (h5:e.kind≤5):bK Tryz.prog 73 [.agg (bX e)] (ao (decide (¬fa e))):=by
 refine zO Tryz.func73 94<|zq (bf.k7 (fun (f:fo)=>(⟨[(2,ao false),(1,AV.addr 1 0),(0,AV.agg (bX e))],[(1,⟨1,false,true,bX f⟩)]⟩:AS)) (fun f=>(f=gj e)) bD ?_ ?_)
 ·by_cases k1:e.kind=1
  ·have hf:gj e= {e with name:=[],kh:=0,kr:=0}:=if_pos k1
   refine zq<|zB 0<|zP 1 [{}] [.aa [7,6,2,1,0] [1]] []<|dr 7 (e.kind == (1:Int)) fi<|zQ 1 [{}] [yL 4 17]<|zX {} [yL 6 17]<|aL<|ak (⟨(gj e),rfl,(eJ [.aa [2,1,0] [1]] [] [1] [yB (List.take 4 ((List.map (aR 1) (bX e)).set 3 (AV.val (Value.string (ByteArray.mk #[]))))++ [ai 0,dW]++List.drop 6 ((List.map (aR 1) (bX e)).set 3 (AV.val (Value.string (ByteArray.mk #[]))))=bX (gj e)) (by rw [hf];rfl)])⟩)
  by_cases k2:e.kind=2
  ·have hf:gj e= {e with name:=[]}:=by unfold gj;rw [if_neg k1,if_pos k2]
   refine zq<|zB 0<|zP 1 [{}] [.aa [7,6,2,1,0] [1]] []<|bj 7 (e.kind == (1:Int)) bE<|zq<|dr 12 (e.kind == (2:Int)) fi<|zX {} [yL 4 17]<|aL<|ak (⟨(gj e),rfl,(eJ [.aa [2,1,0] [1]] [] [1] [yB ((List.map (aR 1) (bX e)).set 3 (AV.val (Value.string (ByteArray.mk #[])))=bX (gj e)) (by rw [hf];rfl)])⟩)
  by_cases k3:e.kind=3
  ·have hf:gj e= {e with bt:=0}:=by unfold gj;rw [if_neg k1,if_neg k2,if_pos k3]
   refine zq<|zB 0<|zP 1 [{}] [.aa [7,6,2,1,0] [1]] []<|bj 7 (e.kind == (1:Int)) bE<|zq<|bj 12 (e.kind == (2:Int)) bE<|zP 1 [{}] [.aa [15,12,7,6,2,1,0] [1]] []<|dr 15 (e.kind == (3:Int)) fi<|zX {} [yL 7 17]<|aL<|ak (⟨(gj e),rfl,(eJ [.aa [2,1,0] [1]] [] [1] [yB ((List.map (aR 1) (bX e)).set 6 (ai 0)=bX (gj e)) (by rw [hf];rfl)])⟩)
  by_cases k4:e.kind=4
  ·have hf:gj e= {e with dep:=⟨0,0,[],[],[],0,e.dep.target⟩}:=by unfold gj;rw [if_neg k1,if_neg k2,if_neg k3,if_pos k4]
   refine zq<|zB 0<|zP 1 [{}] [.aa [7,6,2,1,0] [1]] []<|bj 7 (e.kind == (1:Int)) bE<|zq<|bj 12 (e.kind == (2:Int)) bE<|zP 1 [{}] [.aa [15,12,7,6,2,1,0] [1]] []<|bj 15 (e.kind == (3:Int)) bE<|zq<|dr 18 (e.kind == (4:Int)) fi<|zX {} [yL 14 17]<|aL<|ak<|Ms (bR.Mq 1 PQ bD) (⟨(gj e),rfl,(eJ [.aa [2,1,0] [1]] [] [1] [yB (JV PQ (ES (AS.mk [(24,AV.addr 1 7),(23,AV.agg [dW,dW,AV.nil,AV.nil,AV.nil,ai 0,aw e.dep.target]),(22,aw e.dep.target),(21,AV.addr 1 13),(20,AV.addr 1 7),(18,ao (e.kind == (4:Int))),(19,ao (e.kind == (4:Int))),(15,ao (e.kind == (3:Int))),(12,ao (e.kind == (2:Int))),(7,ao (e.kind == (1:Int))),(6,ai e.kind),(2,ao false),(1,AV.addr 1 0),(0,AV.agg (bX e))] [(1,Row.mk 1 false true (List.take 7 (List.map (aR 1) (bX e))++ [dW,dW,AV.nil,AV.nil,AV.nil,ai 0,aw e.dep.target]++List.drop 14 (List.map (aR 1) (bX e))))]) 1).cells 0=bX (gj e)) (by rw [hf];rfl)])⟩)
  have hf:gj e= {e with bF:=0,target:=0}:=by unfold gj;rw [if_neg k1,if_neg k2,if_neg k3,if_neg k4]
  refine zq<|zB 0<|zP 1 [{}] [.aa [7,6,2,1,0] [1]] []<|bj 7 (e.kind == (1:Int)) bE<|zq<|bj 12 (e.kind == (2:Int)) bE<|zP 1 [{}] [.aa [15,12,7,6,2,1,0] [1]] []<|bj 15 (e.kind == (3:Int)) bE<|zq<|bj 18 (e.kind == (4:Int)) bE<|zP 1 [{}] [.aa [25,18,15,12,7,6,2,1,0] [1]] []<|dr 25 (e.kind == (5:Int)) fi<|zQ 1 [{}] [yL 15 17]<|zX {} [yL 16 17]<|aL<|ak (⟨(gj e),rfl,(eJ [.aa [2,1,0] [1]] [] [1] [yB (((List.map (aR 1) (bX e)).set 14 (dW)).set 15 (dW)=bX (gj e)) (by rw [hf];rfl)])⟩)
 intro f hf
 have hb:LS f (decide (¬fa e)):=by rw [hf];exact EN e h1 h5
 have Qv:(af ay f.dep.ae).length=f.dep.ae.length:=by rw [aE (e:=1) (fun _=>rfl)];omega
 generalize decide (¬fa e)=R at *
 clear hf h1 h5
 refine zP 1 [{}] [.aa [3,2,1,0] [3,1]] [yL 7 7] ((Classical.em (f.dep.bF=0)).symm.elim (fun g1=>?_) (fun g1=>?_))
 ·skip
  refine zP 2 [yH [(2,yV (ao (f.dep.bF != 0)))],{}] [.aa [2,4,3,1,0] [3,1]] ([yI (cI f.dep.bF 0)]++yM 4 (yS ((f.dep.bF != 0)=true))++yM 44 (yR true))<|zR (zV [yB (Value.bool true=Value.bool R) (by rw [hb.bad (.inl g1)])])
 refine (Classical.em (f.dep.peer=0)).symm.elim (fun g2=>?_) (fun g2=>?_)
 ·skip
  refine zP 2 [yH ([(2,yV (ao (f.dep.bF != 0))),(6,{av:=some (ao (f.dep.peer != 0)),g:=false}),(7,{b:=false})]++yg [4,5]),{}] [.aa [2,4,3,1,0] [3,1]] ([yI (cI f.dep.bF 0)]++yM 3 (yS ((f.dep.bF != 0)=false))++ [yI (cI f.dep.peer 0),yS ((f.dep.bF != 0)=false)]++yM 5 (yS ((f.dep.peer != 0)=true))++yM 39 (yR true))<|zR (zV [yB (Value.bool true=Value.bool R) (by rw [hb.bad (.inr (.inl g2))])])
 refine (Classical.em ((↑f.dep.box.length:Int)=0)).symm.elim (fun g3=>?_) (fun g3=>?_)
 ·skip
  refine zP 2 [yH ([(2,yV (ao (f.dep.bF != 0))),(6,{av:=some (ao (f.dep.peer != 0)),g:=false}),(7,{b:=false}),(11,{k:=f.dep.box.length,g:=false}),(13,{b:=false})]++yg [4,5,9,10,12]),{}] [.aa [2,4,3,1,0] [3,1]] ([yI (cI f.dep.bF 0)]++yM 3 (yS ((f.dep.bF != 0)=false))++ [yI (cI f.dep.peer 0),yS ((f.dep.bF != 0)=false)]++yM 3 (yS ((f.dep.peer != 0)=false))++ [yI (aC f.dep.box)]++yM 2 (yS ((f.dep.peer != 0)=false))++yM 5 (yS (((↑f.dep.box.length:Int) != (0:Int))=true))++yM 34 (yR true))<|zR (zV [yB (Value.bool true=Value.bool R) (by rw [hb.bad (.inr (.inr (.inl aj)))])])
 refine (Classical.em ((↑(af ay f.dep.ae).length:Int)=0)).symm.elim (fun g4=>?_) (fun g4=>?_)
 ·skip
  refine zP 2 [yH ([(2,yV (ao (f.dep.bF != 0))),(6,{av:=some (ao (f.dep.peer != 0)),g:=false}),(7,{b:=false}),(11,{k:=f.dep.box.length,g:=false}),(13,{b:=false}),(17,{k:=(af ay f.dep.ae).length,g:=false}),(19,{b:=false})]++yg [4,5,9,10,12,15,16,18]),{}] [.aa [2,4,3,1,0] [3,1]] ([yI (cI f.dep.bF 0)]++yM 3 (yS ((f.dep.bF != 0)=false))++ [yI (cI f.dep.peer 0),yS ((f.dep.bF != 0)=false)]++yM 3 (yS ((f.dep.peer != 0)=false))++ [yI (aC f.dep.box)]++yM 2 (yS ((f.dep.peer != 0)=false))++yM 3 (yS (((↑f.dep.box.length:Int) != (0:Int))=false))++ [yR ((af ay f.dep.ae).length)]++yM 2 (yS (((↑f.dep.box.length:Int) != (0:Int))=false))++yM 5 (yS (((↑(af ay f.dep.ae).length:Int) != (0:Int))=true))++yM 29 (yR true))<|zR (zV [yB (Value.bool true=Value.bool R) (by rw [hb.bad (.inr (.inr (.inr (.inl aj))))])])
 refine (Classical.em ((↑f.dep.au.length:Int)=0)).symm.elim (fun g5=>?_) (fun g5=>?_)
 ·skip
  refine zP 2 [yH ([(2,yV (ao (f.dep.bF != 0))),(6,{av:=some (ao (f.dep.peer != 0)),g:=false}),(7,{b:=false}),(11,{k:=f.dep.box.length,g:=false}),(13,{b:=false}),(17,{k:=(af ay f.dep.ae).length,g:=false}),(19,{b:=false}),(23,{k:=f.dep.au.length,g:=false}),(25,{b:=false})]++yg [4,5,9,10,12,15,16,18,21,22,24]),{}] [.aa [2,4,3,1,0] [3,1]] ([yI (cI f.dep.bF 0)]++yM 3 (yS ((f.dep.bF != 0)=false))++ [yI (cI f.dep.peer 0),yS ((f.dep.bF != 0)=false)]++yM 3 (yS ((f.dep.peer != 0)=false))++ [yI (aC f.dep.box)]++yM 2 (yS ((f.dep.peer != 0)=false))++yM 3 (yS (((↑f.dep.box.length:Int) != (0:Int))=false))++ [yR ((af ay f.dep.ae).length)]++yM 2 (yS (((↑f.dep.box.length:Int) != (0:Int))=false))++yM 3 (yS (((↑(af ay f.dep.ae).length:Int) != (0:Int))=false))++ [yI (aB f.dep.au)]++yM 2 (yS (((↑(af ay f.dep.ae).length:Int) != (0:Int))=false))++yM 4 (yS (((↑f.dep.au.length:Int) != (0:Int))=true))++yM 25 (yR true))<|zR (zV [yB (Value.bool true=Value.bool R) (by rw [hb.bad (.inr (.inr (.inr (.inr (.inl aj)))))])])
 refine (Classical.em (f.dep.need=0)).symm.elim (fun g6=>?_) (fun g6=>?_)
 ·skip
  refine zP 2 [yH ([(2,yV (ao (f.dep.bF != 0))),(6,{av:=some (ao (f.dep.peer != 0)),g:=false}),(7,{b:=false}),(11,{k:=f.dep.box.length,g:=false}),(13,{b:=false}),(17,{k:=(af ay f.dep.ae).length,g:=false}),(19,{b:=false}),(23,{k:=f.dep.au.length,g:=false}),(25,{b:=false}),(30,{b:=false})]++yg [4,5,9,10,12,15,16,18,21,22,24,27,28,29]),{}] [.aa [2,4,3,1,0] [3,1]] ([yI (cI f.dep.bF 0)]++yM 3 (yS ((f.dep.bF != 0)=false))++ [yI (cI f.dep.peer 0),yS ((f.dep.bF != 0)=false)]++yM 3 (yS ((f.dep.peer != 0)=false))++ [yI (aC f.dep.box)]++yM 2 (yS ((f.dep.peer != 0)=false))++yM 3 (yS (((↑f.dep.box.length:Int) != (0:Int))=false))++ [yR ((af ay f.dep.ae).length)]++yM 2 (yS (((↑f.dep.box.length:Int) != (0:Int))=false))++yM 3 (yS (((↑(af ay f.dep.ae).length:Int) != (0:Int))=false))++ [yI (aB f.dep.au)]++yM 2 (yS (((↑(af ay f.dep.ae).length:Int) != (0:Int))=false))++yM 4 (yS (((↑f.dep.au.length:Int) != (0:Int))=false))++yM 4 (yS ((f.dep.need != (0:Int))=true))++yM 21 (yR true))<|zR (zV [yB (Value.bool true=Value.bool R) (by rw [hb.bad (.inr (.inr (.inr (.inr (.inr (.inl g6))))))])])
 refine zP 1 [yH ([(2,yV (ao (f.dep.bF != 0))),(6,{av:=some (ao (f.dep.peer != 0)),g:=false}),(7,{b:=false}),(11,{k:=f.dep.box.length,g:=false}),(13,{b:=false}),(17,{k:=(af ay f.dep.ae).length,g:=false}),(19,{b:=false}),(23,{k:=f.dep.au.length,g:=false}),(25,{b:=false}),(30,{b:=false}),(34,{av:=some (ao (f.dep.target != 0)),g:=false}),(35,{b:=false})]++yg [4,5,9,10,12,15,16,18,21,22,24,27,28,29,32,33])] [.aa [4,3,2,1,0] [3,1]] ([yI (cI f.dep.bF 0)]++yM 3 (yS ((f.dep.bF != 0)=false))++ [yI (cI f.dep.peer 0),yS ((f.dep.bF != 0)=false)]++yM 3 (yS ((f.dep.peer != 0)=false))++ [yI (aC f.dep.box)]++yM 2 (yS ((f.dep.peer != 0)=false))++yM 3 (yS (((↑f.dep.box.length:Int) != (0:Int))=false))++ [yR ((af ay f.dep.ae).length)]++yM 2 (yS (((↑f.dep.box.length:Int) != (0:Int))=false))++yM 3 (yS (((↑(af ay f.dep.ae).length:Int) != (0:Int))=false))++ [yI (aB f.dep.au)]++yM 2 (yS (((↑(af ay f.dep.ae).length:Int) != (0:Int))=false))++yM 4 (yS (((↑f.dep.au.length:Int) != (0:Int))=false))++yM 3 (yS ((f.dep.need != (0:Int))=false))++ [yI (cI f.dep.target 0),yS ((f.dep.need != (0:Int))=false)]) ((Classical.em (f.dep.target=0)).symm.elim (fun g7=>?_) (fun g7=>?_))
 ·skip
  refine zP 1 [{}] [.aa [2,4,3,1,0] [3,1]] (yM 4 (yS ((f.dep.target != 0)=true))++yM 17 (yR true))<|zR (zV [yB (Value.bool true=Value.bool R) (by rw [hb.bad (.inr (.inr (.inr (.inr (.inr (.inr (.inl g7)))))))])])
 refine (Classical.em (f.name= [])).symm.elim (fun g8=>?_) (fun g8=>?_)
 ·skip
  refine zP 1 [yH ([(4,{av:=some (ao (f.name != [])),g:=false}),(5,{b:=false})]++yg [2,3])] [.aa [2,4,3,1,0] [3,1]] (yM 3 (yS ((f.dep.target != 0)=false))++ [yI (Mb f.name []),yS ((f.dep.target != 0)=false)]++yM 5 (yS ((f.name != [])=true))++yM 12 (yR true))<|zR (zV [yB (Value.bool true=Value.bool R) (by rw [hb.bad (.inr (.inr (.inr (.inr (.inr (.inr (.inr (.inl g8))))))))])])
 refine (Classical.em ((!(f.kh == (0:Int) && (wv f.kr == (0:Int) && true)))=true)).elim (fun g9=>?_) (fun g9=>?_)
 ·have Sk:¬(f.kh=0∧f.kr=0):=EM g9
  refine zP 1 [yH ([(4,{av:=some (ao (f.name != [])),g:=false}),(5,{b:=false}),(11,{b:=false})]++yg [2,3,7,8,9,10])] [.aa [2,4,3,1,0] [3,1]] (yM 3 (yS ((f.dep.target != 0)=false))++ [yS (ao (!(ByteArray.mk f.name.toArray).toList == (ByteArray.mk #[]).toList)=ao (f.name != [])),yS ((f.dep.target != 0)=false)]++yM 5 (yS ((f.name != [])=false))++yM 4 (yI g9)++yM 8 (yR true))<|zR (zV [yB (Value.bool true=Value.bool R) (by rw [hb.bad (.inr (.inr (.inr (.inr (.inr (.inr (.inr (.inr (.inl Sk)))))))))])])
 refine (Classical.em (f.bt=0)).symm.elim (fun g10=>?_) (fun g10=>?_)
 ·skip
  refine zP 1 [yH ([(4,{av:=some (ao (f.name != [])),g:=false}),(5,{b:=false}),(11,{b:=false}),(16,{b:=false})]++yg [2,3,7,8,9,10,13,14,15])] [.aa [2,4,3,1,0] [3,1]] (yM 3 (yS ((f.dep.target != 0)=false))++ [yS (ao (!(ByteArray.mk f.name.toArray).toList == (ByteArray.mk #[]).toList)=ao (f.name != [])),yS ((f.dep.target != 0)=false)]++yM 5 (yS ((f.name != [])=false))++yM 4 (yS ((!(f.kh == (0:Int) && (wv f.kr == (0:Int) && true)))=false))++yM 4 (yS ((f.bt != (0:Int))=true))++yM 4 (yR true))<|zR (zV [yB (Value.bool true=Value.bool R) (by rw [hb.bad (.inr (.inr (.inr (.inr (.inr (.inr (.inr (.inr (.inr (.inl g10))))))))))])])
 refine (Classical.em (f.bF=0)).symm.elim (fun g11=>?_) (fun g11=>?_)
 ·skip
  refine zP 1 [yH ([(4,{av:=some (ao (f.name != [])),g:=false}),(5,{b:=false}),(11,{b:=false}),(16,{b:=false}),(20,{av:=some (ao (f.bF != 0)),g:=false}),(21,{b:=false})]++yg [2,3,7,8,9,10,13,14,15,18,19])] [.aa [2,4,3,1,0] [3,1]] (yM 3 (yS ((f.dep.target != 0)=false))++ [yS (ao (!(ByteArray.mk f.name.toArray).toList == (ByteArray.mk #[]).toList)=ao (f.name != [])),yS ((f.dep.target != 0)=false)]++yM 5 (yS ((f.name != [])=false))++yM 4 (yS ((!(f.kh == (0:Int) && (wv f.kr == (0:Int) && true)))=false))++yM 3 (yS ((f.bt != (0:Int))=false))++ [yI (cI f.bF 0),yS ((f.bt != (0:Int))=false)]++yM 4 (yS ((f.bF != 0)=true)))<|zR (zV [yB (Value.bool true=Value.bool R) (by rw [hb.bad (.inr (.inr (.inr (.inr (.inr (.inr (.inr (.inr (.inr (.inr (.inl g11)))))))))))])])
 have Sk:f.kh=0∧f.kr=0:=zh g9
 by_cases g12:f.target=0
 ·skip
  refine zP 1 [yH ([(4,{av:=some (ao (f.name != [])),g:=false}),(5,{b:=false}),(11,{b:=false}),(16,{b:=false}),(20,{av:=some (ao (f.bF != 0)),g:=false}),(21,{b:=false}),(25,{av:=some (ao (f.target != 0)),g:=false}),(26,{b:=false})]++yg [2,3,7,8,9,10,13,14,15,18,19,23,24])] [.aa [2,4,3,1,0] [3,1]] (yM 3 (yS ((f.dep.target != 0)=false))++ [yS (ao (!(ByteArray.mk f.name.toArray).toList == (ByteArray.mk #[]).toList)=ao (f.name != [])),yS ((f.dep.target != 0)=false)]++yM 5 (yS ((f.name != [])=false))++yM 4 (yS ((!(f.kh == (0:Int) && (wv f.kr == (0:Int) && true)))=false))++yM 3 (yS ((f.bt != (0:Int))=false))++ [yS (ao (wv f.bF != (0:Int))=ao (f.bF != 0)),yS ((f.bt != (0:Int))=false)]++yM 3 (yS ((f.bF != 0)=false))++ [yS (ao (wv f.target != (0:Int))=ao (f.target != 0)),yS ((f.bF != 0)=false)])<|zR (zV [yB (Value.bool (f.target != 0)=Value.bool R) (by rw [hb.mw g1 g2 aj aj aj g6 g7 g8 Sk g10 g11 g12];simp [g12])])
 ·skip
  refine zP 1 [yH ([(4,{av:=some (ao (f.name != [])),g:=false}),(5,{b:=false}),(11,{b:=false}),(16,{b:=false}),(20,{av:=some (ao (f.bF != 0)),g:=false}),(21,{b:=false}),(25,{av:=some (ao (f.target != 0)),g:=false}),(26,{b:=false})]++yg [2,3,7,8,9,10,13,14,15,18,19,23,24])] [.aa [2,4,3,1,0] [3,1]] (yM 3 (yS ((f.dep.target != 0)=false))++ [yS (ao (!(ByteArray.mk f.name.toArray).toList == (ByteArray.mk #[]).toList)=ao (f.name != [])),yS ((f.dep.target != 0)=false)]++yM 5 (yS ((f.name != [])=false))++yM 4 (yS ((!(f.kh == (0:Int) && (wv f.kr == (0:Int) && true)))=false))++yM 3 (yS ((f.bt != (0:Int))=false))++ [yS (ao (wv f.bF != (0:Int))=ao (f.bF != 0)),yS ((f.bt != (0:Int))=false)]++yM 3 (yS ((f.bF != 0)=false))++ [yI (cI f.target 0),yS ((f.bF != 0)=false)])<|zR (zV [yB (Value.bool (f.target != 0)=Value.bool R) (by rw [hb.bad (.inr (.inr (.inr (.inr (.inr (.inr (.inr (.inr (.inr (.inr (.inr g12)))))))))))];simp [g12])])
structure yP (d:mU):Prop where
 box:d.box.length≤1000000
 F_:d.ae.length≤1000000
 QF:d.au.length≤1000000
 NI:∀i,i<d.ae.length->(d.ae.getD i default).length≤1000
theorem u9 (d:mU) (hB:yP d):bK Tryz.prog 161 [.agg (bg d)] (ai (fC d)):=by
 have sQ:(af ay d.ae).length=d.ae.length:=by rw [aE (e:=1) (fun _=>rfl)];omega
 obtain ⟨b1,b2,b3,hh⟩:=hB
 by_cases c1:1024<d.box.length
 ·have e:fC d=8:=if_pos c1
  refine zO Tryz.func161 62<|zq<|zS<|zP 1 [yH [(2,{k:=d.box.length})]] [.aa [10,2,1,0] [1]] [yI (aC d.box)]<|ib 10 ((↑d.box.length:Int)>1024)<|zq<|dt (zV [yJ 8 (fC d) (by rw [e])])
 by_cases c2:nD d.ae.length d.need
 ·have e:fC d=9:=by unfold fC;rw [if_neg c1,if_pos c2]
  unfold nD at c2
  by_cases k1:d.ae.length<1
  ·refine zO Tryz.func161 62<|zq<|zS<|zP 1 [yH [(2,{k:=d.box.length})]] [.aa [10,2,1,0] [1]] [yI (aC d.box)]<|dp 10 ((↑d.box.length:Int)>1024)<|a7<|zP 1 [yH [(2,{k:=(af ay d.ae).length})]] [.aa [3,10,2,1,0] [1]] [yR ((af ay d.ae).length)]<|zS<|zP 1 [{}] [.aa [30,3,10,2,1,0] [1]] (yM 3 (yT ((↑(af ay d.ae).length:Int)<1))++yM 9 (yR true))<|zT 30<|zq<|dt (zV [yJ 9 (fC d) (by rw [e])])
  by_cases k2:8<d.ae.length
  ·refine zO Tryz.func161 62<|zq<|zS<|zP 1 [yH [(2,{k:=d.box.length})]] [.aa [10,2,1,0] [1]] [yI (aC d.box)]<|dp 10 ((↑d.box.length:Int)>1024)<|a7<|zP 1 [yH [(2,{k:=(af ay d.ae).length})]] [.aa [3,10,2,1,0] [1]] [yR ((af ay d.ae).length)]<|zS<|zP 1 [yH ([(5,{b:=false})]++yg [3,4])] [.aa [30,3,10,2,1,0] [1]] (yM 3 (yF ((↑(af ay d.ae).length:Int)<1))++yM 4 (yT ((↑(af ay d.ae).length:Int)>8))++yM 5 (yR true))<|zT 30<|zq<|dt (zV [yJ 9 (fC d) (by rw [e])])
  by_cases k3:d.need<1
  ·refine zO Tryz.func161 62<|zq<|zS<|zP 1 [yH [(2,{k:=d.box.length})]] [.aa [10,2,1,0] [1]] [yI (aC d.box)]<|dp 10 ((↑d.box.length:Int)>1024)<|a7<|zP 1 [yH [(2,{k:=(af ay d.ae).length})]] [.aa [3,10,2,1,0] [1]] [yR ((af ay d.ae).length)]<|zS<|zP 1 [yH ([(5,{b:=false}),(10,{b:=false})]++yg [3,4,7,8,9])] [.aa [30,3,10,2,1,0] [1]] (yM 3 (yF ((↑(af ay d.ae).length:Int)<1))++yM 4 (yF ((↑(af ay d.ae).length:Int)>8))++yM 5 (yT (d.need<1)))<|zT 30<|zq<|dt (zV [yJ 9 (fC d) (by rw [e])])
  ·refine zO Tryz.func161 62<|zq<|zS<|zP 1 [yH [(2,{k:=d.box.length})]] [.aa [10,2,1,0] [1]] [yI (aC d.box)]<|dp 10 ((↑d.box.length:Int)>1024)<|a7<|zP 1 [yH [(2,{k:=(af ay d.ae).length})]] [.aa [3,10,2,1,0] [1]] [yR ((af ay d.ae).length)]<|zS<|zP 1 [yH ([(5,{b:=false}),(10,{b:=false}),(16,{b:=false})]++yg [3,4,7,8,9,12,13,14,15])] [.aa [30,3,10,2,1,0] [1]] (yM 3 (yF ((↑(af ay d.ae).length:Int)<1))++yM 4 (yF ((↑(af ay d.ae).length:Int)>8))++yM 5 (yF (d.need<1)))<|ib 30 (d.need>(↑(af ay d.ae).length:Int))<|zq<|dt (zV [yJ 9 (fC d) (by rw [e])])
 by_cases c3:d.au.length≠d.ae.length
 ·have e:fC d=4:=by unfold fC;rw [if_neg c1,if_neg c2,if_pos c3]
  unfold nD at c2
  refine zO Tryz.func161 62<|zq<|zS<|zP 1 [yH [(2,{k:=d.box.length})]] [.aa [10,2,1,0] [1]] [yI (aC d.box)]<|dp 10 ((↑d.box.length:Int)>1024)<|a7<|zP 1 [yH [(2,{k:=(af ay d.ae).length})]] [.aa [3,10,2,1,0] [1]] [yR ((af ay d.ae).length)]<|zS<|zP 1 [yH ([(5,{b:=false}),(10,{b:=false}),(16,{b:=false})]++yg [3,4,7,8,9,12,13,14,15])] [.aa [30,3,10,2,1,0] [1]] (yM 3 (yF ((↑(af ay d.ae).length:Int)<1))++yM 4 (yF ((↑(af ay d.ae).length:Int)>8))++yM 5 (yF (d.need<1)))<|dp 30 (d.need>(↑(af ay d.ae).length:Int))<|a7<|zS<|zP 1 [yH [(2,{k:=d.au.length})]] [.aa [35,30,3,10,2,1,0] [1]] [yI (aB d.au)]<|dr 35 ((↑d.au.length:Int) != (↑(af ay d.ae).length:Int)) (by simp;omega)<|zq<|dt (zV [yJ 4 (fC d) (by rw [e])])
 have e:fC d=ff (mu d.ae) d.ae.length:=by unfold fC;rw [if_neg c1,if_neg c2,if_neg c3]
 rw [e]
 have Vw:d.au.length=d.ae.length:=aj
 unfold nD at c2
 refine zO Tryz.func161 62<|zq<|zS<|zP 1 [yH [(2,{k:=d.box.length})]] [.aa [10,2,1,0] [1]] [yI (aC d.box)]<|dp 10 ((↑d.box.length:Int)>1024)<|a7<|zP 1 [yH [(2,{k:=(af ay d.ae).length})]] [.aa [3,10,2,1,0] [1]] [yR ((af ay d.ae).length)]<|zS<|zP 1 [yH ([(5,{b:=false}),(10,{b:=false}),(16,{b:=false})]++yg [3,4,7,8,9,12,13,14,15])] [.aa [30,3,10,2,1,0] [1]] (yM 3 (yF ((↑(af ay d.ae).length:Int)<1))++yM 4 (yF ((↑(af ay d.ae).length:Int)>8))++yM 5 (yF (d.need<1)))<|dp 30 (d.need>(↑(af ay d.ae).length:Int))<|a7<|zS<|zP 1 [yH [(2,{k:=d.au.length})]] [.aa [35,30,3,10,2,1,0] [1]] [yI (aB d.au)]<|bj 35 ((↑d.au.length:Int) != (↑(af ay d.ae).length:Int)) (by simp_all)<|a7<|zS<|zQ 1 [yH [(2,{k:=(af ay d.ae).length})]] [yR ((af ay d.ae).length)]<|zB 0 (zL (fun (i:Nat)=>(⟨[(38,ai (↑(af ay d.ae).length:Int)),(37,AV.sl 1 (af ay d.ae)),(35,ao ((↑d.au.length:Int) != (↑(af ay d.ae).length:Int))),(30,ao (decide (d.need>(↑(af ay d.ae).length:Int)))),(3,ai (↑(af ay d.ae).length:Int)),(10,ao (decide ((↑d.box.length:Int)>1024))),(1,AV.addr 1 0),(0,AV.agg (bg d)),(39,ai i)],[(1,⟨1,false,true,List.map (aR 1) (bg d)⟩)]⟩:AS)) (fun i=>(i≤d.ae.length∧ff (mu d.ae) i=0)) (fun i=>(d.ae.length-i)) (0) ?_ (zW [.aa [38,37,35,30,3,10,1,0,39] [1]]) ?_)
 ·exact ⟨aj,rfl⟩
 rintro i ⟨hi,h0⟩
 refine zq<|zS (zD 40 ((↑i:Int)<(↑(af ay d.ae).length:Int)) (fun g=>?_) (fun g=>?_))
 ·have dD:i<d.ae.length:=aj
  have gT:=jn dD
  have hA:=hh i dD
  have stop:∀e:Int,e≠0->mu d.ae i=e->ff (mu d.ae) d.ae.length=e:=fun e he h1=>by
   have k2:ff (mu d.ae) (i+1)=mu d.ae i:=by show (if _ then _ else _)=_;rw [if_neg aj]
   rw [k9 aj k2 d.ae.length aj,h1]
  by_cases c5:dV (d.ae.getD i default)=0
  case neg =>
   have k1:=stop _ c5 (H7 rfl c5)
   refine a7<|zS<|zB 1<|zP 1 [yH [(1,{k:=i}),(2,yV (cZ (d.ae.getD i default)))]] [.aa [5,4,40,38,37,35,30,3,10,1,0,39] [1]] [yR (↑i:Int),yO (i<(af ay d.ae).length),yI gT]<|zS<|zP 2 [yH [(1,yV (ai (dV (d.ae.getD i default))))],{}] [.aa [47,6,5,4,40,38,37,35,30,3,10,1,0,39] [1]] [yI (er (d.ae.getD i default) hA)]<|dr 47 (dV (d.ae.getD i default) != (0:Int)) (by simp_all)<|zP 1 [{}] [.aa [2,47,6,5,4,40,38,37,35,30,3,10,1,0,39] [1]] []<|dt<|bc<|aK<|dz<|bc<|aK (zV [yJ (dV (d.ae.getD i default)) (ff (mu d.ae) d.ae.length) (by rw [k1])])
  by_cases c6:0<i
  ·obtain ⟨k,hk⟩:∃k,k+1=i:=⟨i-1,aj⟩
   have xO:=jn (l:=d.ae) (i:=k) aj
   have c8:=H6 c5 hk
   by_cases c7:Fa (d.ae.getD i default) (d.ae.getD k default)=true
   ·have k1:=stop 7 aj (by rw [c8,if_pos c7])
    refine a7<|zS<|zB 1<|zP 1 [yH [(1,{k:=i}),(2,yV (cZ (d.ae.getD i default)))]] [.aa [5,4,40,38,37,35,30,3,10,1,0,39] [1]] [yR (↑i:Int),yO (i<(af ay d.ae).length),yI gT]<|zS<|zP 2 [yH [(1,yV (ai (dV (d.ae.getD i default))))],{}] [.aa [47,6,5,4,40,38,37,35,30,3,10,1,0,39] [1]] [yI (er (d.ae.getD i default) hA)]<|bj 47 (dV (d.ae.getD i default) != (0:Int)) (by simp_all)<|a7<|zP 1 [yH [(7,yV (ai ↑k)),(8,{k:=k}),(9,yV (cZ (d.ae.getD k default)))]] [.aa [60,47,6,5,4,40,38,37,35,30,3,10,1,0,39] [1]] (yM 5 (yT ((↑i:Int)>0))++ [yB (ai (IntKind.i64.wrap ((↑i:Int)-1))=ai ↑k) (congrArg (fun n=>AV.val (.int .i64 n)) (by rw [IntKind.wrap_i64];omega)),yT ((↑i:Int)>0),yR (↑k:Int),yO (k<(af ay d.ae).length),yT ((↑i:Int)>0),yI xO]++yM 2 (yT ((↑i:Int)>0)))<|dr 60 (Op.bytesLess (ByteArray.mk (d.ae.getD i default).toArray).toList (ByteArray.mk (d.ae.getD k default).toArray).toList || (ByteArray.mk (d.ae.getD i default).toArray).toList == (ByteArray.mk (d.ae.getD k default).toArray).toList) (by assumption)<|zq<|zR<|bc<|aK<|dz<|bc<|aK (zV [yJ 7 (ff (mu d.ae) d.ae.length) (by rw [k1])])
   ·have c9:Fa (d.ae.getD i default) (d.ae.getD k default)=false:=by simpa using c7
    rw [if_neg c7] at c8
    refine a7<|zS<|zB 1<|zP 1 [yH [(1,{k:=i}),(2,yV (cZ (d.ae.getD i default)))]] [.aa [5,4,40,38,37,35,30,3,10,1,0,39] [1]] [yR (↑i:Int),yO (i<(af ay d.ae).length),yI gT]<|zS<|zP 2 [yH [(1,yV (ai (dV (d.ae.getD i default))))],{}] [.aa [47,6,5,4,40,38,37,35,30,3,10,1,0,39] [1]] [yI (er (d.ae.getD i default) hA)]<|bj 47 (dV (d.ae.getD i default) != (0:Int)) (by simp_all)<|a7<|zP 1 [yH [(7,yV (ai ↑k)),(8,{k:=k}),(9,yV (cZ (d.ae.getD k default)))]] [.aa [60,47,6,5,4,40,38,37,35,30,3,10,1,0,39] [1]] (yM 5 (yT ((↑i:Int)>0))++ [yB (ai (IntKind.i64.wrap ((↑i:Int)-1))=ai ↑k) (congrArg (fun n=>AV.val (.int .i64 n)) (by rw [IntKind.wrap_i64];omega)),yT ((↑i:Int)>0),yR (↑k:Int),yO (k<(af ay d.ae).length),yT ((↑i:Int)>0),yI xO]++yM 2 (yT ((↑i:Int)>0)))<|bj 60 (Op.bytesLess (ByteArray.mk (d.ae.getD i default).toArray).toList (ByteArray.mk (d.ae.getD k default).toArray).toList || (ByteArray.mk (d.ae.getD i default).toArray).toList == (ByteArray.mk (d.ae.getD k default).toArray).toList) (by assumption)<|zK<|aL<|ak<|zX (yH [(0,yV (ai ((↑i:Int)+1)))]) [yN ((↑i:Int)+1)] (aH (i+1) ⟨aj,by show (if _ then _ else _)=_;rw [if_neg aj,c8]⟩ aj (zW [.aa [38,37,35,30,3,10,1,0,39] [1]]))
  ·have e:i=0:=aj
   have h1:mu d.ae i=0:=by subst e;exact Ed c5
   refine a7<|zS<|zB 1<|zP 1 [yH [(1,{k:=i}),(2,yV (cZ (d.ae.getD i default)))]] [.aa [5,4,40,38,37,35,30,3,10,1,0,39] [1]] [yR (↑i:Int),yO (i<(af ay d.ae).length),yI gT]<|zS<|zP 2 [yH [(1,yV (ai (dV (d.ae.getD i default))))],{}] [.aa [47,6,5,4,40,38,37,35,30,3,10,1,0,39] [1]] [yI (er (d.ae.getD i default) hA)]<|bj 47 (dV (d.ae.getD i default) != (0:Int)) (by simp_all)<|a7<|zP 1 [yH ([(11,{b:=false})]++yg [3,4,5,6,7,8,9,10])] [.aa [60,47,6,5,4,40,38,37,35,30,3,10,1,0,39] [1]] (yM 9 (yF ((↑i:Int)>0)))<|zF 60<|zK<|aL<|ak<|zX (yH [(0,yV (ai ((↑i:Int)+1)))]) [yN ((↑i:Int)+1)] (aH (i+1) ⟨aj,by show (if _ then _ else _)=_;rw [if_neg aj,h1]⟩ aj (zW [.aa [38,37,35,30,3,10,1,0,39] [1]]))
 ·have e:i=d.ae.length:=aj
  subst e
  refine zE 0<|a_<|aP<|bo<|ak<|zq<|zR (zV [yJ 0 (ff (mu d.ae) d.ae.length) (by rw [h0])])
def L8 (d:mU):List (List fE):=[[aF d.bF],[aF d.peer],[dQ d.box],bC (u64 d.ae.length)::d.ae.map cy,bC (u64 d.au.length)::d.au.map aF,[aF (u64 d.need)]]
theorem wy {T:Type} (f:T->fE) (l:List T) {i:Nat} (h:i<l.length) (z:T):af df ((l.take i).map fun x=>[f x])++ [.sl 3 (af aY [f (l.getD i z)])]=af df ((l.take (i+1)).map fun x=>[f x]):=by
 rw [List.take_add_one,List.map_append,←fB,List.getD_eq_getElem?_getD,List.getElem?_eq_getElem h];rfl
theorem vA (d:mU) (hB:yP d):bK Tryz.prog 124 [.agg (bg d)] (.br [.own 1 (af df (if fC d=0 then L8 d else [])),ai (fC d)]):=by
 by_cases c:fC d=0
 case neg =>
  rw [if_neg c]
  refine zO Tryz.func124 72<|zq<|zS<|zP 2 [yH [(1,yV (ai (fC d)))],yH [(1,yV (ao true))]] [.aa [15,4,3,2,1,0] [1]] [yI (u9 d hB),yB (ao (fC d != (0:Int))=ao true) (by simp [c])]<|zT 15<|zq<|dt (bU)
 rw [if_pos c,c]
 obtain ⟨o1,o2,o3,o4,o5,o6⟩:=I4 c
 have sQ:(af ay d.ae).length=d.ae.length:=by rw [aE (e:=1) (fun _=>rfl)];omega
 obtain ⟨v1,v2,v3,v4⟩:=oW (xs:=d.ae.map cy) (mn fun x hx=>sK (o6 x hx)) (by rw [List.length_map];omega) (by rw [List.length_map];omega)
 obtain ⟨w1,w2,w3,w4⟩:=oW (xs:=d.au.map aF) (mn fun x _=>.uint x) (by rw [List.length_map];omega) (by rw [List.length_map];omega)
 have ha:=rz _ v1 v2 v3
 have hd:=rz _ w1 w2 w3
 rw [v4,List.length_map,List.map_map] at ha
 rw [w4,List.length_map,List.map_map] at hd
 have hc:=u9 d hB
 rw [c] at hc
 obtain ⟨b1,b2,b3,hh⟩:=hB
 refine zO Tryz.func124 72<|zq<|zS<|zP 2 [yH [(1,yV (ai 0))],{}] [.aa [15,4,3,2,1,0] [1]] [yI hc]<|zF 15<|a7<|zq<|zS<|zQ 1 [yH [(2,{k:=(af ay d.ae).length})]] [yR ((af ay d.ae).length)]<|zB 0 (zL (fun (i:Nat)=>(⟨[(19,ai (↑(af ay d.ae).length:Int)),(18,AV.sl 1 (af ay d.ae)),(15,ao ((0:Int) != (0:Int))),(4,ai 0),(3,ai 0),(2,AV.nil),(1,AV.addr 1 0),(0,AV.agg (bg d)),(20,ai i),(5,AV.ref 5),(6,AV.ref 6)],[(5,⟨1,true,false,af df ((d.ae.take i).map fun x=>[cy x])⟩),(6,⟨1,true,false,af df ((d.au.take i).map fun x=>[aF x])⟩),(1,⟨1,false,true,bg d⟩)]⟩:AS)) (fun i=>(i≤d.ae.length)) (fun i=>(d.ae.length-i)) (0) ?_ (zW [.nil 5 5 1,.nil 6 6 1,.aa [19,18,15,4,3,2,1,0,20,5,6] [5,6,1]]) ?_)
 ·omega
 intro i hi
 refine zq<|zS (zD 21 ((↑i:Int)<(↑(af ay d.ae).length:Int)) (fun g=>?_) (fun g=>?_))
 ·have dD:i<d.ae.length:=aj
  have gT:=jn dD
  have xO:=dB (l:=d.au) (k:=i) aj
  have hA:=hh i dD
  have hz:=qA _ hA
  have s1:=wy cy d.ae dD default
  have s2:=wy aF d.au (i:=i) aj 0
  refine a7<|zS<|zB 1<|zP 2 [yH [(1,{k:=i}),(2,yV (cZ (d.ae.getD i default)))],yH [(2,{av:=some (AV.own 3 (af aY [cy (d.ae.getD i default)])),b:=false})]] [.aa [5,8,7,21,19,18,15,4,3,2,1,0,20,6] [29,6,1]] [yR (↑i:Int),yO (i<(af ay d.ae).length),yI gT,yI (tt (d.ae.getD i default)),yB (((af df (List.map (fun x↦ [cy x]) (List.take i d.ae))).length+1)*24≤140737488355328) (by simp only [List.length_take,List.length_map,aE (f:=df) (e:=1) (fun _=>rfl)];omega)]<|zX (yH [(4,{k:=i}),(5,yV (aw (d.au.getD i 0))),(6,{av:=some (AV.own 3 (af aY [aF (d.au.getD i 0)])),b:=false})]) [yR (↑i:Int),yB (i<(ah d.au).length) (by simp only [aB];omega),yI xO,yI (gU (d.au.getD i 0)),yB (((af df (List.map (fun x↦ [aF x]) (List.take i d.au))).length+1)*24≤140737488355328) (by simp only [List.length_take,List.length_map,aE (f:=df) (e:=1) (fun _=>rfl)];omega)]<|aL<|ak<|zX (yH [(0,yV (ai ((↑i:Int)+1)))]) [yN ((↑i:Int)+1)] (aH (i+1) (by assumption) aj (eJ [.sm 29 5,.sm 38 6,.aa [19,18,15,4,3,2,1,0,20,5,6] [5,6,1]] [] [5,6,1] [yI s1,yI s2,yB (List.map (aR 37) (List.map (kz 38 6) (dJ 6 (Row.mk 1 false true (List.map (kz 29 5) (dJ 5 (Row.mk 1 false true (List.map (aR 38) (dJ 6 (Row.mk 1 false true (List.map (aR 37) (gD 36 (Row.mk 3 true false (af aY [aF (d.au.getD i 0)])) (Row.mk 1 false true (List.map (aR 36) (List.map (aR 28) (List.map (aR 29) (dJ 5 (Row.mk 1 false true (List.map (aR 28) (gD 27 (Row.mk 3 true false (af aY [cy (d.ae.getD i default)])) (Row.mk 1 false true (List.map (aR 27) (bg d)))).cells))).cells))))).cells))).cells))).cells))).cells)=bg d) bD]))
 ·have e:i=d.ae.length:=aj
  subst e
  have t1:d.ae.take d.ae.length=d.ae:=List.take_length
  have t2:d.au.take d.ae.length=d.au:=by rw [←o5];exact List.take_length
  rw [t1,t2]
  refine zE 0<|a_<|aP<|bo<|ak<|zP 1 [yH [(1,{av:=some (AV.br [AV.sl 3 (af aY (bC (u64 (↑d.ae.length:Int))::List.map cy d.ae)),ai 0]),b:=false})]] [.aa [10,9,21,19,18,15,4,3,2,1,0,20,5,6] [6,1]] [yI ha]<|zS<|zq<|zF 46<|a7<|zP 1 [yH [(1,{av:=some (AV.br [AV.sl 3 (af aY (bC (u64 (↑d.au.length:Int))::List.map aF d.au)),ai 0]),b:=false})]] [.aa [10,11,46,9,21,19,18,15,4,3,2,1,0,20,5,6] [1]] [yI hd]<|zS<|zq<|zF 54<|a7<|zP 1 [{hs:=[(2,{av:=some (AV.own 3 (af aY [aF d.bF])),b:=false}),(5,{av:=some (AV.own 3 (af aY [aF d.peer])),b:=false}),(8,{av:=some (AV.own 3 (af aY [dQ d.box])),b:=false}),(13,yV (aw (u64 d.need))),(14,{av:=some (AV.own 3 (af aY [aF (u64 d.need)])),b:=false})],T:=15}] [.aa [3,2,54,10,11,46,9,21,19,18,15,4,1,0,20,5,6] [71,1]] [yI (gU d.bF),yI (gU d.peer),yI (Bi d.box b1),yI (a8 d.need),yI (gU (u64 d.need))]<|zR (bU)
end Go.Proofs.YtjgbhhnghedgdaaGreatDoor
