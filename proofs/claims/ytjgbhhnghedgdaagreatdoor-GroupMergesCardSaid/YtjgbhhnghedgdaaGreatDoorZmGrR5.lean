import Derived.Test.YtjgbhhnghedgdaaGreatDoorZmTk2
set_option linter.all false
namespace Go.Proofs.YtjgbhhnghedgdaaGreatDoor
open Go.RowKit
set_option maxRecDepth 100000
set_option maxHeartbeats 4000000
def O_ (cs:List AV) (p:Nat) (v:Bool):AS:=⟨[(1,.addr 1 0),(p,ao v)],[(1,⟨1,false,true,cs⟩)]⟩
theorem xY (d:np):bC Tryz.prog 129 [.agg (a_ d)] (ao (decide (vv d))):=by
 have Rg:(ae ax d.af).length=d.af.length:=by rw [aE (e:=1) (fun _=>rfl)];omega
 have hR:(((((((d.bY == 0) && (d.peer == 0)) && ((d.box.length:Int) == 0)) && (((ae ax d.af).length:Int) == 0)) && ((d.ay.length:Int) == 0)) && (d.need == 0)) && (d.target == 0))=decide (vv d):=by
  unfold vv
  rw [Bool.eq_iff_iff,Rg]
  simp [and_assoc]
 refine zO Tryz.func129 39<|bf.jJ 1 [{}] bt (s':=AS.mk [(2,ao false),(1,AV.addr 1 0),(0,AV.agg (a_ d))] [(1,Row.mk 1 false true (List.map (aB 1) (a_ d)))]) (C:=[]) bt trivial<|zS (bf.Mi ⟨[(2,ao (decide (vv d)))],[]⟩ bt ?_ (ak ?_))
 ·rw [←hR]
  refine eN.step 4 (O_ (a_ d) 6 (d.bY == 0)) ?_ ?_
  ·refine mZ [(2,yV (ao (d.bY == 0)))] [.aa [1,6] [1]] [yI (fw d.bY 0)]
  generalize (d.bY == 0)=b
  refine eN.step 5 (O_ (a_ d) 11 (b && (d.peer == 0))) ?_ ?_
  ·cases b
   ·refine mZ [(0,{g:=false}),(1,{g:=false}),(2,{g:=false}),(3,{b:=false})] [.aa [1,11] [1]] (yM 4 (yR false))
   refine mZ [(2,yV (ao (d.peer == 0)))] [.aa [1,11] [1]] (yM 3 (yR true)++ [yI (fw d.peer 0),yR true])
  generalize (b && (d.peer == 0))=b
  refine eN.step 6 (O_ (a_ d) 17 (b && ((d.box.length:Int) == 0))) ?_ ?_
  ·cases b
   ·refine mZ [(0,{g:=false}),(1,{g:=false}),(2,{g:=false}),(3,{g:=false}),(4,{b:=false})] [.aa [1,17] [1]] (yM 5 (yR false))
   refine mZ [(2,{k:=d.box.length})] [.aa [1,17] [1]] (yM 3 (yR true)++ [yI (aD d.box),yR true,yR true])
  generalize (b && ((d.box.length:Int) == 0))=b
  refine eN.step 6 (O_ (a_ d) 23 (b && (((ae ax d.af).length:Int) == 0))) ?_ ?_
  ·cases b
   ·refine mZ [(0,{g:=false}),(1,{g:=false}),(2,{g:=false}),(3,{g:=false}),(4,{b:=false})] [.aa [1,23] [1]] (yM 5 (yR false))
   refine mZ [(2,{k:=(ae ax d.af).length})] [.aa [1,23] [1]] (yM 3 (yR true)++ [yR ((ae ax d.af).length),yR true,yR true])
  generalize (b && (((ae ax d.af).length:Int) == 0))=b
  refine eN.step 6 (O_ (a_ d) 29 (b && ((d.ay.length:Int) == 0))) ?_ ?_
  ·cases b
   ·refine mZ [(0,{g:=false}),(1,{g:=false}),(2,{g:=false}),(3,{g:=false}),(4,{b:=false})] [.aa [1,29] [1]] (yM 5 (yR false))
   refine mZ [(2,{k:=d.ay.length})] [.aa [1,29] [1]] (yM 3 (yR true)++ [yI (aC d.ay),yR true,yR true])
  generalize (b && ((d.ay.length:Int) == 0))=b
  refine eN.step 5 (O_ (a_ d) 34 (b && (d.need == 0))) ?_ ?_
  ·cases b
   ·refine mZ [(0,{g:=false}),(1,{g:=false}),(2,{g:=false}),(3,{b:=false})] [.aa [1,34] [1]] (yM 4 (yR false))
   refine mZ [] [.aa [1,34] [1]] (yM 4 (yR true))
  generalize (b && (d.need == 0))=b
  cases b
  ·refine mZ [(0,{g:=false}),(1,{g:=false}),(2,{g:=false}),(3,{b:=false})] [.aa [2] []] (yM 4 (yR false))
  refine mZ [(2,yV (ao (d.target == 0)))] [.aa [2] []] (yM 3 (yR true)++ [yI (fw d.target 0),yR true])
 refine zR (bL)
theorem ML {x:UInt64} (h:wv x=0):x=0:=by
 have h:((x.toNat:Nat):Int)=0:=h
 exact UInt64.toNat_inj.1 (by rw [show x.toNat=0 by omega];rfl)
def Ol (cs:List AV) (k:Int) (p:Nat) (v:Bool):AS:=⟨[(1,.addr 1 0),(3,ai k),(p,ao v)],[(1,⟨1,false,true,cs⟩)]⟩
def Rs (cs:List AV) (k:Int) (q p:Nat) (v:Bool):AS:=⟨[(1,.addr 1 0),(3,ai k),(q,ao true),(p,ao v)],[(1,⟨1,false,true,cs⟩)]⟩
def Wc (cs:List AV) (k:Int) (q p r:Nat) (v:Bool):AS:=⟨[(1,.addr 1 0),(3,ai k),(q,ao true),(p,ao false),(r,ao v)],[(1,⟨1,false,true,cs⟩)]⟩
theorem jy (e:dP):bC Tryz.prog 79 [.agg (aI e)] (ao (decide (fk e))):=by
 have hR:((((((((e.kind == 1) || (e.kind == 2)) || (e.name == [])) && ((e.kind == 1) || (e.kh == 0 && (wv e.kr == 0 && true)))) && ((e.kind == 3) || (e.br == 0))) && ((e.kind == 4) || (decide (vv e.dep)))) && ((e.kind == 5) || ((e.bY == 0) && (e.target == 0)))) && (e.dep.target == 0))=decide (fk e):=by
  rw [Bool.eq_iff_iff,decide_eq_true_iff]
  unfold fk
  have hz:((e.kh == 0 && (wv e.kr == 0 && true))=true)↔(e.kh=0∧e.kr=0):=by
   rw [Bool.and_true,Bool.and_eq_true,beq_iff_eq,beq_iff_eq]
   exact ⟨fun h=>⟨h.1,ML h.2⟩,fun h=>⟨h.1,by rw [h.2];rfl⟩⟩
  simp only [Bool.and_eq_true,Bool.or_eq_true,beq_iff_eq,hz,decide_eq_true_eq,and_assoc,or_assoc]
 refine zO Tryz.func79 65<|bf.jZ 2 [{},{}] [.aa [3,2,1,0] [1]] bt (s':=AS.mk [(3,ai e.kind),(2,ao false),(1,AV.addr 1 0),(0,AV.agg (aI e))] [(1,Row.mk 1 false true (List.map (aB 1) (aI e)))]) (C:=[]) bt trivial<|zS (bf.Mi ⟨[(2,ao (decide (fk e)))],[]⟩ bt ?_ (ak ?_))
 ·rw [←hR]
  refine eN.step 7 (Ol (aI e) e.kind 12 ((e.kind == 1) || (e.kind == 2))) ?_ ?_
  ·refine eN.step 3 (Ol (aI e) e.kind 8 (e.kind == 1)) ?_ ?_
   ·refine mZ [] [.aa [1,3,8] [1]] []
   generalize (e.kind == 1)=b1
   cases b1
   ·refine mZ [(0,{g:=false}),(1,{g:=false}),(2,{b:=false})] [.aa [1,3,12] [1]] (yM 3 (yR false))
   refine mZ [] [.aa [1,3,12] [1]] (yM 3 (yR true))
  generalize ((e.kind == 1) || (e.kind == 2))=b
  refine eN.step 5 (Ol (aI e) e.kind 17 (b || (e.name == []))) ?_ ?_
  ·cases b
   ·refine mZ [(0,{g:=false}),(1,{g:=false}),(2,{av:=some (ao (e.name == [])),g:=false}),(3,{b:=false})] [.aa [1,3,17] [1]] (yM 3 (yR false)++ [yI (eU e.name []),yR false])
   refine mZ [] [.aa [1,3,17] [1]] (yM 4 (yR true))
  generalize (b || (e.name == []))=b
  refine eN.step 10 (Ol (aI e) e.kind 27 (b && ((e.kind == 1) || (e.kh == 0 && (wv e.kr == 0 && true))))) ?_ ?_
  ·cases b
   ·refine mZ [(0,{g:=false}),(1,{g:=false}),(2,{g:=false}),(7,{g:=false}),(8,{b:=false})] [.aa [1,3,27] [1]] (yM 5 (yR false))
   refine eN.step 3 (Rs (aI e) e.kind 17 20 (e.kind == 1)) ?_ ?_
   ·refine mZ [] [.aa [1,3,17,20] [1]] (yM 3 (yR true))
   generalize (e.kind == 1)=c
   cases c
   ·refine mZ [(0,{g:=false}),(1,{g:=false}),(2,{g:=false}),(3,{g:=false}),(4,{b:=false})] [.aa [1,3,27] [1]] (yM 4 (yR false)++ [yR true,yR false,yR true])
   refine mZ [] [.aa [1,3,27] [1]] (yM 7 (yR true))
  generalize (b && ((e.kind == 1) || (e.kh == 0 && (wv e.kr == 0 && true))))=b
  refine eN.step 9 (Ol (aI e) e.kind 36 (b && ((e.kind == 3) || (e.br == 0)))) ?_ ?_
  ·cases b
   ·refine mZ [(0,{g:=false}),(1,{g:=false}),(2,{g:=false}),(6,{g:=false}),(7,{b:=false})] [.aa [1,3,36] [1]] (yM 5 (yR false))
   refine eN.step 3 (Rs (aI e) e.kind 27 30 (e.kind == 3)) ?_ ?_
   ·refine mZ [] [.aa [1,3,27,30] [1]] (yM 3 (yR true))
   generalize (e.kind == 3)=c
   cases c
   ·refine mZ [(0,{g:=false}),(1,{g:=false}),(2,{g:=false}),(3,{b:=false})] [.aa [1,3,36] [1]] (yM 3 (yR false)++ [yR true,yR false,yR true])
   refine mZ [] [.aa [1,3,36] [1]] (yM 6 (yR true))
  generalize (b && ((e.kind == 3) || (e.br == 0)))=b
  refine eN.step 9 (Ol (aI e) e.kind 45 (b && ((e.kind == 4) || (decide (vv e.dep))))) ?_ ?_
  ·cases b
   ·refine mZ [(0,{g:=false}),(1,{g:=false}),(2,{g:=false}),(6,{g:=false}),(7,{b:=false})] [.aa [1,3,45] [1]] (yM 5 (yR false))
   refine eN.step 3 (Rs (aI e) e.kind 36 39 (e.kind == 4)) ?_ ?_
   ·refine mZ [] [.aa [1,3,36,39] [1]] (yM 3 (yR true))
   generalize (e.kind == 4)=c
   cases c
   ·refine mZ [(0,{g:=false}),(1,{g:=false}),(2,{av:=some (ao (decide (vv e.dep))),g:=false}),(3,{b:=false})] [.aa [1,3,45] [1]] (yM 3 (yR false)++ [yI (xY e.dep),yR true,yR false,yR true])
   refine mZ [] [.aa [1,3,45] [1]] (yM 6 (yR true))
  generalize (b && ((e.kind == 4) || (decide (vv e.dep))))=b
  refine eN.step 14 (Ol (aI e) e.kind 59 (b && ((e.kind == 5) || ((e.bY == 0) && (e.target == 0))))) ?_ ?_
  ·cases b
   ·refine mZ [(0,{g:=false}),(1,{g:=false}),(2,{g:=false}),(11,{g:=false}),(12,{b:=false})] [.aa [1,3,59] [1]] (yM 5 (yR false))
   refine eN.step 3 (Rs (aI e) e.kind 45 48 (e.kind == 5)) ?_ ?_
   ·refine mZ [] [.aa [1,3,45,48] [1]] (yM 3 (yR true))
   generalize (e.kind == 5)=c
   cases c
   ·refine eN.step 4 (Wc (aI e) e.kind 45 48 52 (e.bY == 0)) ?_ ?_
    ·refine mZ [(0,{g:=false}),(1,{g:=false}),(2,{av:=some (ao (e.bY == 0)),g:=false}),(3,{g:=false})] [.aa [1,3,45,48,52] [1]] (yM 3 (yR false)++ [yI (fw e.bY 0),yR false])
    generalize (e.bY == 0)=c
    cases c
    ·refine mZ [(0,{g:=false}),(1,{g:=false}),(2,{g:=false}),(3,{b:=false,g:=false}),(4,{b:=false})] [.aa [1,3,59] [1]] (yM 5 (yR false)++ [yR true,yR false,yR true])
    refine mZ [(2,yV (ao (e.target == 0))),(3,{g:=false}),(4,{b:=false})] [.aa [1,3,59] [1]] (yM 3 (yR true)++ [yI (fw e.target 0),yR false,yR true,yR true,yR false,yR true])
   refine mZ [] [.aa [1,3,59] [1]] (yM 8 (yR true))
  generalize (b && ((e.kind == 5) || ((e.bY == 0) && (e.target == 0))))=b
  cases b
  ·refine mZ [(0,{g:=false}),(1,{g:=false}),(2,{g:=false}),(3,{g:=false}),(4,{b:=false})] [.aa [2] []] (yM 5 (yR false))
  refine mZ [(3,yV (ao (e.dep.target == 0)))] [.aa [2] []] (yM 4 (yR true)++ [yI (fw e.dep.target 0),yR true])
 refine zR (bL)
end Go.Proofs.YtjgbhhnghedgdaaGreatDoor
