import Derived.Test.YtjgbhhnghedgdaaGreatDoorZpTk2
set_option linter.all false
namespace Go.Proofs.YtjgbhhnghedgdaaGreatDoor
open Go.RowKit
set_option maxRecDepth 100000
set_option maxHeartbeats 4000000
def Oj (cs:List AV) (p:Nat) (v:Bool):AS:=⟨[(1,.addr 1 0),(p,ao v)],[(1,⟨1,false,true,cs⟩)]⟩
theorem xj (d:mU):bK Tryz.prog 129 [.agg (bg d)] (ao (decide (uY d))):=by
 have Qv:(af ay d.ae).length=d.ae.length:=by rw [aE (e:=1) (fun _=>rfl)];omega
 have hR:(((((((d.bF == 0) && (d.peer == 0)) && ((d.box.length:Int) == 0)) && (((af ay d.ae).length:Int) == 0)) && ((d.au.length:Int) == 0)) && (d.need == 0)) && (d.target == 0))=decide (uY d):=by
  unfold uY
  rw [Bool.eq_iff_iff,Qv]
  simp [and_assoc]
 refine zO Tryz.func129 39<|bf.na 1 [{}] bD (s':=AS.mk [(2,ao false),(1,AV.addr 1 0),(0,AV.agg (bg d))] [(1,Row.mk 1 false true (List.map (aR 1) (bg d)))]) (C:=[]) bD trivial<|zS (bf.Lv ⟨[(2,ao (decide (uY d)))],[]⟩ bD ?_ (ak ?_))
 ·rw [←hR]
  refine eG.step 4 (Oj (bg d) 6 (d.bF == 0)) ?_ ?_
  ·refine mE [(2,yV (ao (d.bF == 0)))] [.aa [1,6] [1]] [yI (fm d.bF 0)]
  generalize (d.bF == 0)=b
  refine eG.step 5 (Oj (bg d) 11 (b && (d.peer == 0))) ?_ ?_
  ·cases b
   ·refine mE [(0,{g:=false}),(1,{g:=false}),(2,{g:=false}),(3,{b:=false})] [.aa [1,11] [1]] (yM 4 (yR false))
   refine mE [(2,yV (ao (d.peer == 0)))] [.aa [1,11] [1]] (yM 3 (yR true)++ [yI (fm d.peer 0),yR true])
  generalize (b && (d.peer == 0))=b
  refine eG.step 6 (Oj (bg d) 17 (b && ((d.box.length:Int) == 0))) ?_ ?_
  ·cases b
   ·refine mE [(0,{g:=false}),(1,{g:=false}),(2,{g:=false}),(3,{g:=false}),(4,{b:=false})] [.aa [1,17] [1]] (yM 5 (yR false))
   refine mE [(2,{k:=d.box.length})] [.aa [1,17] [1]] (yM 3 (yR true)++ [yI (aC d.box),yR true,yR true])
  generalize (b && ((d.box.length:Int) == 0))=b
  refine eG.step 6 (Oj (bg d) 23 (b && (((af ay d.ae).length:Int) == 0))) ?_ ?_
  ·cases b
   ·refine mE [(0,{g:=false}),(1,{g:=false}),(2,{g:=false}),(3,{g:=false}),(4,{b:=false})] [.aa [1,23] [1]] (yM 5 (yR false))
   refine mE [(2,{k:=(af ay d.ae).length})] [.aa [1,23] [1]] (yM 3 (yR true)++ [yR ((af ay d.ae).length),yR true,yR true])
  generalize (b && (((af ay d.ae).length:Int) == 0))=b
  refine eG.step 6 (Oj (bg d) 29 (b && ((d.au.length:Int) == 0))) ?_ ?_
  ·cases b
   ·refine mE [(0,{g:=false}),(1,{g:=false}),(2,{g:=false}),(3,{g:=false}),(4,{b:=false})] [.aa [1,29] [1]] (yM 5 (yR false))
   refine mE [(2,{k:=d.au.length})] [.aa [1,29] [1]] (yM 3 (yR true)++ [yI (aB d.au),yR true,yR true])
  generalize (b && ((d.au.length:Int) == 0))=b
  refine eG.step 5 (Oj (bg d) 34 (b && (d.need == 0))) ?_ ?_
  ·cases b
   ·refine mE [(0,{g:=false}),(1,{g:=false}),(2,{g:=false}),(3,{b:=false})] [.aa [1,34] [1]] (yM 4 (yR false))
   refine mE [] [.aa [1,34] [1]] (yM 4 (yR true))
  generalize (b && (d.need == 0))=b
  cases b
  ·refine mE [(0,{g:=false}),(1,{g:=false}),(2,{g:=false}),(3,{b:=false})] [.aa [2] []] (yM 4 (yR false))
  refine mE [(2,yV (ao (d.target == 0)))] [.aa [2] []] (yM 3 (yR true)++ [yI (fm d.target 0),yR true])
 refine zR (bU)
theorem LZ {x:UInt64} (h:wv x=0):x=0:=by
 have h:((x.toNat:Nat):Int)=0:=h
 exact UInt64.toNat_inj.1 (by rw [show x.toNat=0 by omega];rfl)
def Np (cs:List AV) (k:Int) (p:Nat) (v:Bool):AS:=⟨[(1,.addr 1 0),(3,ai k),(p,ao v)],[(1,⟨1,false,true,cs⟩)]⟩
def QG (cs:List AV) (k:Int) (q p:Nat) (v:Bool):AS:=⟨[(1,.addr 1 0),(3,ai k),(q,ao true),(p,ao v)],[(1,⟨1,false,true,cs⟩)]⟩
def Vv (cs:List AV) (k:Int) (q p r:Nat) (v:Bool):AS:=⟨[(1,.addr 1 0),(3,ai k),(q,ao true),(p,ao false),(r,ao v)],[(1,⟨1,false,true,cs⟩)]⟩
theorem jt (e:fo):bK Tryz.prog 79 [.agg (bX e)] (ao (decide (fa e))):=by
 have hR:((((((((e.kind == 1) || (e.kind == 2)) || (e.name == [])) && ((e.kind == 1) || (e.kh == 0 && (wv e.kr == 0 && true)))) && ((e.kind == 3) || (e.bt == 0))) && ((e.kind == 4) || (decide (uY e.dep)))) && ((e.kind == 5) || ((e.bF == 0) && (e.target == 0)))) && (e.dep.target == 0))=decide (fa e):=by
  rw [Bool.eq_iff_iff,decide_eq_true_iff]
  unfold fa
  have hz:((e.kh == 0 && (wv e.kr == 0 && true))=true)↔(e.kh=0∧e.kr=0):=by
   rw [Bool.and_true,Bool.and_eq_true,beq_iff_eq,beq_iff_eq]
   exact ⟨fun h=>⟨h.1,LZ h.2⟩,fun h=>⟨h.1,by rw [h.2];rfl⟩⟩
  simp only [Bool.and_eq_true,Bool.or_eq_true,beq_iff_eq,hz,decide_eq_true_eq,and_assoc,or_assoc]
 refine zO Tryz.func79 65<|bf.pG 2 [{},{}] [.aa [3,2,1,0] [1]] bD (s':=AS.mk [(3,ai e.kind),(2,ao false),(1,AV.addr 1 0),(0,AV.agg (bX e))] [(1,Row.mk 1 false true (List.map (aR 1) (bX e)))]) (C:=[]) bD trivial<|zS (bf.Lv ⟨[(2,ao (decide (fa e)))],[]⟩ bD ?_ (ak ?_))
 ·rw [←hR]
  refine eG.step 7 (Np (bX e) e.kind 12 ((e.kind == 1) || (e.kind == 2))) ?_ ?_
  ·refine eG.step 3 (Np (bX e) e.kind 8 (e.kind == 1)) ?_ ?_
   ·refine mE [] [.aa [1,3,8] [1]] []
   generalize (e.kind == 1)=b1
   cases b1
   ·refine mE [(0,{g:=false}),(1,{g:=false}),(2,{b:=false})] [.aa [1,3,12] [1]] (yM 3 (yR false))
   refine mE [] [.aa [1,3,12] [1]] (yM 3 (yR true))
  generalize ((e.kind == 1) || (e.kind == 2))=b
  refine eG.step 5 (Np (bX e) e.kind 17 (b || (e.name == []))) ?_ ?_
  ·cases b
   ·refine mE [(0,{g:=false}),(1,{g:=false}),(2,{av:=some (ao (e.name == [])),g:=false}),(3,{b:=false})] [.aa [1,3,17] [1]] (yM 3 (yR false)++ [yI (fY e.name []),yR false])
   refine mE [] [.aa [1,3,17] [1]] (yM 4 (yR true))
  generalize (b || (e.name == []))=b
  refine eG.step 10 (Np (bX e) e.kind 27 (b && ((e.kind == 1) || (e.kh == 0 && (wv e.kr == 0 && true))))) ?_ ?_
  ·cases b
   ·refine mE [(0,{g:=false}),(1,{g:=false}),(2,{g:=false}),(7,{g:=false}),(8,{b:=false})] [.aa [1,3,27] [1]] (yM 5 (yR false))
   refine eG.step 3 (QG (bX e) e.kind 17 20 (e.kind == 1)) ?_ ?_
   ·refine mE [] [.aa [1,3,17,20] [1]] (yM 3 (yR true))
   generalize (e.kind == 1)=c
   cases c
   ·refine mE [(0,{g:=false}),(1,{g:=false}),(2,{g:=false}),(3,{g:=false}),(4,{b:=false})] [.aa [1,3,27] [1]] (yM 4 (yR false)++ [yR true,yR false,yR true])
   refine mE [] [.aa [1,3,27] [1]] (yM 7 (yR true))
  generalize (b && ((e.kind == 1) || (e.kh == 0 && (wv e.kr == 0 && true))))=b
  refine eG.step 9 (Np (bX e) e.kind 36 (b && ((e.kind == 3) || (e.bt == 0)))) ?_ ?_
  ·cases b
   ·refine mE [(0,{g:=false}),(1,{g:=false}),(2,{g:=false}),(6,{g:=false}),(7,{b:=false})] [.aa [1,3,36] [1]] (yM 5 (yR false))
   refine eG.step 3 (QG (bX e) e.kind 27 30 (e.kind == 3)) ?_ ?_
   ·refine mE [] [.aa [1,3,27,30] [1]] (yM 3 (yR true))
   generalize (e.kind == 3)=c
   cases c
   ·refine mE [(0,{g:=false}),(1,{g:=false}),(2,{g:=false}),(3,{b:=false})] [.aa [1,3,36] [1]] (yM 3 (yR false)++ [yR true,yR false,yR true])
   refine mE [] [.aa [1,3,36] [1]] (yM 6 (yR true))
  generalize (b && ((e.kind == 3) || (e.bt == 0)))=b
  refine eG.step 9 (Np (bX e) e.kind 45 (b && ((e.kind == 4) || (decide (uY e.dep))))) ?_ ?_
  ·cases b
   ·refine mE [(0,{g:=false}),(1,{g:=false}),(2,{g:=false}),(6,{g:=false}),(7,{b:=false})] [.aa [1,3,45] [1]] (yM 5 (yR false))
   refine eG.step 3 (QG (bX e) e.kind 36 39 (e.kind == 4)) ?_ ?_
   ·refine mE [] [.aa [1,3,36,39] [1]] (yM 3 (yR true))
   generalize (e.kind == 4)=c
   cases c
   ·refine mE [(0,{g:=false}),(1,{g:=false}),(2,{av:=some (ao (decide (uY e.dep))),g:=false}),(3,{b:=false})] [.aa [1,3,45] [1]] (yM 3 (yR false)++ [yI (xj e.dep),yR true,yR false,yR true])
   refine mE [] [.aa [1,3,45] [1]] (yM 6 (yR true))
  generalize (b && ((e.kind == 4) || (decide (uY e.dep))))=b
  refine eG.step 14 (Np (bX e) e.kind 59 (b && ((e.kind == 5) || ((e.bF == 0) && (e.target == 0))))) ?_ ?_
  ·cases b
   ·refine mE [(0,{g:=false}),(1,{g:=false}),(2,{g:=false}),(11,{g:=false}),(12,{b:=false})] [.aa [1,3,59] [1]] (yM 5 (yR false))
   refine eG.step 3 (QG (bX e) e.kind 45 48 (e.kind == 5)) ?_ ?_
   ·refine mE [] [.aa [1,3,45,48] [1]] (yM 3 (yR true))
   generalize (e.kind == 5)=c
   cases c
   ·refine eG.step 4 (Vv (bX e) e.kind 45 48 52 (e.bF == 0)) ?_ ?_
    ·refine mE [(0,{g:=false}),(1,{g:=false}),(2,{av:=some (ao (e.bF == 0)),g:=false}),(3,{g:=false})] [.aa [1,3,45,48,52] [1]] (yM 3 (yR false)++ [yI (fm e.bF 0),yR false])
    generalize (e.bF == 0)=c
    cases c
    ·refine mE [(0,{g:=false}),(1,{g:=false}),(2,{g:=false}),(3,{b:=false,g:=false}),(4,{b:=false})] [.aa [1,3,59] [1]] (yM 5 (yR false)++ [yR true,yR false,yR true])
    refine mE [(2,yV (ao (e.target == 0))),(3,{g:=false}),(4,{b:=false})] [.aa [1,3,59] [1]] (yM 3 (yR true)++ [yI (fm e.target 0),yR false,yR true,yR true,yR false,yR true])
   refine mE [] [.aa [1,3,59] [1]] (yM 8 (yR true))
  generalize (b && ((e.kind == 5) || ((e.bF == 0) && (e.target == 0))))=b
  cases b
  ·refine mE [(0,{g:=false}),(1,{g:=false}),(2,{g:=false}),(3,{g:=false}),(4,{b:=false})] [.aa [2] []] (yM 5 (yR false))
  refine mE [(3,yV (ao (e.dep.target == 0)))] [.aa [2] []] (yM 4 (yR true)++ [yI (fm e.dep.target 0),yR true])
 refine zR (bU)
end Go.Proofs.YtjgbhhnghedgdaaGreatDoor
