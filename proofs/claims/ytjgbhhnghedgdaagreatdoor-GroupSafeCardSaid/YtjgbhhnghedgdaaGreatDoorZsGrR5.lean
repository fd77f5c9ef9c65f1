import Derived.Test.YtjgbhhnghedgdaaGreatDoorZsTk2
set_option linter.all false
namespace Go.Proofs.YtjgbhhnghedgdaaGreatDoor
open Go.RowKit
set_option maxRecDepth 100000
set_option maxHeartbeats 4000000
def Om (cs:List AV) (p:Nat) (v:Bool):AS:=⟨[(1,.addr 1 0),(p,ao v)],[(1,⟨1,false,true,cs⟩)]⟩
theorem w6 (d:nC):bK Tryz.prog 129 [.agg (bg d)] (ao (decide (uQ d))):=by
 have LI:(af ay d.ae).length=d.ae.length:=by rw [aG (e:=1) (fun _=>rfl)];omega
 have hR:(((((((d.cm == 0) && (d.peer == 0)) && ((d.box.length:Int) == 0)) && (((af ay d.ae).length:Int) == 0)) && ((d.au.length:Int) == 0)) && (d.need == 0)) && (d.target == 0))=decide (uQ d):=by
  unfold uQ
  rw [Bool.eq_iff_iff,LI]
  simp [and_assoc]
 refine zO Tryz.func129 39<|a7.mW 1 [{}] bH (s':=AS.mk [(2,ao false),(1,AV.addr 1 0),(0,AV.agg (bg d))] [(1,Row.mk 1 false true (List.map (aQ 1) (bg d)))]) (C:=[]) bH trivial<|zS (a7.Lr ⟨[(2,ao (decide (uQ d)))],[]⟩ bH ?_ (ak ?_))
 ·rw [←hR]
  refine d_.step 4 (Om (bg d) 6 (d.cm == 0)) ?_ ?_
  ·refine mz [(2,yV (ao (d.cm == 0)))] [.aa [1,6] [1]] [yI (fV d.cm 0)]
  generalize (d.cm == 0)=b
  refine d_.step 5 (Om (bg d) 11 (b && (d.peer == 0))) ?_ ?_
  ·cases b
   ·refine mz [(0,{g:=false}),(1,{g:=false}),(2,{g:=false}),(3,{b:=false})] [.aa [1,11] [1]] (yM 4 (yR false))
   refine mz [(2,yV (ao (d.peer == 0)))] [.aa [1,11] [1]] (yM 3 (yR true)++ [yI (fV d.peer 0),yR true])
  generalize (b && (d.peer == 0))=b
  refine d_.step 6 (Om (bg d) 17 (b && ((d.box.length:Int) == 0))) ?_ ?_
  ·cases b
   ·refine mz [(0,{g:=false}),(1,{g:=false}),(2,{g:=false}),(3,{g:=false}),(4,{b:=false})] [.aa [1,17] [1]] (yM 5 (yR false))
   refine mz [(2,{k:=d.box.length})] [.aa [1,17] [1]] (yM 3 (yR true)++ [yI (aA d.box),yR true,yR true])
  generalize (b && ((d.box.length:Int) == 0))=b
  refine d_.step 6 (Om (bg d) 23 (b && (((af ay d.ae).length:Int) == 0))) ?_ ?_
  ·cases b
   ·refine mz [(0,{g:=false}),(1,{g:=false}),(2,{g:=false}),(3,{g:=false}),(4,{b:=false})] [.aa [1,23] [1]] (yM 5 (yR false))
   refine mz [(2,{k:=(af ay d.ae).length})] [.aa [1,23] [1]] (yM 3 (yR true)++ [yR ((af ay d.ae).length),yR true,yR true])
  generalize (b && (((af ay d.ae).length:Int) == 0))=b
  refine d_.step 6 (Om (bg d) 29 (b && ((d.au.length:Int) == 0))) ?_ ?_
  ·cases b
   ·refine mz [(0,{g:=false}),(1,{g:=false}),(2,{g:=false}),(3,{g:=false}),(4,{b:=false})] [.aa [1,29] [1]] (yM 5 (yR false))
   refine mz [(2,{k:=d.au.length})] [.aa [1,29] [1]] (yM 3 (yR true)++ [yI (aD d.au),yR true,yR true])
  generalize (b && ((d.au.length:Int) == 0))=b
  refine d_.step 5 (Om (bg d) 34 (b && (d.need == 0))) ?_ ?_
  ·cases b
   ·refine mz [(0,{g:=false}),(1,{g:=false}),(2,{g:=false}),(3,{b:=false})] [.aa [1,34] [1]] (yM 4 (yR false))
   refine mz [] [.aa [1,34] [1]] (yM 4 (yR true))
  generalize (b && (d.need == 0))=b
  cases b
  ·refine mz [(0,{g:=false}),(1,{g:=false}),(2,{g:=false}),(3,{b:=false})] [.aa [2] []] (yM 4 (yR false))
  refine mz [(2,yV (ao (d.target == 0)))] [.aa [2] []] (yM 3 (yR true)++ [yI (fV d.target 0),yR true])
 refine zR (cE)
theorem L0 {x:UInt64} (h:wv x=0):x=0:=by
 have h:((x.toNat:Nat):Int)=0:=h
 exact UInt64.toNat_inj.1 (by rw [show x.toNat=0 by omega];rfl)
def Nx (cs:List AV) (k:Int) (p:Nat) (v:Bool):AS:=⟨[(1,.addr 1 0),(3,ai k),(p,ao v)],[(1,⟨1,false,true,cs⟩)]⟩
def QJ (cs:List AV) (k:Int) (q p:Nat) (v:Bool):AS:=⟨[(1,.addr 1 0),(3,ai k),(q,ao true),(p,ao v)],[(1,⟨1,false,true,cs⟩)]⟩
def VD (cs:List AV) (k:Int) (q p r:Nat) (v:Bool):AS:=⟨[(1,.addr 1 0),(3,ai k),(q,ao true),(p,ao false),(r,ao v)],[(1,⟨1,false,true,cs⟩)]⟩
theorem jl (e:eK):bK Tryz.prog 79 [.agg (bk e)] (ao (decide (eN e))):=by
 have hR:((((((((e.kind == 1) || (e.kind == 2)) || (e.name == [])) && ((e.kind == 1) || (e.kh == 0 && (wv e.kr == 0 && true)))) && ((e.kind == 3) || (e.bB == 0))) && ((e.kind == 4) || (decide (uQ e.dep)))) && ((e.kind == 5) || ((e.cm == 0) && (e.target == 0)))) && (e.dep.target == 0))=decide (eN e):=by
  rw [Bool.eq_iff_iff,decide_eq_true_iff]
  unfold eN
  have hz:((e.kh == 0 && (wv e.kr == 0 && true))=true)↔(e.kh=0∧e.kr=0):=by
   rw [Bool.and_true,Bool.and_eq_true,beq_iff_eq,beq_iff_eq]
   exact ⟨fun h=>⟨h.1,L0 h.2⟩,fun h=>⟨h.1,by rw [h.2];rfl⟩⟩
  simp only [Bool.and_eq_true,Bool.or_eq_true,beq_iff_eq,hz,decide_eq_true_eq,and_assoc,or_assoc]
 refine zO Tryz.func79 65<|a7.rE 2 [{},{}] [.aa [3,2,1,0] [1]] bH (s':=AS.mk [(3,ai e.kind),(2,ao false),(1,AV.addr 1 0),(0,AV.agg (bk e))] [(1,Row.mk 1 false true (List.map (aQ 1) (bk e)))]) (C:=[]) bH trivial<|zS (a7.Lr ⟨[(2,ao (decide (eN e)))],[]⟩ bH ?_ (ak ?_))
 ·rw [←hR]
  refine d_.step 7 (Nx (bk e) e.kind 12 ((e.kind == 1) || (e.kind == 2))) ?_ ?_
  ·refine d_.step 3 (Nx (bk e) e.kind 8 (e.kind == 1)) ?_ ?_
   ·refine mz [] [.aa [1,3,8] [1]] []
   generalize (e.kind == 1)=b1
   cases b1
   ·refine mz [(0,{g:=false}),(1,{g:=false}),(2,{b:=false})] [.aa [1,3,12] [1]] (yM 3 (yR false))
   refine mz [] [.aa [1,3,12] [1]] (yM 3 (yR true))
  generalize ((e.kind == 1) || (e.kind == 2))=b
  refine d_.step 5 (Nx (bk e) e.kind 17 (b || (e.name == []))) ?_ ?_
  ·cases b
   ·refine mz [(0,{g:=false}),(1,{g:=false}),(2,{av:=some (ao (e.name == [])),g:=false}),(3,{b:=false})] [.aa [1,3,17] [1]] (yM 3 (yR false)++ [yI (fg e.name []),yR false])
   refine mz [] [.aa [1,3,17] [1]] (yM 4 (yR true))
  generalize (b || (e.name == []))=b
  refine d_.step 10 (Nx (bk e) e.kind 27 (b && ((e.kind == 1) || (e.kh == 0 && (wv e.kr == 0 && true))))) ?_ ?_
  ·cases b
   ·refine mz [(0,{g:=false}),(1,{g:=false}),(2,{g:=false}),(7,{g:=false}),(8,{b:=false})] [.aa [1,3,27] [1]] (yM 5 (yR false))
   refine d_.step 3 (QJ (bk e) e.kind 17 20 (e.kind == 1)) ?_ ?_
   ·refine mz [] [.aa [1,3,17,20] [1]] (yM 3 (yR true))
   generalize (e.kind == 1)=c
   cases c
   ·refine mz [(0,{g:=false}),(1,{g:=false}),(2,{g:=false}),(3,{g:=false}),(4,{b:=false})] [.aa [1,3,27] [1]] (yM 4 (yR false)++ [yR true,yR false,yR true])
   refine mz [] [.aa [1,3,27] [1]] (yM 7 (yR true))
  generalize (b && ((e.kind == 1) || (e.kh == 0 && (wv e.kr == 0 && true))))=b
  refine d_.step 9 (Nx (bk e) e.kind 36 (b && ((e.kind == 3) || (e.bB == 0)))) ?_ ?_
  ·cases b
   ·refine mz [(0,{g:=false}),(1,{g:=false}),(2,{g:=false}),(6,{g:=false}),(7,{b:=false})] [.aa [1,3,36] [1]] (yM 5 (yR false))
   refine d_.step 3 (QJ (bk e) e.kind 27 30 (e.kind == 3)) ?_ ?_
   ·refine mz [] [.aa [1,3,27,30] [1]] (yM 3 (yR true))
   generalize (e.kind == 3)=c
   cases c
   ·refine mz [(0,{g:=false}),(1,{g:=false}),(2,{g:=false}),(3,{b:=false})] [.aa [1,3,36] [1]] (yM 3 (yR false)++ [yR true,yR false,yR true])
   refine mz [] [.aa [1,3,36] [1]] (yM 6 (yR true))
  generalize (b && ((e.kind == 3) || (e.bB == 0)))=b
  refine d_.step 9 (Nx (bk e) e.kind 45 (b && ((e.kind == 4) || (decide (uQ e.dep))))) ?_ ?_
  ·cases b
   ·refine mz [(0,{g:=false}),(1,{g:=false}),(2,{g:=false}),(6,{g:=false}),(7,{b:=false})] [.aa [1,3,45] [1]] (yM 5 (yR false))
   refine d_.step 3 (QJ (bk e) e.kind 36 39 (e.kind == 4)) ?_ ?_
   ·refine mz [] [.aa [1,3,36,39] [1]] (yM 3 (yR true))
   generalize (e.kind == 4)=c
   cases c
   ·refine mz [(0,{g:=false}),(1,{g:=false}),(2,{av:=some (ao (decide (uQ e.dep))),g:=false}),(3,{b:=false})] [.aa [1,3,45] [1]] (yM 3 (yR false)++ [yI (w6 e.dep),yR true,yR false,yR true])
   refine mz [] [.aa [1,3,45] [1]] (yM 6 (yR true))
  generalize (b && ((e.kind == 4) || (decide (uQ e.dep))))=b
  refine d_.step 14 (Nx (bk e) e.kind 59 (b && ((e.kind == 5) || ((e.cm == 0) && (e.target == 0))))) ?_ ?_
  ·cases b
   ·refine mz [(0,{g:=false}),(1,{g:=false}),(2,{g:=false}),(11,{g:=false}),(12,{b:=false})] [.aa [1,3,59] [1]] (yM 5 (yR false))
   refine d_.step 3 (QJ (bk e) e.kind 45 48 (e.kind == 5)) ?_ ?_
   ·refine mz [] [.aa [1,3,45,48] [1]] (yM 3 (yR true))
   generalize (e.kind == 5)=c
   cases c
   ·refine d_.step 4 (VD (bk e) e.kind 45 48 52 (e.cm == 0)) ?_ ?_
    ·refine mz [(0,{g:=false}),(1,{g:=false}),(2,{av:=some (ao (e.cm == 0)),g:=false}),(3,{g:=false})] [.aa [1,3,45,48,52] [1]] (yM 3 (yR false)++ [yI (fV e.cm 0),yR false])
    generalize (e.cm == 0)=c
    cases c
    ·refine mz [(0,{g:=false}),(1,{g:=false}),(2,{g:=false}),(3,{b:=false,g:=false}),(4,{b:=false})] [.aa [1,3,59] [1]] (yM 5 (yR false)++ [yR true,yR false,yR true])
    refine mz [(2,yV (ao (e.target == 0))),(3,{g:=false}),(4,{b:=false})] [.aa [1,3,59] [1]] (yM 3 (yR true)++ [yI (fV e.target 0),yR false,yR true,yR true,yR false,yR true])
   refine mz [] [.aa [1,3,59] [1]] (yM 8 (yR true))
  generalize (b && ((e.kind == 5) || ((e.cm == 0) && (e.target == 0))))=b
  cases b
  ·refine mz [(0,{g:=false}),(1,{g:=false}),(2,{g:=false}),(3,{g:=false}),(4,{b:=false})] [.aa [2] []] (yM 5 (yR false))
  refine mz [(3,yV (ao (e.dep.target == 0)))] [.aa [2] []] (yM 4 (yR true)++ [yI (fV e.dep.target 0),yR true])
 refine zR (cE)
end Go.Proofs.YtjgbhhnghedgdaaGreatDoor
