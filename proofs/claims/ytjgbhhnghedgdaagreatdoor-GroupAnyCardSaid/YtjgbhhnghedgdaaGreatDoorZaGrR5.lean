import Derived.Test.YtjgbhhnghedgdaaGreatDoorZaTk2
set_option linter.all false
namespace Go.Proofs.YtjgbhhnghedgdaaGreatDoor
open Go.RowKit
set_option maxRecDepth 100000
set_option maxHeartbeats 4000000
def OK (cs:List AV) (p:Nat) (v:Bool):AS:=⟨[(1,.addr 1 0),(p,ao v)],[(1,⟨1,false,true,cs⟩)]⟩
theorem xu (d:m0):bK Tryz.prog 129 [.agg (bc d)] (ao (decide (vc d))):=by
 have PS:(af ay d.aa).length=d.aa.length:=by rw [aF (e:=1) (fun _=>rfl)];omega
 have hR:(((((((d.bR == 0) && (d.peer == 0)) && ((d.box.length:Int) == 0)) && (((af ay d.aa).length:Int) == 0)) && ((d.au.length:Int) == 0)) && (d.need == 0)) && (d.target == 0))=decide (vc d):=by
  unfold vc
  rw [Bool.eq_iff_iff,PS]
  simp [and_assoc]
 refine zO Tryz.func129 39<|bf.i9 1 [{}] bh (s':=AS.mk [(2,ao false),(1,AV.addr 1 0),(0,AV.agg (bc d))] [(1,Row.mk 1 false true (List.map (aD 1) (bc d)))]) (C:=[]) bh trivial<|zS (bf.LV ⟨[(2,ao (decide (vc d)))],[]⟩ bh ?_ (ak ?_))
 ·rw [←hR]
  refine eJ.step 4 (OK (bc d) 6 (d.bR == 0)) ?_ ?_
  ·refine mO [(2,yV (ao (d.bR == 0)))] [.ae [1,6] [1]] [yI (fo d.bR 0)]
  generalize (d.bR == 0)=b
  refine eJ.step 5 (OK (bc d) 11 (b && (d.peer == 0))) ?_ ?_
  ·cases b
   ·refine mO [(0,{g:=false}),(1,{g:=false}),(2,{g:=false}),(3,{b:=false})] [.ae [1,11] [1]] (yM 4 (yR false))
   refine mO [(2,yV (ao (d.peer == 0)))] [.ae [1,11] [1]] (yM 3 (yR true)++ [yI (fo d.peer 0),yR true])
  generalize (b && (d.peer == 0))=b
  refine eJ.step 6 (OK (bc d) 17 (b && ((d.box.length:Int) == 0))) ?_ ?_
  ·cases b
   ·refine mO [(0,{g:=false}),(1,{g:=false}),(2,{g:=false}),(3,{g:=false}),(4,{b:=false})] [.ae [1,17] [1]] (yM 5 (yR false))
   refine mO [(2,{k:=d.box.length})] [.ae [1,17] [1]] (yM 3 (yR true)++ [yI (aC d.box),yR true,yR true])
  generalize (b && ((d.box.length:Int) == 0))=b
  refine eJ.step 6 (OK (bc d) 23 (b && (((af ay d.aa).length:Int) == 0))) ?_ ?_
  ·cases b
   ·refine mO [(0,{g:=false}),(1,{g:=false}),(2,{g:=false}),(3,{g:=false}),(4,{b:=false})] [.ae [1,23] [1]] (yM 5 (yR false))
   refine mO [(2,{k:=(af ay d.aa).length})] [.ae [1,23] [1]] (yM 3 (yR true)++ [yR ((af ay d.aa).length),yR true,yR true])
  generalize (b && (((af ay d.aa).length:Int) == 0))=b
  refine eJ.step 6 (OK (bc d) 29 (b && ((d.au.length:Int) == 0))) ?_ ?_
  ·cases b
   ·refine mO [(0,{g:=false}),(1,{g:=false}),(2,{g:=false}),(3,{g:=false}),(4,{b:=false})] [.ae [1,29] [1]] (yM 5 (yR false))
   refine mO [(2,{k:=d.au.length})] [.ae [1,29] [1]] (yM 3 (yR true)++ [yI (aA d.au),yR true,yR true])
  generalize (b && ((d.au.length:Int) == 0))=b
  refine eJ.step 5 (OK (bc d) 34 (b && (d.need == 0))) ?_ ?_
  ·cases b
   ·refine mO [(0,{g:=false}),(1,{g:=false}),(2,{g:=false}),(3,{b:=false})] [.ae [1,34] [1]] (yM 4 (yR false))
   refine mO [] [.ae [1,34] [1]] (yM 4 (yR true))
  generalize (b && (d.need == 0))=b
  cases b
  ·refine mO [(0,{g:=false}),(1,{g:=false}),(2,{g:=false}),(3,{b:=false})] [.ae [2] []] (yM 4 (yR false))
  refine mO [(2,yV (ao (d.target == 0)))] [.ae [2] []] (yM 3 (yR true)++ [yI (fo d.target 0),yR true])
 refine zR (bV)
theorem Mp {x:UInt64} (h:wv x=0):x=0:=by
 have h:((x.toNat:Nat):Int)=0:=h
 exact UInt64.toNat_inj.1 (by rw [show x.toNat=0 by omega];rfl)
def NS (cs:List AV) (k:Int) (p:Nat) (v:Bool):AS:=⟨[(1,.addr 1 0),(3,ai k),(p,ao v)],[(1,⟨1,false,true,cs⟩)]⟩
def Q3 (cs:List AV) (k:Int) (q p:Nat) (v:Bool):AS:=⟨[(1,.addr 1 0),(3,ai k),(q,ao true),(p,ao v)],[(1,⟨1,false,true,cs⟩)]⟩
def VQ (cs:List AV) (k:Int) (q p r:Nat) (v:Bool):AS:=⟨[(1,.addr 1 0),(3,ai k),(q,ao true),(p,ao false),(r,ao v)],[(1,⟨1,false,true,cs⟩)]⟩
theorem jx (e:eF):bK Tryz.prog 79 [.agg (aT e)] (ao (decide (fe e))):=by
 have hR:((((((((e.kind == 1) || (e.kind == 2)) || (e.name == [])) && ((e.kind == 1) || (e.kh == 0 && (wv e.kr == 0 && true)))) && ((e.kind == 3) || (e.bt == 0))) && ((e.kind == 4) || (decide (vc e.dep)))) && ((e.kind == 5) || ((e.bR == 0) && (e.target == 0)))) && (e.dep.target == 0))=decide (fe e):=by
  rw [Bool.eq_iff_iff,decide_eq_true_iff]
  unfold fe
  have hz:((e.kh == 0 && (wv e.kr == 0 && true))=true)↔(e.kh=0∧e.kr=0):=by
   rw [Bool.and_true,Bool.and_eq_true,beq_iff_eq,beq_iff_eq]
   exact ⟨fun h=>⟨h.1,Mp h.2⟩,fun h=>⟨h.1,by rw [h.2];rfl⟩⟩
  simp only [Bool.and_eq_true,Bool.or_eq_true,beq_iff_eq,hz,decide_eq_true_eq,and_assoc,or_assoc]
 refine zO Tryz.func79 65<|bf.jW 2 [{},{}] [.ae [3,2,1,0] [1]] bh (s':=AS.mk [(3,ai e.kind),(2,ao false),(1,AV.addr 1 0),(0,AV.agg (aT e))] [(1,Row.mk 1 false true (List.map (aD 1) (aT e)))]) (C:=[]) bh trivial<|zS (bf.LV ⟨[(2,ao (decide (fe e)))],[]⟩ bh ?_ (ak ?_))
 ·rw [←hR]
  refine eJ.step 7 (NS (aT e) e.kind 12 ((e.kind == 1) || (e.kind == 2))) ?_ ?_
  ·refine eJ.step 3 (NS (aT e) e.kind 8 (e.kind == 1)) ?_ ?_
   ·refine mO [] [.ae [1,3,8] [1]] []
   generalize (e.kind == 1)=b1
   cases b1
   ·refine mO [(0,{g:=false}),(1,{g:=false}),(2,{b:=false})] [.ae [1,3,12] [1]] (yM 3 (yR false))
   refine mO [] [.ae [1,3,12] [1]] (yM 3 (yR true))
  generalize ((e.kind == 1) || (e.kind == 2))=b
  refine eJ.step 5 (NS (aT e) e.kind 17 (b || (e.name == []))) ?_ ?_
  ·cases b
   ·refine mO [(0,{g:=false}),(1,{g:=false}),(2,{av:=some (ao (e.name == [])),g:=false}),(3,{b:=false})] [.ae [1,3,17] [1]] (yM 3 (yR false)++ [yI (fX e.name []),yR false])
   refine mO [] [.ae [1,3,17] [1]] (yM 4 (yR true))
  generalize (b || (e.name == []))=b
  refine eJ.step 10 (NS (aT e) e.kind 27 (b && ((e.kind == 1) || (e.kh == 0 && (wv e.kr == 0 && true))))) ?_ ?_
  ·cases b
   ·refine mO [(0,{g:=false}),(1,{g:=false}),(2,{g:=false}),(7,{g:=false}),(8,{b:=false})] [.ae [1,3,27] [1]] (yM 5 (yR false))
   refine eJ.step 3 (Q3 (aT e) e.kind 17 20 (e.kind == 1)) ?_ ?_
   ·refine mO [] [.ae [1,3,17,20] [1]] (yM 3 (yR true))
   generalize (e.kind == 1)=c
   cases c
   ·refine mO [(0,{g:=false}),(1,{g:=false}),(2,{g:=false}),(3,{g:=false}),(4,{b:=false})] [.ae [1,3,27] [1]] (yM 4 (yR false)++ [yR true,yR false,yR true])
   refine mO [] [.ae [1,3,27] [1]] (yM 7 (yR true))
  generalize (b && ((e.kind == 1) || (e.kh == 0 && (wv e.kr == 0 && true))))=b
  refine eJ.step 9 (NS (aT e) e.kind 36 (b && ((e.kind == 3) || (e.bt == 0)))) ?_ ?_
  ·cases b
   ·refine mO [(0,{g:=false}),(1,{g:=false}),(2,{g:=false}),(6,{g:=false}),(7,{b:=false})] [.ae [1,3,36] [1]] (yM 5 (yR false))
   refine eJ.step 3 (Q3 (aT e) e.kind 27 30 (e.kind == 3)) ?_ ?_
   ·refine mO [] [.ae [1,3,27,30] [1]] (yM 3 (yR true))
   generalize (e.kind == 3)=c
   cases c
   ·refine mO [(0,{g:=false}),(1,{g:=false}),(2,{g:=false}),(3,{b:=false})] [.ae [1,3,36] [1]] (yM 3 (yR false)++ [yR true,yR false,yR true])
   refine mO [] [.ae [1,3,36] [1]] (yM 6 (yR true))
  generalize (b && ((e.kind == 3) || (e.bt == 0)))=b
  refine eJ.step 9 (NS (aT e) e.kind 45 (b && ((e.kind == 4) || (decide (vc e.dep))))) ?_ ?_
  ·cases b
   ·refine mO [(0,{g:=false}),(1,{g:=false}),(2,{g:=false}),(6,{g:=false}),(7,{b:=false})] [.ae [1,3,45] [1]] (yM 5 (yR false))
   refine eJ.step 3 (Q3 (aT e) e.kind 36 39 (e.kind == 4)) ?_ ?_
   ·refine mO [] [.ae [1,3,36,39] [1]] (yM 3 (yR true))
   generalize (e.kind == 4)=c
   cases c
   ·refine mO [(0,{g:=false}),(1,{g:=false}),(2,{av:=some (ao (decide (vc e.dep))),g:=false}),(3,{b:=false})] [.ae [1,3,45] [1]] (yM 3 (yR false)++ [yI (xu e.dep),yR true,yR false,yR true])
   refine mO [] [.ae [1,3,45] [1]] (yM 6 (yR true))
  generalize (b && ((e.kind == 4) || (decide (vc e.dep))))=b
  refine eJ.step 14 (NS (aT e) e.kind 59 (b && ((e.kind == 5) || ((e.bR == 0) && (e.target == 0))))) ?_ ?_
  ·cases b
   ·refine mO [(0,{g:=false}),(1,{g:=false}),(2,{g:=false}),(11,{g:=false}),(12,{b:=false})] [.ae [1,3,59] [1]] (yM 5 (yR false))
   refine eJ.step 3 (Q3 (aT e) e.kind 45 48 (e.kind == 5)) ?_ ?_
   ·refine mO [] [.ae [1,3,45,48] [1]] (yM 3 (yR true))
   generalize (e.kind == 5)=c
   cases c
   ·refine eJ.step 4 (VQ (aT e) e.kind 45 48 52 (e.bR == 0)) ?_ ?_
    ·refine mO [(0,{g:=false}),(1,{g:=false}),(2,{av:=some (ao (e.bR == 0)),g:=false}),(3,{g:=false})] [.ae [1,3,45,48,52] [1]] (yM 3 (yR false)++ [yI (fo e.bR 0),yR false])
    generalize (e.bR == 0)=c
    cases c
    ·refine mO [(0,{g:=false}),(1,{g:=false}),(2,{g:=false}),(3,{b:=false,g:=false}),(4,{b:=false})] [.ae [1,3,59] [1]] (yM 5 (yR false)++ [yR true,yR false,yR true])
    refine mO [(2,yV (ao (e.target == 0))),(3,{g:=false}),(4,{b:=false})] [.ae [1,3,59] [1]] (yM 3 (yR true)++ [yI (fo e.target 0),yR false,yR true,yR true,yR false,yR true])
   refine mO [] [.ae [1,3,59] [1]] (yM 8 (yR true))
  generalize (b && ((e.kind == 5) || ((e.bR == 0) && (e.target == 0))))=b
  cases b
  ·refine mO [(0,{g:=false}),(1,{g:=false}),(2,{g:=false}),(3,{g:=false}),(4,{b:=false})] [.ae [2] []] (yM 5 (yR false))
  refine mO [(3,yV (ao (e.dep.target == 0)))] [.ae [2] []] (yM 4 (yR true)++ [yI (fo e.dep.target 0),yR true])
 refine zR (bV)
end Go.Proofs.YtjgbhhnghedgdaaGreatDoor
