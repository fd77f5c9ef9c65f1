import Derived.Test.YtjgbhhnghedgdaaGreatDoorZfGrE4
set_option linter.all false
namespace Go.Proofs.YtjgbhhnghedgdaaGreatDoor
open Go.RowKit
theorem RT (l:List Int) (g:fG) (k:Nat) (hk:k≤l.length) (hm:g.aq.length≤8):AG (Pr l g k):=by
 have ho:=ra g hk 10
 have hD:Pr l g k= {fX (u64 (ik l (f_ l g k 10).2 5)) (ik l (dW l (f_ l g k 10).2) 9) (f_ l g k 10).1 (1+ik l (dW l (dW l (f_ l g k 10).2)) ((f_ l g k 10).1.length+1)) with peer:=5,box:=stream (u64 (ik l (dW l (dW l (dW l (f_ l g k 10).2))) 3)+1) 7 (20+ik l (dW l (dW l (dW l (dW l (f_ l g k 10).2)))) 3)}:=rfl
 rw [hD]
 obtain ⟨o1,o2,o3⟩:=ho
 generalize f_ l g k 10=s at *
 have hL:s.1.length≤80:=Nat.le_trans o1 (Nat.mul_le_mul (Nat.le_refl _) hm)
 have hb:∀a b n,(stream a b n).length≤1000000:=fun a b n=>by rw [uM];unfold i3;omega
 unfold fX
 split
 ·refine ⟨hb _ _ _,by show s.1.length≤_;omega,?_,fun i hi=>?_⟩
  ·show ((List.range s.1.length).map _).length≤_
   rw [List.length_map,List.length_range];omega
  ·have hi:i<s.1.length:=hi
   show (s.1.getD i default).length≤1000
   rw [List.getD_eq_getElem?_getD,List.getElem?_eq_getElem hi]
   exact o2 _ (List.getElem_mem hi)
 ·exact ⟨hb _ _ _,Nat.zero_le _,Nat.zero_le _,fun i hi=>absurd hi (Nat.not_lt_zero i)⟩
structure M6 (l:List Int) (g:fG) (s:dj×Nat):Prop where
 b:l8 s.1
 v:s.1.ak= []
 k:s.2≤l.length
theorem sF:AG RV:=⟨Nat.zero_le _,Nat.zero_le _,Nat.zero_le _,fun i hi=>absurd hi (Nat.not_lt_zero i)⟩
theorem Ey (l:List Int) (g:fG) (k:Nat) (hk:k≤l.length) (hm:g.aq.length≤8):M6 l g (tS l g k):=by
 have h1:∀kd n k,k≤l.length->M6 l g (Ap l g kd n k):=fun kd n k hk=>by
  have a:=dU hk
  unfold Ap
  split
  ·exact ⟨⟨mT n,sF⟩,rfl,hk⟩
  split
  ·exact ⟨⟨mT n,sF⟩,rfl,hk⟩
  split
  ·exact ⟨⟨Nat.zero_le _,sF⟩,rfl,a⟩
  split
  ·exact ⟨⟨Nat.zero_le _,RT l g k hk hm⟩,rfl,KH g hk⟩
  split
  ·split
   ·exact ⟨⟨Nat.zero_le _,sF⟩,rfl,a⟩
   ·exact ⟨⟨Nat.zero_le _,sF⟩,rfl,dU a⟩
  ·exact ⟨⟨Nat.zero_le _,sF⟩,rfl,hk⟩
 have h2:∀s,M6 l g s->M6 l g (Cz l s):=fun s hs=>by
  obtain ⟨⟨b1,b2⟩,b3,b4⟩:=hs
  have a:=dU b4
  unfold Cz
  split
  ·exact ⟨⟨b1,b2⟩,b3,dU a⟩
  split
  ·exact ⟨⟨b1,b2⟩,b3,a⟩
  split
  ·refine ⟨⟨?_,b2⟩,b3,dU a⟩
   show (r5.getD _ []).length≤1000
   generalize ik l (dW l s.2) 3=i
   rcases i with _|_|_|i<;>exact Nat.le_of_ble_eq_true rfl
  split
  ·exact ⟨⟨b1,b2⟩,b3,a⟩
  split
  ·exact ⟨⟨b1,⟨b2.box,b2.CW,b2.SD,b2.Sd⟩⟩,b3,dU a⟩
  ·exact ⟨⟨b1,b2⟩,b3,a⟩
 exact h2 _ (h1 _ _ _ (dU (dU hk)))
def J6 (l:List Int) (s:rA×Nat):Nat:=Bw s.1 (ik l (tS l s.1.b7 s.2).2 10)
def m6 (l:List Int) (s:rA×Nat):dj×(Nat->Int):=bz (tS l s.1.b7 s.2).1 s.1.nx (J6 l s) 10
def xg (l:List Int) (s:rA×Nat):rA×Nat:=(if eW s.1.b7 (m6 l s).1=0 then ⟨ga s.1.b7 (m6 l s).1,s.1.log++ [(m6 l s).1],(m6 l s).2⟩ else s.1,dW l (tS l s.1.b7 s.2).2)
def c_ (l:List Int) (s:rA×Nat):Nat->rA×Nat
 | 0=>s
 | i+1=>if (c_ l s i).2<l.length then xg l (c_ l s i) else c_ l s i
theorem ya (l:List Int) (s:rA×Nat) {i:Nat} (h:¬(c_ l s i).2<l.length):∀d,c_ l s (i+d)=c_ l s i
 | 0=>rfl
 | d+1=>by
  have ih:=ya l s h d
  show (if (c_ l s (i+d)).2<l.length then _ else c_ l s (i+d))=_
  rw [ih,if_neg h]
structure wT (c:rA) (n:Nat):Prop where
 b7:ni c.b7
 CW:EZ c.b7
 len:c.log.length≤n
 RP:∀e∈c.log,l8 e∧e.ak.length≤10
theorem Pj (l:List Int) {s:rA×Nat} {n:Nat} (h:wT s.1 n) (hk:s.2≤l.length):wT (xg l s).1 (n+1)∧(xg l s).2≤l.length:=by
 obtain ⟨h1,h2,h3,h4⟩:=h
 obtain ⟨b1,b2,b3⟩:=Ey l s.1.b7 s.2 hk h1.m8
 refine ⟨?_,dU b3⟩
 have hs:=yU b1 s.1.nx (J6 l s) 10
 rw [show (bz (tS l s.1.b7 s.2).1 s.1.nx (J6 l s) 10)=m6 l s from rfl,b2] at hs
 show wT (if _ then _ else _) _
 split
 ·rename_i c
  refine ⟨K5 h1 c,h2.Xt hs.1.dep.CW,by show (s.1.log++ [_]).length≤_;simp;omega,fun e he=>?_⟩
  rcases List.mem_append.1 he with he|he
  ·exact h4 e he
  ·obtain rfl:=List.mem_singleton.1 he
   exact ⟨hs.1,by have:=hs.2;simpa using this⟩
 ·exact ⟨h1,h2,ag,h4⟩
theorem sg (l:List Int) {s:rA×Nat} {n:Nat} (h:wT s.1 n) (hk:s.2≤l.length):∀i,wT (c_ l s i).1 (n+i)∧(c_ l s i).2≤l.length
 | 0=>⟨h,hk⟩
 | i+1=>by
  have ih:=sg l h hk i
  unfold c_
  split
  ·exact Pj l ih.1 ih.2
  ·obtain ⟨⟨h1,h2,h3,h4⟩,h5⟩:=ih
   exact ⟨⟨h1,h2,ag,h4⟩,h5⟩
theorem Pw:wT CJ 0:=by
 have hn:gr (dv 0)=0∨gr (dv 0)≠0:=Decidable.em _
 refine ⟨?_,?_,Nat.le_refl _,fun e he=>by cases he⟩
 ·show ni (bU (dv 0))
  unfold bU
  split
  ·exact ⟨Int.le_refl 0,(show (0:Int)≤2147483647 by omega),(ag:1≤8),(show (0:Int)≤1 by omega),(show (1:Int)≤8 by omega),Nat.zero_le _⟩
  ·exact ⟨Int.le_refl 0,(show (0:Int)≤2147483647 by omega),Nat.zero_le _,Int.le_refl 0,(show (0:Int)≤8 by omega),Nat.zero_le _⟩
 ·show EZ (bU (dv 0))
  unfold bU
  split<;>exact fun d hd=>by cases hd
end Go.Proofs.YtjgbhhnghedgdaaGreatDoor
