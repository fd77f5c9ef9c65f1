import Derived.Test.YtjgbhhnghedgdaaGreatDoorZvGrE2
import Derived.Test.YtjgbhhnghedgdaaGreatDoorZvGrE4
set_option linter.all false
namespace Go.Proofs.YtjgbhhnghedgdaaGreatDoor
open Go.RowKit
theorem Q9 (l:List Int) (g:ig) (k:Nat) (hk:k≤l.length) (hm:g.aq.length≤8):Aq (OB l g k):=by
 have ho:=q9 g hk 10
 have hD:OB l g k= {fW (u64 (ia l (fY l g k 10).2 5)) (ia l (eg l (fY l g k 10).2) 9) (fY l g k 10).1 (1+ia l (eg l (eg l (fY l g k 10).2)) ((fY l g k 10).1.length+1)) with peer:=5,box:=stream (u64 (ia l (eg l (eg l (eg l (fY l g k 10).2))) 3)+1) 7 (20+ia l (eg l (eg l (eg l (eg l (fY l g k 10).2)))) 3)}:=rfl
 rw [hD]
 obtain ⟨o1,o2,o3⟩:=ho
 generalize fY l g k 10=s at *
 have hL:s.1.length≤80:=Nat.le_trans o1 (Nat.mul_le_mul (Nat.le_refl _) hm)
 have hb:∀a b n,(stream a b n).length≤1000000:=fun a b n=>by rw [uI];unfold i7;omega
 unfold fW
 split
 ·refine ⟨hb _ _ _,by show s.1.length≤_;omega,?_,fun i hi=>?_⟩
  ·show ((List.range s.1.length).map _).length≤_
   rw [List.length_map,List.length_range];omega
  ·have hi:i<s.1.length:=hi
   show (s.1.getD i default).length≤1000
   rw [List.getD_eq_getElem?_getD,List.getElem?_eq_getElem hi]
   exact o2 _ (List.getElem_mem hi)
 ·exact ⟨hb _ _ _,Nat.zero_le _,Nat.zero_le _,fun i hi=>absurd hi (Nat.not_lt_zero i)⟩
structure Mi (l:List Int) (g:ig) (s:fC×Nat):Prop where
 b:nB s.1
 v:s.1.ak= []
 k:s.2≤l.length
theorem sw:Aq Rb:=⟨Nat.zero_le _,Nat.zero_le _,Nat.zero_le _,fun i hi=>absurd hi (Nat.not_lt_zero i)⟩
theorem DX (l:List Int) (g:ig) (k:Nat) (hk:k≤l.length) (hm:g.aq.length≤8):Mi l g (tO l g k):=by
 have h1:∀kd n k,k≤l.length->Mi l g (Ac l g kd n k):=fun kd n k hk=>by
  have a:=dS hk
  unfold Ac
  split
  ·exact ⟨⟨kz n,sw⟩,rfl,hk⟩
  split
  ·exact ⟨⟨kz n,sw⟩,rfl,hk⟩
  split
  ·exact ⟨⟨Nat.zero_le _,sw⟩,rfl,a⟩
  split
  ·exact ⟨⟨Nat.zero_le _,Q9 l g k hk hm⟩,rfl,J1 g hk⟩
  split
  ·split
   ·exact ⟨⟨Nat.zero_le _,sw⟩,rfl,a⟩
   ·exact ⟨⟨Nat.zero_le _,sw⟩,rfl,dS a⟩
  ·exact ⟨⟨Nat.zero_le _,sw⟩,rfl,hk⟩
 have h2:∀s,Mi l g s->Mi l g (Ca l s):=fun s hs=>by
  obtain ⟨⟨b1,b2⟩,b3,b4⟩:=hs
  have a:=dS b4
  unfold Ca
  split
  ·exact ⟨⟨b1,b2⟩,b3,dS a⟩
  split
  ·exact ⟨⟨b1,b2⟩,b3,a⟩
  split
  ·refine ⟨⟨?_,b2⟩,b3,dS a⟩
   show (rU.getD _ []).length≤1000
   generalize ia l (eg l s.2) 3=i
   rcases i with _|_|_|i<;>exact Nat.le_of_ble_eq_true rfl
  split
  ·exact ⟨⟨b1,b2⟩,b3,a⟩
  split
  ·exact ⟨⟨b1,⟨b2.box,b2.Cu,b2.Q_,b2.Rv⟩⟩,b3,dS a⟩
  ·exact ⟨⟨b1,b2⟩,b3,a⟩
 exact h2 _ (h1 _ _ _ (dS (dS hk)))
def Oq (l:List Int) (s:tR×Nat):Nat:=Bi s.1 (ia l (tO l s.1.cH s.2).2 10)
def vP (l:List Int) (s:tR×Nat):fC×(Nat->Int):=bB (tO l s.1.cH s.2).1 s.1.nx (Oq l s) 10
def Ds (l:List Int) (s:tR×Nat):tR×Nat:=(if gQ s.1.cH (vP l s).1=0 then ⟨jC s.1.cH (vP l s).1,s.1.log++ [(vP l s).1],(vP l s).2⟩ else s.1,eg l (tO l s.1.cH s.2).2)
def dz (l:List Int) (s:tR×Nat):Nat->tR×Nat
 | 0=>s
 | i+1=>if (dz l s i).2<l.length then Ds l (dz l s i) else dz l s i
theorem xT (l:List Int) (s:tR×Nat) {i:Nat} (h:¬(dz l s i).2<l.length):∀d,dz l s (i+d)=dz l s i
 | 0=>rfl
 | d+1=>by
  have ih:=xT l s h d
  show (if (dz l s (i+d)).2<l.length then _ else dz l s (i+d))=_
  rw [ih,if_neg h]
structure Eo (c:tR) (n:Nat):Prop where
 cH:ry c.cH
 Cu:Hc c.cH
 len:c.log.length≤n
 W4:∀e∈c.log,nB e∧e.ak.length≤10
theorem Ot (l:List Int) {s:tR×Nat} {n:Nat} (h:Eo s.1 n) (hk:s.2≤l.length):Eo (Ds l s).1 (n+1)∧(Ds l s).2≤l.length:=by
 obtain ⟨h1,h2,h3,h4⟩:=h
 obtain ⟨b1,b2,b3⟩:=DX l s.1.cH s.2 hk h1.m8
 refine ⟨?_,dS b3⟩
 have hs:=uP b1 s.1.nx (Oq l s) 10
 rw [show (bB (tO l s.1.cH s.2).1 s.1.nx (Oq l s) 10)=vP l s from rfl,b2] at hs
 show Eo (if _ then _ else _) _
 split
 ·rename_i c
  refine ⟨OU h1 c,h2.Xe hs.1.dep.Cu,by show (s.1.log++ [_]).length≤_;simp;omega,fun e he=>?_⟩
  rcases List.mem_append.1 he with he|he
  ·exact h4 e he
  ·obtain rfl:=List.mem_singleton.1 he
   exact ⟨hs.1,by have:=hs.2;simpa using this⟩
 ·exact ⟨h1,h2,ag,h4⟩
theorem Dr (l:List Int) {s:tR×Nat} {n:Nat} (h:Eo s.1 n) (hk:s.2≤l.length):∀i,Eo (dz l s i).1 (n+i)∧(dz l s i).2≤l.length
 | 0=>⟨h,hk⟩
 | i+1=>by
  have ih:=Dr l h hk i
  unfold dz
  split
  ·exact Ot l ih.1 ih.2
  ·obtain ⟨⟨h1,h2,h3,h4⟩,h5⟩:=ih
   exact ⟨⟨h1,h2,ag,h4⟩,h5⟩
theorem OG:Eo G5 0:=by
 have hn:je (eK 0)=0∨je (eK 0)≠0:=Decidable.em _
 refine ⟨?_,?_,Nat.le_refl _,fun e he=>by cases he⟩
 ·show ry (di (eK 0))
  unfold di
  split
  ·exact ⟨Int.le_refl 0,(show (0:Int)≤2147483647 by omega),(ag:1≤8),(show (0:Int)≤1 by omega),(show (1:Int)≤8 by omega),Nat.zero_le _⟩
  ·exact ⟨Int.le_refl 0,(show (0:Int)≤2147483647 by omega),Nat.zero_le _,Int.le_refl 0,(show (0:Int)≤8 by omega),Nat.zero_le _⟩
 ·show Hc (di (eK 0))
  unfold di
  split<;>exact fun d hd=>by cases hd
end Go.Proofs.YtjgbhhnghedgdaaGreatDoor
