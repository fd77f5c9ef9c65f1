import Derived.Test.YtjgbhhnghedgdaaGreatDoorZaGrE4
set_option linter.all false
namespace Go.Proofs.YtjgbhhnghedgdaaGreatDoor
open Go.RowKit
theorem Qk (l:List Int) (g:gK) (k:Nat) (hk:k≤l.length) (hm:g.al.length≤8):y8 (NK l g k):=by
 have ho:=qq g hk 10
 have hD:NK l g k= {fF (u64 (gV l (fH l g k 10).2 5)) (gV l (dS l (fH l g k 10).2) 9) (fH l g k 10).1 (1+gV l (dS l (dS l (fH l g k 10).2)) ((fH l g k 10).1.length+1)) with peer:=5,box:=stream (u64 (gV l (dS l (dS l (dS l (fH l g k 10).2))) 3)+1) 7 (20+gV l (dS l (dS l (dS l (dS l (fH l g k 10).2)))) 3)}:=rfl
 rw [hD]
 obtain ⟨o1,o2,o3⟩:=ho
 generalize fH l g k 10=s at *
 have hL:s.1.length≤80:=Nat.le_trans o1 (Nat.mul_le_mul (Nat.le_refl _) hm)
 have hb:∀a b n,(stream a b n).length≤1000000:=fun a b n=>by rw [tG];unfold iL;omega
 unfold fF
 split
 ·refine ⟨hb _ _ _,by show s.1.length≤_;omega,?_,fun i hi=>?_⟩
  ·show ((List.range s.1.length).map _).length≤_
   rw [List.length_map,List.length_range];omega
  ·have hi:i<s.1.length:=hi
   show (s.1.getD i default).length≤1000
   rw [List.getD_eq_getElem?_getD,List.getElem?_eq_getElem hi]
   exact o2 _ (List.getElem_mem hi)
 ·exact ⟨hb _ _ _,Nat.zero_le _,Nat.zero_le _,fun i hi=>absurd hi (Nat.not_lt_zero i)⟩
structure LJ (l:List Int) (g:gK) (s:eF×Nat):Prop where
 b:mN s.1
 v:s.1.aq= []
 k:s.2≤l.length
theorem rB:y8 Qm:=⟨Nat.zero_le _,Nat.zero_le _,Nat.zero_le _,fun i hi=>absurd hi (Nat.not_lt_zero i)⟩
theorem Jh (l:List Int) (g:gK) (k:Nat) (hk:k≤l.length) (hm:g.al.length≤8):LJ l g (va l g k):=by
 have h1:∀kd n k,k≤l.length->LJ l g (yD l g kd n k):=fun kd n k hk=>by
  have a:=dN hk
  unfold yD
  split
  ·exact ⟨⟨mv n,rB⟩,rfl,hk⟩
  split
  ·exact ⟨⟨mv n,rB⟩,rfl,hk⟩
  split
  ·exact ⟨⟨Nat.zero_le _,rB⟩,rfl,a⟩
  split
  ·exact ⟨⟨Nat.zero_le _,Qk l g k hk hm⟩,rfl,Jm g hk⟩
  split
  ·split
   ·exact ⟨⟨Nat.zero_le _,rB⟩,rfl,a⟩
   ·exact ⟨⟨Nat.zero_le _,rB⟩,rfl,dN a⟩
  ·exact ⟨⟨Nat.zero_le _,rB⟩,rfl,hk⟩
 have h2:∀s,LJ l g s->LJ l g (Bk l s):=fun s hs=>by
  obtain ⟨⟨b1,b2⟩,b3,b4⟩:=hs
  have a:=dN b4
  unfold Bk
  split
  ·exact ⟨⟨b1,b2⟩,b3,dN a⟩
  split
  ·exact ⟨⟨b1,b2⟩,b3,a⟩
  split
  ·refine ⟨⟨?_,b2⟩,b3,dN a⟩
   show (q6.getD _ []).length≤1000
   generalize gV l (dS l s.2) 3=i
   rcases i with _|_|_|i<;>exact Nat.le_of_ble_eq_true rfl
  split
  ·exact ⟨⟨b1,b2⟩,b3,a⟩
  split
  ·exact ⟨⟨b1,⟨b2.box,b2.zb,b2.NL,b2.Pa⟩⟩,b3,dN a⟩
  ·exact ⟨⟨b1,b2⟩,b3,a⟩
 exact h2 _ (h1 _ _ _ (dN (dN hk)))
def NA (l:List Int) (s:sQ×Nat):Nat:=vC s.1 (gV l (va l s.1.bP s.2).2 10)
def uN (l:List Int) (s:sQ×Nat):eF×(Nat->Int):=bH (va l s.1.bP s.2).1 s.1.nx (NA l s) 10
def CH (l:List Int) (s:sQ×Nat):sQ×Nat:=(if fI s.1.bP (uN l s).1=0 then ⟨iq s.1.bP (uN l s).1,s.1.log++ [(uN l s).1],(uN l s).2⟩ else s.1,dS l (va l s.1.bP s.2).2)
def dj (l:List Int) (s:sQ×Nat):Nat->sQ×Nat
 | 0=>s
 | i+1=>if (dj l s i).2<l.length then CH l (dj l s i) else dj l s i
theorem wO (l:List Int) (s:sQ×Nat) {i:Nat} (h:¬(dj l s i).2<l.length):∀d,dj l s (i+d)=dj l s i
 | 0=>rfl
 | d+1=>by
  have ih:=wO l s h d
  show (if (dj l s (i+d)).2<l.length then _ else dj l s (i+d))=_
  rw [ih,if_neg h]
structure DK (c:sQ) (n:Nat):Prop where
 bP:nT c.bP
 zb:DH c.bP
 len:c.log.length≤n
 VM:∀e∈c.log,mN e∧e.aq.length≤10
theorem NB (l:List Int) {s:sQ×Nat} {n:Nat} (h:DK s.1 n) (hk:s.2≤l.length):DK (CH l s).1 (n+1)∧(CH l s).2≤l.length:=by
 obtain ⟨h1,h2,h3,h4⟩:=h
 obtain ⟨b1,b2,b3⟩:=Jh l s.1.bP s.2 hk h1.m8
 refine ⟨?_,dN b3⟩
 have hs:=xh b1 s.1.nx (NA l s) 10
 rw [show (bH (va l s.1.bP s.2).1 s.1.nx (NA l s) 10)=uN l s from rfl,b2] at hs
 show DK (if _ then _ else _) _
 split
 ·rename_i c
  refine ⟨JL h1 c,h2.T6 hs.1.dep.zb,by show (s.1.log++ [_]).length≤_;simp;omega,fun e he=>?_⟩
  rcases List.mem_append.1 he with he|he
  ·exact h4 e he
  ·obtain rfl:=List.mem_singleton.1 he
   exact ⟨hs.1,by have:=hs.2;simpa using this⟩
 ·exact ⟨h1,h2,ah,h4⟩
theorem CG (l:List Int) {s:sQ×Nat} {n:Nat} (h:DK s.1 n) (hk:s.2≤l.length):∀i,DK (dj l s i).1 (n+i)∧(dj l s i).2≤l.length
 | 0=>⟨h,hk⟩
 | i+1=>by
  have ih:=CG l h hk i
  unfold dj
  split
  ·exact NB l ih.1 ih.2
  ·obtain ⟨⟨h1,h2,h3,h4⟩,h5⟩:=ih
   exact ⟨⟨h1,h2,ah,h4⟩,h5⟩
theorem NQ:DK kZ 0:=by
 have hn:iF (dK 0)=0∨iF (dK 0)≠0:=Decidable.em _
 refine ⟨?_,?_,Nat.le_refl _,fun e he=>by cases he⟩
 ·show nT (dd (dK 0))
  unfold dd
  split
  ·exact ⟨Int.le_refl 0,(show (0:Int)≤2147483647 by omega),(ah:1≤8),(show (0:Int)≤1 by omega),(show (1:Int)≤8 by omega),Nat.zero_le _⟩
  ·exact ⟨Int.le_refl 0,(show (0:Int)≤2147483647 by omega),Nat.zero_le _,Int.le_refl 0,(show (0:Int)≤8 by omega),Nat.zero_le _⟩
 ·show DH (dd (dK 0))
  unfold dd
  split<;>exact fun d hd=>by cases hd
end Go.Proofs.YtjgbhhnghedgdaaGreatDoor
