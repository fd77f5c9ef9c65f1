import Derived.Test.YtjgbhhnghedgdaaGreatDoorZbGrE4
set_option linter.all false
namespace Go.Proofs.YtjgbhhnghedgdaaGreatDoor
open Go.RowKit
theorem P8 (l:List Int) (g:gX) (k:Nat) (hk:k≤l.length) (hm:g.al.length≤8):yU (Nw l g k):=by
 have ho:=qq g hk 10
 have hD:Nw l g k= {fI (u64 (gW l (fJ l g k 10).2 5)) (gW l (dU l (fJ l g k 10).2) 9) (fJ l g k 10).1 (1+gW l (dU l (dU l (fJ l g k 10).2)) ((fJ l g k 10).1.length+1)) with peer:=5,box:=stream (u64 (gW l (dU l (dU l (dU l (fJ l g k 10).2))) 3)+1) 7 (20+gW l (dU l (dU l (dU l (dU l (fJ l g k 10).2)))) 3)}:=rfl
 rw [hD]
 obtain ⟨o1,o2,o3⟩:=ho
 generalize fJ l g k 10=s at *
 have hL:s.1.length≤80:=Nat.le_trans o1 (Nat.mul_le_mul (Nat.le_refl _) hm)
 have hb:∀a b n,(stream a b n).length≤1000000:=fun a b n=>by rw [tH];unfold iL;omega
 unfold fI
 split
 ·refine ⟨hb _ _ _,by show s.1.length≤_;omega,?_,fun i hi=>?_⟩
  ·show ((List.range s.1.length).map _).length≤_
   rw [List.length_map,List.length_range];omega
  ·have hi:i<s.1.length:=hi
   show (s.1.getD i default).length≤1000
   rw [List.getD_eq_getElem?_getD,List.getElem?_eq_getElem hi]
   exact o2 _ (List.getElem_mem hi)
 ·exact ⟨hb _ _ _,Nat.zero_le _,Nat.zero_le _,fun i hi=>absurd hi (Nat.not_lt_zero i)⟩
structure Lu (l:List Int) (g:gX) (s:eP×Nat):Prop where
 b:mO s.1
 v:s.1.ak= []
 k:s.2≤l.length
theorem rB:yU P_:=⟨Nat.zero_le _,Nat.zero_le _,Nat.zero_le _,fun i hi=>absurd hi (Nat.not_lt_zero i)⟩
theorem C9 (l:List Int) (g:gX) (k:Nat) (hk:k≤l.length) (hm:g.al.length≤8):Lu l g (sM l g k):=by
 have h1:∀kd n k,k≤l.length->Lu l g (yq l g kd n k):=fun kd n k hk=>by
  have a:=dQ hk
  unfold yq
  split
  ·exact ⟨⟨mw n,rB⟩,rfl,hk⟩
  split
  ·exact ⟨⟨mw n,rB⟩,rfl,hk⟩
  split
  ·exact ⟨⟨Nat.zero_le _,rB⟩,rfl,a⟩
  split
  ·exact ⟨⟨Nat.zero_le _,P8 l g k hk hm⟩,rfl,Jd g hk⟩
  split
  ·split
   ·exact ⟨⟨Nat.zero_le _,rB⟩,rfl,a⟩
   ·exact ⟨⟨Nat.zero_le _,rB⟩,rfl,dQ a⟩
  ·exact ⟨⟨Nat.zero_le _,rB⟩,rfl,hk⟩
 have h2:∀s,Lu l g s->Lu l g (Bb l s):=fun s hs=>by
  obtain ⟨⟨b1,b2⟩,b3,b4⟩:=hs
  have a:=dQ b4
  unfold Bb
  split
  ·exact ⟨⟨b1,b2⟩,b3,dQ a⟩
  split
  ·exact ⟨⟨b1,b2⟩,b3,a⟩
  split
  ·refine ⟨⟨?_,b2⟩,b3,dQ a⟩
   show (q6.getD _ []).length≤1000
   generalize gW l (dU l s.2) 3=i
   rcases i with _|_|_|i<;>exact Nat.le_of_ble_eq_true rfl
  split
  ·exact ⟨⟨b1,b2⟩,b3,a⟩
  split
  ·exact ⟨⟨b1,⟨b2.box,b2.AB,b2.Nx,b2.OW⟩⟩,b3,dQ a⟩
  ·exact ⟨⟨b1,b2⟩,b3,a⟩
 exact h2 _ (h1 _ _ _ (dQ (dQ hk)))
def Nl (l:List Int) (s:sR×Nat):Nat:=vC s.1 (gW l (sM l s.1.cw s.2).2 10)
def uP (l:List Int) (s:sR×Nat):eP×(Nat->Int):=cA (sM l s.1.cw s.2).1 s.1.nx (Nl l s) 10
def Cz (l:List Int) (s:sR×Nat):sR×Nat:=(if fX s.1.cw (uP l s).1=0 then ⟨i_ s.1.cw (uP l s).1,s.1.log++ [(uP l s).1],(uP l s).2⟩ else s.1,dU l (sM l s.1.cw s.2).2)
def dm (l:List Int) (s:sR×Nat):Nat->sR×Nat
 | 0=>s
 | i+1=>if (dm l s i).2<l.length then Cz l (dm l s i) else dm l s i
theorem wN (l:List Int) (s:sR×Nat) {i:Nat} (h:¬(dm l s i).2<l.length):∀d,dm l s (i+d)=dm l s i
 | 0=>rfl
 | d+1=>by
  have ih:=wN l s h d
  show (if (dm l s (i+d)).2<l.length then _ else dm l s (i+d))=_
  rw [ih,if_neg h]
structure DC (c:sR) (n:Nat):Prop where
 cw:qD c.cw
 AB:Gm c.cw
 len:c.log.length≤n
 Vw:∀e∈c.log,mO e∧e.ak.length≤10
theorem Nn (l:List Int) {s:sR×Nat} {n:Nat} (h:DC s.1 n) (hk:s.2≤l.length):DC (Cz l s).1 (n+1)∧(Cz l s).2≤l.length:=by
 obtain ⟨h1,h2,h3,h4⟩:=h
 obtain ⟨b1,b2,b3⟩:=C9 l s.1.cw s.2 hk h1.m8
 refine ⟨?_,dQ b3⟩
 have hs:=xe b1 s.1.nx (Nl l s) 10
 rw [show (cA (sM l s.1.cw s.2).1 s.1.nx (Nl l s) 10)=uP l s from rfl,b2] at hs
 show DC (if _ then _ else _) _
 split
 ·rename_i c
  refine ⟨NP h1 c,h2.VC hs.1.dep.AB,by show (s.1.log++ [_]).length≤_;simp;omega,fun e he=>?_⟩
  rcases List.mem_append.1 he with he|he
  ·exact h4 e he
  ·obtain rfl:=List.mem_singleton.1 he
   exact ⟨hs.1,by have:=hs.2;simpa using this⟩
 ·exact ⟨h1,h2,aj,h4⟩
theorem Cy (l:List Int) {s:sR×Nat} {n:Nat} (h:DC s.1 n) (hk:s.2≤l.length):∀i,DC (dm l s i).1 (n+i)∧(dm l s i).2≤l.length
 | 0=>⟨h,hk⟩
 | i+1=>by
  have ih:=Cy l h hk i
  unfold dm
  split
  ·exact Nn l ih.1 ih.2
  ·obtain ⟨⟨h1,h2,h3,h4⟩,h5⟩:=ih
   exact ⟨⟨h1,h2,aj,h4⟩,h5⟩
theorem NB:DC k8 0:=by
 have hn:iG (dz 0)=0∨iG (dz 0)≠0:=Decidable.em _
 refine ⟨?_,?_,Nat.le_refl _,fun e he=>by cases he⟩
 ·show qD (dd (dz 0))
  unfold dd
  split
  ·exact ⟨Int.le_refl 0,(show (0:Int)≤2147483647 by omega),(aj:1≤8),(show (0:Int)≤1 by omega),(show (1:Int)≤8 by omega),Nat.zero_le _⟩
  ·exact ⟨Int.le_refl 0,(show (0:Int)≤2147483647 by omega),Nat.zero_le _,Int.le_refl 0,(show (0:Int)≤8 by omega),Nat.zero_le _⟩
 ·show Gm (dd (dz 0))
  unfold dd
  split<;>exact fun d hd=>by cases hd
end Go.Proofs.YtjgbhhnghedgdaaGreatDoor
