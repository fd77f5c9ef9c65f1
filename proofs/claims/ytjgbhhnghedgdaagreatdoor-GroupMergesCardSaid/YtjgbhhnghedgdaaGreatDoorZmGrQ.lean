import Derived.Test.YtjgbhhnghedgdaaGreatDoorZmGrE4
set_option linter.all false
namespace Go.Proofs.YtjgbhhnghedgdaaGreatDoor
open Go.RowKit
theorem QD (l:List Int) (g:gp) (k:Nat) (hk:k≤l.length) (hm:g.al.length≤8):zZ (Of l g k):=by
 have ho:=qG g hk 10
 have hD:Of l g k= {fK (u64 (gW l (fN l g k 10).2 5)) (gW l (dU l (fN l g k 10).2) 9) (fN l g k 10).1 (1+gW l (dU l (dU l (fN l g k 10).2)) ((fN l g k 10).1.length+1)) with peer:=5,box:=stream (u64 (gW l (dU l (dU l (dU l (fN l g k 10).2))) 3)+1) 7 (20+gW l (dU l (dU l (dU l (dU l (fN l g k 10).2)))) 3)}:=rfl
 rw [hD]
 obtain ⟨o1,o2,o3⟩:=ho
 generalize fN l g k 10=s at *
 have hL:s.1.length≤80:=Nat.le_trans o1 (Nat.mul_le_mul (Nat.le_refl _) hm)
 have hb:∀a b n,(stream a b n).length≤1000000:=fun a b n=>by rw [tU];unfold iL;omega
 unfold fK
 split
 ·refine ⟨hb _ _ _,by show s.1.length≤_;omega,?_,fun i hi=>?_⟩
  ·show ((List.range s.1.length).map _).length≤_
   rw [List.length_map,List.length_range];omega
  ·have hi:i<s.1.length:=hi
   show (s.1.getD i default).length≤1000
   rw [List.getD_eq_getElem?_getD,List.getElem?_eq_getElem hi]
   exact o2 _ (List.getElem_mem hi)
 ·exact ⟨hb _ _ _,Nat.zero_le _,Nat.zero_le _,fun i hi=>absurd hi (Nat.not_lt_zero i)⟩
structure L8 (l:List Int) (g:gp) (s:dP×Nat):Prop where
 b:mY s.1
 v:s.1.aq= []
 k:s.2≤l.length
theorem rR:zZ QF:=⟨Nat.zero_le _,Nat.zero_le _,Nat.zero_le _,fun i hi=>absurd hi (Nat.not_lt_zero i)⟩
theorem JJ (l:List Int) (g:gp) (k:Nat) (hk:k≤l.length) (hm:g.al.length≤8):L8 l g (vt l g k):=by
 have h1:∀kd n k,k≤l.length->L8 l g (zo l g kd n k):=fun kd n k hk=>by
  have a:=dO hk
  unfold zo
  split
  ·exact ⟨⟨mF n,rR⟩,rfl,hk⟩
  split
  ·exact ⟨⟨mF n,rR⟩,rfl,hk⟩
  split
  ·exact ⟨⟨Nat.zero_le _,rR⟩,rfl,a⟩
  split
  ·exact ⟨⟨Nat.zero_le _,QD l g k hk hm⟩,rfl,JN g hk⟩
  split
  ·split
   ·exact ⟨⟨Nat.zero_le _,rR⟩,rfl,a⟩
   ·exact ⟨⟨Nat.zero_le _,rR⟩,rfl,dO a⟩
  ·exact ⟨⟨Nat.zero_le _,rR⟩,rfl,hk⟩
 have h2:∀s,L8 l g s->L8 l g (BW l s):=fun s hs=>by
  obtain ⟨⟨b1,b2⟩,b3,b4⟩:=hs
  have a:=dO b4
  unfold BW
  split
  ·exact ⟨⟨b1,b2⟩,b3,dO a⟩
  split
  ·exact ⟨⟨b1,b2⟩,b3,a⟩
  split
  ·refine ⟨⟨?_,b2⟩,b3,dO a⟩
   show (rr.getD _ []).length≤1000
   generalize gW l (dU l s.2) 3=i
   rcases i with _|_|_|i<;>exact Nat.le_of_ble_eq_true rfl
  split
  ·exact ⟨⟨b1,b2⟩,b3,a⟩
  split
  ·exact ⟨⟨b1,⟨b2.box,b2.Bp,b2.Rr,b2.QZ⟩⟩,b3,dO a⟩
  ·exact ⟨⟨b1,b2⟩,b3,a⟩
 exact h2 _ (h1 _ _ _ (dO (dO hk)))
def NZ (l:List Int) (s:ta×Nat):Nat:=v8 s.1 (gW l (vt l s.1.bP s.2).2 10)
def u7 (l:List Int) (s:ta×Nat):dP×(Nat->Int):=bI (vt l s.1.bP s.2).1 s.1.nx (NZ l s) 10
def Dg (l:List Int) (s:ta×Nat):ta×Nat:=(if fD s.1.bP (u7 l s).1=0 then ⟨ia s.1.bP (u7 l s).1,s.1.log++ [(u7 l s).1],(u7 l s).2⟩ else s.1,dU l (vt l s.1.bP s.2).2)
def de (l:List Int) (s:ta×Nat):Nat->ta×Nat
 | 0=>s
 | i+1=>if (de l s i).2<l.length then Dg l (de l s i) else de l s i
theorem xk (l:List Int) (s:ta×Nat) {i:Nat} (h:¬(de l s i).2<l.length):∀d,de l s (i+d)=de l s i
 | 0=>rfl
 | d+1=>by
  have ih:=xk l s h d
  show (if (de l s (i+d)).2<l.length then _ else de l s (i+d))=_
  rw [ih,if_neg h]
structure Eh (c:ta) (n:Nat):Prop where
 bP:mj c.bP
 Bp:wx c.bP
 len:c.log.length≤n
 QB:∀e∈c.log,mY e∧e.aq.length≤10
theorem N6 (l:List Int) {s:ta×Nat} {n:Nat} (h:Eh s.1 n) (hk:s.2≤l.length):Eh (Dg l s).1 (n+1)∧(Dg l s).2≤l.length:=by
 obtain ⟨h1,h2,h3,h4⟩:=h
 obtain ⟨b1,b2,b3⟩:=JJ l s.1.bP s.2 hk h1.m8
 refine ⟨?_,dO b3⟩
 have hs:=xL b1 s.1.nx (NZ l s) 10
 rw [show (bI (vt l s.1.bP s.2).1 s.1.nx (NZ l s) 10)=u7 l s from rfl,b2] at hs
 show Eh (if _ then _ else _) _
 split
 ·rename_i c
  refine ⟨J_ h1 c,h2.Uu hs.1.dep.Bp,by show (s.1.log++ [_]).length≤_;simp;omega,fun e he=>?_⟩
  rcases List.mem_append.1 he with he|he
  ·exact h4 e he
  ·obtain rfl:=List.mem_singleton.1 he
   exact ⟨hs.1,by have:=hs.2;simpa using this⟩
 ·exact ⟨h1,h2,ah,h4⟩
theorem u9 (l:List Int) {s:ta×Nat} {n:Nat} (h:Eh s.1 n) (hk:s.2≤l.length):∀i,Eh (de l s i).1 (n+i)∧(de l s i).2≤l.length
 | 0=>⟨h,hk⟩
 | i+1=>by
  have ih:=u9 l h hk i
  unfold de
  split
  ·exact N6 l ih.1 ih.2
  ·obtain ⟨⟨h1,h2,h3,h4⟩,h5⟩:=ih
   exact ⟨⟨h1,h2,ah,h4⟩,h5⟩
theorem Oj:Eh ld 0:=by
 have hn:eY (dJ 0)=0∨eY (dJ 0)≠0:=Decidable.em _
 refine ⟨?_,?_,Nat.le_refl _,fun e he=>by cases he⟩
 ·show mj (bH (dJ 0))
  unfold bH
  split
  ·exact ⟨Int.le_refl 0,(show (0:Int)≤2147483647 by omega),(ah:1≤8),(show (0:Int)≤1 by omega),(show (1:Int)≤8 by omega),Nat.zero_le _⟩
  ·exact ⟨Int.le_refl 0,(show (0:Int)≤2147483647 by omega),Nat.zero_le _,Int.le_refl 0,(show (0:Int)≤8 by omega),Nat.zero_le _⟩
 ·show wx (bH (dJ 0))
  unfold bH
  split<;>exact fun d hd=>by cases hd
end Go.Proofs.YtjgbhhnghedgdaaGreatDoor
