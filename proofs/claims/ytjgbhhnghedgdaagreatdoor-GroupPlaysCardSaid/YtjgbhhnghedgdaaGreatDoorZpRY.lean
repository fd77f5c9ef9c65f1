import Derived.Test.YtjgbhhnghedgdaaGreatDoorZpRec3
set_option linter.all false
namespace Go.Proofs.YtjgbhhnghedgdaaGreatDoor
open Go.RowKit
def G1:Code->Option (List Oper)
 | .region _ ⟨l⟩ false=>some l
 | _=>none
theorem bf.Mp {P:Program} {n:Nat} {c:Code} {Q:Exit->AS->Prop} {s:AS} {o1 o2:Oper} {t t' el:TypeId} {x:Operand} {d1 d2 e:Nat} {row:List AV} (hc:G1 c=some [o1,o2]) (h1:o1.op= .move x) (g1:o1.guard=none) (k1:o1.dst=some d1)
  (h2:o2.op= .binOp .eql t (.tmp d1) (.const (.slice none 0 0)) t') (g2:o2.guard=none) (k2:o2.dst=some d2) (hu:P.underlying t=some (.slice el)) (Gd:Nat.blt d1 n=true) (yX:Nat.blt d2 n=true) (hx:bp s x= .sl e row)
  (h:∀b:Bool,(b=true->row= [])->Q .normal (lg (lg s d1 (.sl e row)) d2 (.val (.bool b)))):bf P n c Q s:=by
 intro S0 w0 a w ⟨φ,hs⟩
 have Gd:d1<n:=by simpa [Nat.blt_eq] using Gd
 have yX:d2<n:=by simpa [Nat.blt_eq] using yX
 unfold G1 at hc
 split at hc
 ·rename_i id l
  injection hc with hc;subst hc
  show wpList P _ _ [o1,o2] a w
  have hv:=hs.bp x
  rw [hx] at hv
  have Mw:Region.wanted o1 (yielded #[o1,o2] a.tmps)=true:=by unfold Region.wanted;rw [g1]
  unfold wpList
  rw [if_pos Mw]
  left
  refine cR (v:=a.eval x) (w':=w) (by unfold execOp;simp [h1]) ?_
  have gS:aG S0 w0 n [] (lg s d1 (.sl e row)) (a.put o1.dst (a.eval x)) w φ:=by rw [k1];exact hs.put Gd hv
  generalize a.put o1.dst (a.eval x)=a1 at *
  have My:=gS.bp (.tmp d1)
  have e1:bp (lg s d1 (.sl e row)) (.tmp d1)= .sl e row:=by
   show jN _ d1=_
   unfold jN
   rw [qT,if_pos rfl]
  rw [e1] at My
  have O6:∃A l cc,a1.eval (.tmp d1)= .slice A l cc∧(A.isNone=true->row= []):=by
   generalize a1.eval (.tmp d1)=v at My
   cases My with
   | rep hr=>cases hr with
    | sl A m cc e us row hl hn hc hm ha hr =>
     refine ⟨A,m,cc,rfl,fun hA=>?_⟩
     cases A with
     | some ad=>cases hA
     | none =>
      apply Classical.byContradiction
      intro cT
      have h0:0<row.length:=List.length_pos_iff.2 cT
      obtain ⟨ad,h0,-⟩:=ha h0
      cases h0
  obtain ⟨A,l,cc,jH,hA⟩:=O6
  have NP:Region.wanted o2 (yielded #[o1,o2] a1.tmps)=true:=by unfold Region.wanted;rw [g2]
  unfold wpList
  rw [if_pos NP]
  left
  refine cR (v:=.bool A.isNone) (w':=w) ?_ ?_
  ·have ec:a1.eval (.const (.slice none 0 0))= .slice none 0 0:=rfl
   unfold execOp
   simp only [h2,jH,ec]
   simp [eqGuard,ku hu]
  ·exact ⟨_,h A.isNone hA,iv.one ⟨φ,by rw [k2];exact gS.put yX (.rep (.val _))⟩⟩
 ·cases hc
def Kd (c:Code):Oper:=((G1 c).getD []).headD default
def Kc (c:Code):Oper:=(((G1 c).getD []).drop 1).headD default
theorem bf.isNil {P:Program} {n:Nat} {c:Code} {Q:Exit->AS->Prop} {s:AS} {t el:TypeId} {x:Operand} {d1 d2 e:Nat} {row:List AV} (hc:G1 c=some [Kd c,Kc c]) (h1:(Kd c).op= .move x) (g1:(Kd c).guard=none) (k1:(Kd c).dst=some d1)
  (h2:(Kc c).op= .binOp .eql t (.tmp d1) (.const (.slice none 0 0)) t) (g2:(Kc c).guard=none) (k2:(Kc c).dst=some d2) (hu:P.underlying t=some (.slice el)) (Gd:Nat.blt d1 n=true) (yX:Nat.blt d2 n=true) (hx:bp s x= .sl e row)
  (h:∀b:Bool,(b=true->row= [])->Q .normal (lg (lg s d1 (.sl e row)) d2 (.val (.bool b)))):bf P n c Q s:=bf.Mp hc h1 g1 k1 h2 g2 k2 hu Gd yX hx h
end Go.Proofs.YtjgbhhnghedgdaaGreatDoor
