import Derived.Test.YtjgbhhnghedgdaaGreatDoorZvRec3
set_option linter.all false
namespace Go.Proofs.YtjgbhhnghedgdaaGreatDoor
open Go.RowKit
def H7:Code->Option (List Oper)
 | .region _ ⟨l⟩ false=>some l
 | _=>none
theorem bg.Nw {P:Program} {n:Nat} {c:Code} {Q:Exit->AS->Prop} {s:AS} {o1 o2:Oper} {t t' el:TypeId} {x:Operand} {d1 d2 e:Nat} {row:List AV} (hc:H7 c=some [o1,o2]) (h1:o1.op= .move x) (g1:o1.guard=none) (k1:o1.dst=some d1)
  (h2:o2.op= .binOp .eql t (.tmp d1) (.const (.slice none 0 0)) t') (g2:o2.guard=none) (k2:o2.dst=some d2) (hu:P.underlying t=some (.slice el)) (Hn:Nat.blt d1 n=true) (Av:Nat.blt d2 n=true) (hx:bq s x= .sl e row)
  (h:∀b:Bool,(b=true->row= [])->Q .normal (lT (lT s d1 (.sl e row)) d2 (.val (.bool b)))):bg P n c Q s:=by
 intro S0 w0 a w ⟨φ,hs⟩
 have Hn:d1<n:=by simpa [Nat.blt_eq] using Hn
 have Av:d2<n:=by simpa [Nat.blt_eq] using Av
 unfold H7 at hc
 split at hc
 ·rename_i id l
  injection hc with hc;subst hc
  show wpList P _ _ [o1,o2] a w
  have hv:=hs.bq x
  rw [hx] at hv
  have Lq:Region.wanted o1 (yielded #[o1,o2] a.tmps)=true:=by unfold Region.wanted;rw [g1]
  unfold wpList
  rw [if_pos Lq]
  left
  refine cN (v:=a.eval x) (w':=w) (by unfold execOp;simp [h1]) ?_
  have gG:aI S0 w0 n [] (lT s d1 (.sl e row)) (a.put o1.dst (a.eval x)) w φ:=by rw [k1];exact hs.put Hn hv
  generalize a.put o1.dst (a.eval x)=a1 at *
  have KE:=gG.bq (.tmp d1)
  have e1:bq (lT s d1 (.sl e row)) (.tmp d1)= .sl e row:=by
   show ka _ d1=_
   unfold ka
   rw [rW,if_pos rfl]
  rw [e1] at KE
  have Qg:∃A l cc,a1.eval (.tmp d1)= .slice A l cc∧(A.isNone=true->row= []):=by
   generalize a1.eval (.tmp d1)=v at KE
   cases KE with
   | rep hr=>cases hr with
    | sl A m cc e us row hl hn hc hm ha hr =>
     refine ⟨A,m,cc,rfl,fun hA=>?_⟩
     cases A with
     | some ad=>cases hA
     | none =>
      apply Classical.byContradiction
      intro cS
      have h0:0<row.length:=List.length_pos_iff.2 cS
      obtain ⟨ad,h0,-⟩:=ha h0
      cases h0
  obtain ⟨A,l,cc,iG,hA⟩:=Qg
  have My:Region.wanted o2 (yielded #[o1,o2] a1.tmps)=true:=by unfold Region.wanted;rw [g2]
  unfold wpList
  rw [if_pos My]
  left
  refine cN (v:=.bool A.isNone) (w':=w) ?_ ?_
  ·have ec:a1.eval (.const (.slice none 0 0))= .slice none 0 0:=rfl
   unfold execOp
   simp only [h2,iG,ec]
   simp [eqGuard,kT hu]
  ·exact ⟨_,h A.isNone hA,ie.one ⟨φ,by rw [k2];exact gG.put Av (.rep (.val _))⟩⟩
 ·cases hc
def Lg (c:Code):Oper:=((H7 c).getD []).headD default
def Lf (c:Code):Oper:=(((H7 c).getD []).drop 1).headD default
theorem bg.isNil {P:Program} {n:Nat} {c:Code} {Q:Exit->AS->Prop} {s:AS} {t el:TypeId} {x:Operand} {d1 d2 e:Nat} {row:List AV} (hc:H7 c=some [Lg c,Lf c]) (h1:(Lg c).op= .move x) (g1:(Lg c).guard=none) (k1:(Lg c).dst=some d1)
  (h2:(Lf c).op= .binOp .eql t (.tmp d1) (.const (.slice none 0 0)) t) (g2:(Lf c).guard=none) (k2:(Lf c).dst=some d2) (hu:P.underlying t=some (.slice el)) (Hn:Nat.blt d1 n=true) (Av:Nat.blt d2 n=true) (hx:bq s x= .sl e row)
  (h:∀b:Bool,(b=true->row= [])->Q .normal (lT (lT s d1 (.sl e row)) d2 (.val (.bool b)))):bg P n c Q s:=bg.Nw hc h1 g1 k1 h2 g2 k2 hu Hn Av hx h
end Go.Proofs.YtjgbhhnghedgdaaGreatDoor
