import Derived.Test.YtjgbhhnghedgdaaGreatDoorZfRec3
set_option linter.all false
namespace Go.Proofs.YtjgbhhnghedgdaaGreatDoor
open Go.RowKit
def IK:Code->Option (List Oper)
 | .region _ ⟨l⟩ false=>some l
 | _=>none
theorem bf.Oq {P:Program} {n:Nat} {c:Code} {Q:Exit->AS->Prop} {s:AS} {o1 o2:Oper} {t t' el:TypeId} {x:Operand} {d1 d2 e:Nat} {row:List AV} (hc:IK c=some [o1,o2]) (h1:o1.op= .move x) (g1:o1.guard=none) (k1:o1.dst=some d1)
  (h2:o2.op= .binOp .eql t (.tmp d1) (.const (.slice none 0 0)) t') (g2:o2.guard=none) (k2:o2.dst=some d2) (hu:P.underlying t=some (.slice el)) (H0:Nat.blt d1 n=true) (AK:Nat.blt d2 n=true) (hx:bq s x= .sl e row)
  (h:∀b:Bool,(b=true->row= [])->Q .normal (lO (lO s d1 (.sl e row)) d2 (.val (.bool b)))):bf P n c Q s:=by
 intro S0 w0 a w ⟨φ,hs⟩
 have H0:d1<n:=by simpa [Nat.blt_eq] using H0
 have AK:d2<n:=by simpa [Nat.blt_eq] using AK
 unfold IK at hc
 split at hc
 ·rename_i id l
  injection hc with hc;subst hc
  show wpList P _ _ [o1,o2] a w
  have hv:=hs.bq x
  rw [hx] at hv
  have OB:Region.wanted o1 (yielded #[o1,o2] a.tmps)=true:=by unfold Region.wanted;rw [g1]
  unfold wpList
  rw [if_pos OB]
  left
  refine cS (v:=a.eval x) (w':=w) (by unfold execOp;simp [h1]) ?_
  have ij:aJ S0 w0 n [] (lO s d1 (.sl e row)) (a.put o1.dst (a.eval x)) w φ:=by rw [k1];exact hs.put H0 hv
  generalize a.put o1.dst (a.eval x)=a1 at *
  have OD:=ij.bq (.tmp d1)
  have e1:bq (lO s d1 (.sl e row)) (.tmp d1)= .sl e row:=by
   show j9 _ d1=_
   unfold j9
   rw [r7,if_pos rfl]
  rw [e1] at OD
  have Q2:∃A l cc,a1.eval (.tmp d1)= .slice A l cc∧(A.isNone=true->row= []):=by
   generalize a1.eval (.tmp d1)=v at OD
   cases OD with
   | rep hr=>cases hr with
    | sl A m cc e us row hl hn hc hm ha hr =>
     refine ⟨A,m,cc,rfl,fun hA=>?_⟩
     cases A with
     | some ad=>cases hA
     | none =>
      apply Classical.byContradiction
      intro cU
      have h0:0<row.length:=List.length_pos_iff.2 cU
      obtain ⟨ad,h0,-⟩:=ha h0
      cases h0
  obtain ⟨A,l,cc,ji,hA⟩:=Q2
  have PX:Region.wanted o2 (yielded #[o1,o2] a1.tmps)=true:=by unfold Region.wanted;rw [g2]
  unfold wpList
  rw [if_pos PX]
  left
  refine cS (v:=.bool A.isNone) (w':=w) ?_ ?_
  ·have ec:a1.eval (.const (.slice none 0 0))= .slice none 0 0:=rfl
   unfold execOp
   simp only [h2,ji,ec]
   simp [eqGuard,kR hu]
  ·exact ⟨_,h A.isNone hA,iI.one ⟨φ,by rw [k2];exact ij.put AK (.rep (.val _))⟩⟩
 ·cases hc
def L0 (c:Code):Oper:=((IK c).getD []).headD default
def LZ (c:Code):Oper:=(((IK c).getD []).drop 1).headD default
theorem bf.isNil {P:Program} {n:Nat} {c:Code} {Q:Exit->AS->Prop} {s:AS} {t el:TypeId} {x:Operand} {d1 d2 e:Nat} {row:List AV} (hc:IK c=some [L0 c,LZ c]) (h1:(L0 c).op= .move x) (g1:(L0 c).guard=none) (k1:(L0 c).dst=some d1)
  (h2:(LZ c).op= .binOp .eql t (.tmp d1) (.const (.slice none 0 0)) t) (g2:(LZ c).guard=none) (k2:(LZ c).dst=some d2) (hu:P.underlying t=some (.slice el)) (H0:Nat.blt d1 n=true) (AK:Nat.blt d2 n=true) (hx:bq s x= .sl e row)
  (h:∀b:Bool,(b=true->row= [])->Q .normal (lO (lO s d1 (.sl e row)) d2 (.val (.bool b)))):bf P n c Q s:=bf.Oq hc h1 g1 k1 h2 g2 k2 hu H0 AK hx h
end Go.Proofs.YtjgbhhnghedgdaaGreatDoor
