import Derived.Test.YtjgbhhnghedgdaaGreatDoorZaRec3
set_option linter.all false
namespace Go.Proofs.YtjgbhhnghedgdaaGreatDoor
open Go.RowKit
def Hp:Code->Option (List Oper)
 | .region _ ⟨l⟩ false=>some l
 | _=>none
theorem bf.MQ {P:Program} {n:Nat} {c:Code} {Q:Exit->AS->Prop} {s:AS} {o1 o2:Oper} {t t' el:TypeId} {x:Operand} {d1 d2 e:Nat} {row:List AV} (hc:Hp c=some [o1,o2]) (h1:o1.op= .move x) (g1:o1.guard=none) (k1:o1.dst=some d1)
  (h2:o2.op= .binOp .eql t (.tmp d1) (.const (.slice none 0 0)) t') (g2:o2.guard=none) (k2:o2.dst=some d2) (hu:P.underlying t=some (.slice el)) (GD:Nat.blt d1 n=true) (zf:Nat.blt d2 n=true) (hx:bp s x= .sl e row)
  (h:∀b:Bool,(b=true->row= [])->Q .normal (lp (lp s d1 (.sl e row)) d2 (.val (.bool b)))):bf P n c Q s:=by
 intro S0 w0 a w ⟨φ,hs⟩
 have GD:d1<n:=by simpa [Nat.blt_eq] using GD
 have zf:d2<n:=by simpa [Nat.blt_eq] using zf
 unfold Hp at hc
 split at hc
 ·rename_i id l
  injection hc with hc;subst hc
  show wpList P _ _ [o1,o2] a w
  have hv:=hs.bp x
  rw [hx] at hv
  have MX:Region.wanted o1 (yielded #[o1,o2] a.tmps)=true:=by unfold Region.wanted;rw [g1]
  unfold wpList
  rw [if_pos MX]
  left
  refine cT (v:=a.eval x) (w':=w) (by unfold execOp;simp [h1]) ?_
  have gU:aL S0 w0 n [] (lp s d1 (.sl e row)) (a.put o1.dst (a.eval x)) w φ:=by rw [k1];exact hs.put GD hv
  generalize a.put o1.dst (a.eval x)=a1 at *
  have MZ:=gU.bp (.tmp d1)
  have e1:bp (lp s d1 (.sl e row)) (.tmp d1)= .sl e row:=by
   show jR _ d1=_
   unfold jR
   rw [q8,if_pos rfl]
  rw [e1] at MZ
  have Pu:∃A l cc,a1.eval (.tmp d1)= .slice A l cc∧(A.isNone=true->row= []):=by
   generalize a1.eval (.tmp d1)=v at MZ
   cases MZ with
   | rep hr=>cases hr with
    | sl A m cc e us row hl hn hc hm ha hr =>
     refine ⟨A,m,cc,rfl,fun hA=>?_⟩
     cases A with
     | some ad=>cases hA
     | none =>
      apply Classical.byContradiction
      intro cV
      have h0:0<row.length:=List.length_pos_iff.2 cV
      obtain ⟨ad,h0,-⟩:=ha h0
      cases h0
  obtain ⟨A,l,cc,ji,hA⟩:=Pu
  have On:Region.wanted o2 (yielded #[o1,o2] a1.tmps)=true:=by unfold Region.wanted;rw [g2]
  unfold wpList
  rw [if_pos On]
  left
  refine cT (v:=.bool A.isNone) (w':=w) ?_ ?_
  ·have ec:a1.eval (.const (.slice none 0 0))= .slice none 0 0:=rfl
   unfold execOp
   simp only [h2,ji,ec]
   simp [eqGuard,kz hu]
  ·exact ⟨_,h A.isNone hA,iu.one ⟨φ,by rw [k2];exact gU.put zf (.rep (.val _))⟩⟩
 ·cases hc
def KF (c:Code):Oper:=((Hp c).getD []).headD default
def KE (c:Code):Oper:=(((Hp c).getD []).drop 1).headD default
theorem bf.isNil {P:Program} {n:Nat} {c:Code} {Q:Exit->AS->Prop} {s:AS} {t el:TypeId} {x:Operand} {d1 d2 e:Nat} {row:List AV} (hc:Hp c=some [KF c,KE c]) (h1:(KF c).op= .move x) (g1:(KF c).guard=none) (k1:(KF c).dst=some d1)
  (h2:(KE c).op= .binOp .eql t (.tmp d1) (.const (.slice none 0 0)) t) (g2:(KE c).guard=none) (k2:(KE c).dst=some d2) (hu:P.underlying t=some (.slice el)) (GD:Nat.blt d1 n=true) (zf:Nat.blt d2 n=true) (hx:bp s x= .sl e row)
  (h:∀b:Bool,(b=true->row= [])->Q .normal (lp (lp s d1 (.sl e row)) d2 (.val (.bool b)))):bf P n c Q s:=bf.MQ hc h1 g1 k1 h2 g2 k2 hu GD zf hx h
end Go.Proofs.YtjgbhhnghedgdaaGreatDoor
