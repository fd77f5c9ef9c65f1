import Derived.Test.YtjgbhhnghedgdaaGreatDoorZmRec3
set_option linter.all false
namespace Go.Proofs.YtjgbhhnghedgdaaGreatDoor
open Go.RowKit
def HT:Code->Option (List Oper)
 | .region _ ⟨l⟩ false=>some l
 | _=>none
theorem bf.Nc {P:Program} {n:Nat} {c:Code} {Q:Exit->AS->Prop} {s:AS} {o1 o2:Oper} {t t' el:TypeId} {x:Operand} {d1 d2 e:Nat} {row:List AV} (hc:HT c=some [o1,o2]) (h1:o1.op= .move x) (g1:o1.guard=none) (k1:o1.dst=some d1)
  (h2:o2.op= .binOp .eql t (.tmp d1) (.const (.slice none 0 0)) t') (g2:o2.guard=none) (k2:o2.dst=some d2) (hu:P.underlying t=some (.slice el)) (Hd:Nat.blt d1 n=true) (z8:Nat.blt d2 n=true) (hx:bp s x= .sl e row)
  (h:∀b:Bool,(b=true->row= [])->Q .normal (lx (lx s d1 (.sl e row)) d2 (.val (.bool b)))):bf P n c Q s:=by
 intro S0 w0 a w ⟨φ,hs⟩
 have Hd:d1<n:=by simpa [Nat.blt_eq] using Hd
 have z8:d2<n:=by simpa [Nat.blt_eq] using z8
 unfold HT at hc
 split at hc
 ·rename_i id l
  injection hc with hc;subst hc
  show wpList P _ _ [o1,o2] a w
  have hv:=hs.bp x
  rw [hx] at hv
  have Nk:Region.wanted o1 (yielded #[o1,o2] a.tmps)=true:=by unfold Region.wanted;rw [g1]
  unfold wpList
  rw [if_pos Nk]
  left
  refine cU (v:=a.eval x) (w':=w) (by unfold execOp;simp [h1]) ?_
  have gV:aO S0 w0 n [] (lx s d1 (.sl e row)) (a.put o1.dst (a.eval x)) w φ:=by rw [k1];exact hs.put Hd hv
  generalize a.put o1.dst (a.eval x)=a1 at *
  have Nn:=gV.bp (.tmp d1)
  have e1:bp (lx s d1 (.sl e row)) (.tmp d1)= .sl e row:=by
   show jU _ d1=_
   unfold jU
   rw [rv,if_pos rfl]
  rw [e1] at Nn
  have PN:∃A l cc,a1.eval (.tmp d1)= .slice A l cc∧(A.isNone=true->row= []):=by
   generalize a1.eval (.tmp d1)=v at Nn
   cases Nn with
   | rep hr=>cases hr with
    | sl A m cc e us row hl hn hc hm ha hr =>
     refine ⟨A,m,cc,rfl,fun hA=>?_⟩
     cases A with
     | some ad=>cases hA
     | none =>
      apply Classical.byContradiction
      intro cW
      have h0:0<row.length:=List.length_pos_iff.2 cW
      obtain ⟨ad,h0,-⟩:=ha h0
      cases h0
  obtain ⟨A,l,cc,iW,hA⟩:=PN
  have OM:Region.wanted o2 (yielded #[o1,o2] a1.tmps)=true:=by unfold Region.wanted;rw [g2]
  unfold wpList
  rw [if_pos OM]
  left
  refine cU (v:=.bool A.isNone) (w':=w) ?_ ?_
  ·have ec:a1.eval (.const (.slice none 0 0))= .slice none 0 0:=rfl
   unfold execOp
   simp only [h2,iW,ec]
   simp [eqGuard,kF hu]
  ·exact ⟨_,h A.isNone hA,ix.one ⟨φ,by rw [k2];exact gV.put z8 (.rep (.val _))⟩⟩
 ·cases hc
def K2 (c:Code):Oper:=((HT c).getD []).headD default
def K1 (c:Code):Oper:=(((HT c).getD []).drop 1).headD default
theorem bf.isNil {P:Program} {n:Nat} {c:Code} {Q:Exit->AS->Prop} {s:AS} {t el:TypeId} {x:Operand} {d1 d2 e:Nat} {row:List AV} (hc:HT c=some [K2 c,K1 c]) (h1:(K2 c).op= .move x) (g1:(K2 c).guard=none) (k1:(K2 c).dst=some d1)
  (h2:(K1 c).op= .binOp .eql t (.tmp d1) (.const (.slice none 0 0)) t) (g2:(K1 c).guard=none) (k2:(K1 c).dst=some d2) (hu:P.underlying t=some (.slice el)) (Hd:Nat.blt d1 n=true) (z8:Nat.blt d2 n=true) (hx:bp s x= .sl e row)
  (h:∀b:Bool,(b=true->row= [])->Q .normal (lx (lx s d1 (.sl e row)) d2 (.val (.bool b)))):bf P n c Q s:=bf.Nc hc h1 g1 k1 h2 g2 k2 hu Hd z8 hx h
end Go.Proofs.YtjgbhhnghedgdaaGreatDoor
