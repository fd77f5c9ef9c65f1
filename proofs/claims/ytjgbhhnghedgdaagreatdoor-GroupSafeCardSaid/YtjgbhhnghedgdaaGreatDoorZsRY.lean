import Derived.Test.YtjgbhhnghedgdaaGreatDoorZsRec3
set_option linter.all false
namespace Go.Proofs.YtjgbhhnghedgdaaGreatDoor
open Go.RowKit
def GJ:Code->Option (List Oper)
 | .region _ ⟨l⟩ false=>some l
 | _=>none
theorem a7.Mt {P:Program} {n:Nat} {c:Code} {Q:Exit->AS->Prop} {s:AS} {o1 o2:Oper} {t t' el:TypeId} {x:Operand} {d1 d2 e:Nat} {row:List AV} (hc:GJ c=some [o1,o2]) (h1:o1.op= .move x) (g1:o1.guard=none) (k1:o1.dst=some d1)
  (h2:o2.op= .binOp .eql t (.tmp d1) (.const (.slice none 0 0)) t') (g2:o2.guard=none) (k2:o2.dst=some d2) (hu:P.underlying t=some (.slice el)) (FW:Nat.blt d1 n=true) (yk:Nat.blt d2 n=true) (hx:bj s x= .sl e row)
  (h:∀b:Bool,(b=true->row= [])->Q .normal (k9 (k9 s d1 (.sl e row)) d2 (.val (.bool b)))):a7 P n c Q s:=by
 intro S0 w0 a w ⟨φ,hs⟩
 have FW:d1<n:=by simpa [Nat.blt_eq] using FW
 have yk:d2<n:=by simpa [Nat.blt_eq] using yk
 unfold GJ at hc
 split at hc
 ·rename_i id l
  injection hc with hc;subst hc
  show wpList P _ _ [o1,o2] a w
  have hv:=hs.bj x
  rw [hx] at hv
  have Qg:Region.wanted o1 (yielded #[o1,o2] a.tmps)=true:=by unfold Region.wanted;rw [g1]
  unfold wpList
  rw [if_pos Qg]
  left
  refine cI (v:=a.eval x) (w':=w) (by unfold execOp;simp [h1]) ?_
  have gI:aH S0 w0 n [] (k9 s d1 (.sl e row)) (a.put o1.dst (a.eval x)) w φ:=by rw [k1];exact hs.put FW hv
  generalize a.put o1.dst (a.eval x)=a1 at *
  have MC:=gI.bj (.tmp d1)
  have e1:bj (k9 s d1 (.sl e row)) (.tmp d1)= .sl e row:=by
   show jI _ d1=_
   unfold jI
   rw [qK,if_pos rfl]
  rw [e1] at MC
  have O7:∃A l cc,a1.eval (.tmp d1)= .slice A l cc∧(A.isNone=true->row= []):=by
   generalize a1.eval (.tmp d1)=v at MC
   cases MC with
   | rep hr=>cases hr with
    | sl A m cc e us row hl hn hc hm ha hr =>
     refine ⟨A,m,cc,rfl,fun hA=>?_⟩
     cases A with
     | some ad=>cases hA
     | none =>
      apply Classical.byContradiction
      intro cK
      have h0:0<row.length:=List.length_pos_iff.2 cK
      obtain ⟨ad,h0,-⟩:=ha h0
      cases h0
  obtain ⟨A,l,cc,jB,hA⟩:=O7
  have NV:Region.wanted o2 (yielded #[o1,o2] a1.tmps)=true:=by unfold Region.wanted;rw [g2]
  unfold wpList
  rw [if_pos NV]
  left
  refine cI (v:=.bool A.isNone) (w':=w) ?_ ?_
  ·have ec:a1.eval (.const (.slice none 0 0))= .slice none 0 0:=rfl
   unfold execOp
   simp only [h2,jB,ec]
   simp [eqGuard,kt hu]
  ·exact ⟨_,h A.isNone hA,ib.one ⟨φ,by rw [k2];exact gI.put yk (.rep (.val _))⟩⟩
 ·cases hc
def J_ (c:Code):Oper:=((GJ c).getD []).headD default
def J9 (c:Code):Oper:=(((GJ c).getD []).drop 1).headD default
theorem a7.isNil {P:Program} {n:Nat} {c:Code} {Q:Exit->AS->Prop} {s:AS} {t el:TypeId} {x:Operand} {d1 d2 e:Nat} {row:List AV} (hc:GJ c=some [J_ c,J9 c]) (h1:(J_ c).op= .move x) (g1:(J_ c).guard=none) (k1:(J_ c).dst=some d1)
  (h2:(J9 c).op= .binOp .eql t (.tmp d1) (.const (.slice none 0 0)) t) (g2:(J9 c).guard=none) (k2:(J9 c).dst=some d2) (hu:P.underlying t=some (.slice el)) (FW:Nat.blt d1 n=true) (yk:Nat.blt d2 n=true) (hx:bj s x= .sl e row)
  (h:∀b:Bool,(b=true->row= [])->Q .normal (k9 (k9 s d1 (.sl e row)) d2 (.val (.bool b)))):a7 P n c Q s:=a7.Mt hc h1 g1 k1 h2 g2 k2 hu FW yk hx h
end Go.Proofs.YtjgbhhnghedgdaaGreatDoor
