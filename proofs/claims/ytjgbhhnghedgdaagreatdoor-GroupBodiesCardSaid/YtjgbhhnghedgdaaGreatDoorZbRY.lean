import Derived.Test.YtjgbhhnghedgdaaGreatDoorZbRec3
set_option linter.all false
namespace Go.Proofs.YtjgbhhnghedgdaaGreatDoor
open Go.RowKit
def Hh:Code->Option (List Oper)
 | .region _ ⟨l⟩ false=>some l
 | _=>none
theorem bf.MD {P:Program} {n:Nat} {c:Code} {Q:Exit->AS->Prop} {s:AS} {o1 o2:Oper} {t t' el:TypeId} {x:Operand} {d1 d2 e:Nat} {row:List AV} (hc:Hh c=some [o1,o2]) (h1:o1.op= .move x) (g1:o1.guard=none) (k1:o1.dst=some d1)
  (h2:o2.op= .binOp .eql t (.tmp d1) (.const (.slice none 0 0)) t') (g2:o2.guard=none) (k2:o2.dst=some d2) (hu:P.underlying t=some (.slice el)) (Gw:Nat.blt d1 n=true) (y2:Nat.blt d2 n=true) (hx:bq s x= .sl e row)
  (h:∀b:Bool,(b=true->row= [])->Q .normal (lr (lr s d1 (.sl e row)) d2 (.val (.bool b)))):bf P n c Q s:=by
 intro S0 w0 a w ⟨φ,hs⟩
 have Gw:d1<n:=by simpa [Nat.blt_eq] using Gw
 have y2:d2<n:=by simpa [Nat.blt_eq] using y2
 unfold Hh at hc
 split at hc
 ·rename_i id l
  injection hc with hc;subst hc
  show wpList P _ _ [o1,o2] a w
  have hv:=hs.bq x
  rw [hx] at hv
  have MJ:Region.wanted o1 (yielded #[o1,o2] a.tmps)=true:=by unfold Region.wanted;rw [g1]
  unfold wpList
  rw [if_pos MJ]
  left
  refine cV (v:=a.eval x) (w':=w) (by unfold execOp;simp [h1]) ?_
  have gV:aJ S0 w0 n [] (lr s d1 (.sl e row)) (a.put o1.dst (a.eval x)) w φ:=by rw [k1];exact hs.put Gw hv
  generalize a.put o1.dst (a.eval x)=a1 at *
  have ML:=gV.bq (.tmp d1)
  have e1:bq (lr s d1 (.sl e row)) (.tmp d1)= .sl e row:=by
   show jS _ d1=_
   unfold jS
   rw [q8,if_pos rfl]
  rw [e1] at ML
  have Ph:∃A l cc,a1.eval (.tmp d1)= .slice A l cc∧(A.isNone=true->row= []):=by
   generalize a1.eval (.tmp d1)=v at ML
   cases ML with
   | rep hr=>cases hr with
    | sl A m cc e us row hl hn hc hm ha hr =>
     refine ⟨A,m,cc,rfl,fun hA=>?_⟩
     cases A with
     | some ad=>cases hA
     | none =>
      apply Classical.byContradiction
      intro cX
      have h0:0<row.length:=List.length_pos_iff.2 cX
      obtain ⟨ad,h0,-⟩:=ha h0
      cases h0
  obtain ⟨A,l,cc,jj,hA⟩:=Ph
  have N_:Region.wanted o2 (yielded #[o1,o2] a1.tmps)=true:=by unfold Region.wanted;rw [g2]
  unfold wpList
  rw [if_pos N_]
  left
  refine cV (v:=.bool A.isNone) (w':=w) ?_ ?_
  ·have ec:a1.eval (.const (.slice none 0 0))= .slice none 0 0:=rfl
   unfold execOp
   simp only [h2,jj,ec]
   simp [eqGuard,kC hu]
  ·exact ⟨_,h A.isNone hA,iv.one ⟨φ,by rw [k2];exact gV.put y2 (.rep (.val _))⟩⟩
 ·cases hc
def Kt (c:Code):Oper:=((Hh c).getD []).headD default
def Kq (c:Code):Oper:=(((Hh c).getD []).drop 1).headD default
theorem bf.isNil {P:Program} {n:Nat} {c:Code} {Q:Exit->AS->Prop} {s:AS} {t el:TypeId} {x:Operand} {d1 d2 e:Nat} {row:List AV} (hc:Hh c=some [Kt c,Kq c]) (h1:(Kt c).op= .move x) (g1:(Kt c).guard=none) (k1:(Kt c).dst=some d1)
  (h2:(Kq c).op= .binOp .eql t (.tmp d1) (.const (.slice none 0 0)) t) (g2:(Kq c).guard=none) (k2:(Kq c).dst=some d2) (hu:P.underlying t=some (.slice el)) (Gw:Nat.blt d1 n=true) (y2:Nat.blt d2 n=true) (hx:bq s x= .sl e row)
  (h:∀b:Bool,(b=true->row= [])->Q .normal (lr (lr s d1 (.sl e row)) d2 (.val (.bool b)))):bf P n c Q s:=bf.MD hc h1 g1 k1 h2 g2 k2 hu Gw y2 hx h
end Go.Proofs.YtjgbhhnghedgdaaGreatDoor
