import Derived.Test.YtjgbhhnghedgdaaGreatDoorZfRI
import Derived.RangeFuncRecord
import Derived.OrdersIn
import Derived.TacticsIn
set_option linter.all false
namespace Go.Proofs.YtjgbhhnghedgdaaGreatDoor
open Go.RowKit
abbrev Wd (ro:Option Nat):Fence:={Fence.wide with round:=ro}
def ku (o:Oper):Bool:=match o.op with| .defer _=>false|_=>true
def lp:Code->Bool
 | .skip=>true
 | .region _ ops _=>ops.toList.all ku
 | .seq x y=>lp x && lp y
 | .cond _ x y=>lp x && lp y
 | .block _ c=>lp c
 | .loop c=>lp c
 | .exit _=>true
 | .ret=>true
 | _=>false
section
variable {P:Program} {Q:Exit->Act->World->Prop} {ro:Option Nat} {n:Nat}
theorem DB {o:Oper} (h:ku o=true) (c):o.op≠ .defer c:=by
 intro e;unfold ku at h;rw [e] at h;cases h
theorem vf {o:Oper} {a:Act} {w:World} {K:Act->World->Prop} (ho:ku o=true) (hQ:¬LetsOut Q) (h:o.wp P a w K Q):o.wpIn (Wd ro) n P a w K Q:=by
 refine ⟨fun _ _=>trivial,?_⟩
 rw [Oper.semAt_eq _ _ _ (DB ho)]
 unfold Oper.wp at h
 generalize (execOp a.eval o).run P w=r at *
 cases r with
 | ok x w' =>
  cases x with
  | enter f args=>exact ⟨fun h=>by simp [Fence.wide] at h,(callsIn_wide (n:=n-1)).2 h⟩
  | row row args =>
   refine ⟨fun h=>by simp [Fence.wide] at h,fun c cs _=>?_⟩
   obtain ⟨v,fL,h1,h2⟩:=h c cs
   exact ⟨v,fL,h1,stepsIn_wide.2 h2⟩
  | round=>exact h.elim
  | _=>exact h
 | halt x w'=>cases x<;>exact h
theorem list_round {ops:Array Oper} (hQ:¬LetsOut Q):∀(m:List Oper),m.all ku=true-> ∀(a:Act) (w:World),wpList P ops Q m a w->wpListIn (Wd ro) n P ops Q m a w
 | [],_,a,w,h=>h
 | o::m,hm,a,w,h=>by
  rw [List.all_cons,Bool.and_eq_true] at hm
  unfold wpList at h
  unfold wpListIn
  split at h
  ·rename_i hw
   rw [if_pos hw]
   rcases h with h|⟨-,h⟩
   ·have:=vf (ro:=ro) (n:=n) hm.1 hQ h
    refine ⟨this.1,?_⟩
    have h2:=this.2
    generalize (o.semAt (Wd ro).round a.eval).run P w=r at *
    cases r with
    | ok x w'=>cases x with
     | value v=>exact list_round hQ m hm.2 _ _ h2
     | skip=>exact list_round hQ m hm.2 _ _ h2
     | defer d=>exact list_round hQ m hm.2 _ _ h2
     | enter f args=>exact ⟨h2.1,(callsIn_wide (n:=n-1)).2 (Calls.mono ((callsIn_wide (n:=n-1)).1 h2.2) fun e fL he=>by cases e<;>first|exact list_round hQ m hm.2 _ _ he|exact he)⟩
     | row row args=>exact ⟨h2.1,RowsIn.mono h2.2 fun v fL he=>list_round hQ m hm.2 _ _ he⟩
     | round l' f tmps x b=>exact ⟨h2.1,RoundIn.mono h2.2 fun e fL he=>by cases e<;>first|exact list_round hQ m hm.2 _ _ he|exact he⟩
     | _=>exact h2
    | halt x w'=>cases x<;>exact h2
   ·exact absurd h hQ
  ·rename_i hw
   rw [if_neg hw]
   exact ⟨fun _ _=>trivial,list_round hQ m hm.2 _ _ h⟩
theorem AP {o:Oper} {a:Act} {w:World} {K K':Act->World->Prop} (hK:∀a w,K a w->K' a w) (h:o.wpIn (Wd ro) n P a w K Q):o.wpIn (Wd ro) n P a w K' Q:=by
 refine ⟨h.1,?_⟩
 have h2:=h.2
 generalize (o.semAt (Wd ro).round a.eval).run P w=r at *
 cases r with
 | ok x w'=>cases x with
  | value v=>exact hK _ _ h2
  | skip=>exact hK _ _ h2
  | defer d=>exact hK _ _ h2
  | enter f args=>exact ⟨h2.1,(callsIn_wide (n:=n-1)).2 (Calls.mono ((callsIn_wide (n:=n-1)).1 h2.2) fun e fL he=>by cases e<;>first|exact hK _ _ he|exact he)⟩
  | row row args=>exact ⟨h2.1,RowsIn.mono h2.2 fun v fL he=>hK _ _ he⟩
  | round l' f tmps x b=>exact ⟨h2.1,RoundIn.mono h2.2 fun e fL he=>by cases e<;>first|exact hK _ _ he|exact he⟩
  | _=>exact h2
 | halt x w'=>cases x<;>exact h2
theorem oZ {md:Region.Mode} {ops:Array Oper} (hc:ops.toList.all ku=true) (hQ:¬LetsOut Q):∀(fuel:Nat) (listed:Array Bool) (a:Act) (w:World),wpAny P md ops Q fuel listed a w->wpAnyIn (Wd ro) n P md ops Q fuel listed a w
 | 0,_,_,_,h=>h
 | fuel+1,listed,a,w,h=>⟨h.1,fun i hi=>by
   have h':=h.2 i hi
   unfold wpOp at h'
   unfold wpOpIn
   split
   ·rename_i ho;simp only [ho] at h';exact oZ hc hQ fuel _ _ _ h'
   ·rename_i o ho
    simp only [ho] at h'
    have fO:ku o=true:=List.all_eq_true.1 hc o (by
     have:=Array.mem_of_getElem? ho;simpa using this)
    split
    ·rename_i hw
     rw [if_pos hw] at h'
     rcases h' with h'|⟨-,h'⟩
     ·exact AP (oZ hc hQ fuel _) (vf fO hQ h')
     ·exact absurd h' hQ
    ·rename_i hw
     rw [if_neg hw] at h'
     exact ⟨fun _ _=>trivial,oZ hc hQ fuel _ _ _ h'⟩⟩
theorem GX {F:Fence} {c:Code} {a:Act} {w:World} (J:Nat->Act->World->Prop) (k0:Nat) (h0:J k0 a w)
  (round:∀k a w,J k a w->c.wpIn F n P (Exit.then (fun a' w'=>∃k',k'<k∧J k' a' w') Q) a w):(Code.loop c).wpIn F n P Q a w:=by
 have JP:∀a w,∃m,(∃k,J k a w)->J m a w∧ ∀k,J k a w->m≤k:=by
  intro a w
  by_cases h:∃k,J k a w
  ·obtain ⟨k,hk⟩:=h
   induction k using Nat.strongRecOn with
   | _ k ih =>
    by_cases hs:∃j,j<k∧J j a w
    ·obtain ⟨j,hj,hJ⟩:=hs;exact ih j hj hJ
    ·exact ⟨k,fun _=>⟨hk,fun j hJ=>Classical.byContradiction fun cZ=>hs ⟨j,ag,hJ⟩⟩⟩
  ·exact ⟨0,fun h'=>absurd h' h⟩
 let μ :Act->World->Nat:=fun a w=>Classical.choose (JP a w)
 have US :∀a w (h:∃k,J k a w),J (μ a w) a w∧ ∀k,J k a w-> μ a w≤k:=fun a w h=>Classical.choose_spec (JP a w) h
 refine wpIn_loop (fun a w=>∃k,J k a w) μ ⟨k0,h0⟩ fun a w h=>?_
 refine wpIn_mono (round _ a w (US a w h).1) fun e a' w' hq=>?_
 cases e with
 | normal =>
  obtain ⟨k',hk,hJ⟩:=hq
  exact ⟨⟨k',hJ⟩,Nat.lt_of_le_of_lt ((US a' w' ⟨k',hJ⟩).2 k' hJ) hk⟩
 | _=>exact hq
theorem iK:∀(c:Code) (Q:Exit->Act->World->Prop) (a:Act) (w:World),lp c=true-> ¬LetsOut Q->C8 P c Q a w->c.wpIn (Wd ro) n P Q a w
 | .skip,_,a,w,_,_,h=>wpIn_skip h
 | .region _ ops false,_,a,w,hc,hQ,h=>wpIn_region_list (list_round hQ _ hc _ _ h)
 | .region _ ops true,_,a,w,hc,hQ,h=>wpIn_region_any h.1 (oZ hc hQ _ _ _ _ h.2)
 | .seq x y,Q,a,w,hc,hQ,h=>by
  simp only [lp,Bool.and_eq_true] at hc
  exact wpIn_seq (iK x _ a w hc.1 (by rintro ⟨a,w,h⟩;exact hQ ⟨a,w,h⟩) (eD x _ _ (mc (fun a w h=>iK y Q a w hc.2 hQ h) fun _ _ _ h=>h) a w h))
 | .cond c x y,Q,a,w,hc,hQ,⟨t,h1,h2,h3⟩=>by
  simp only [lp,Bool.and_eq_true] at hc
  exact wpIn_cond_split h1 (fun e=>iK x Q a w hc.1 hQ (h2 e)) (fun e=>iK y Q a w hc.2 hQ (h3 e))
 | .block id c,_,a,w,hc,hQ,h=>wpIn_block (iK c _ a w hc (by rintro ⟨a,w,h⟩;exact hQ ⟨a,w,h⟩) h)
 | .loop c,_,a,w,hc,hQ,⟨J,k0,h0,h⟩=>GX J k0 h0 fun k a w hJ=>iK c _ a w hc (by rintro ⟨a,w,h⟩;exact hQ ⟨a,w,h⟩) (h k a w hJ)
 | .exit id,_,a,w,_,_,h=>wpIn_exit h
 | .ret,_,a,w,_,_,h=>wpIn_ret h
 | .rangeFunc ..,_,_,_,hc,_,_=>by cases hc
 | .scope _,_,_,_,hc,_,_=>by cases hc
 | .label _,_,_,_,hc,_,_=>by cases hc
 | .goto _,_,_,_,hc,_,_=>by cases hc
 | .refuse _,_,_,_,hc,_,_=>by cases hc
end
section
variable {S0:bo} {w0 w:World} {n:Nat} {s:AS} {a:Act} {φ:Nat->Option Nat}
def Bl (x y:Nat) (φ:Nat->Option Nat):Nat->Option Nat:=fun i=>if i=y then φ x else if i=x then none else φ i
theorem aJ.Ft (h:aJ S0 w0 n [] s a w φ) (x y:Nat) (QO:y<1000000000000∨ ∀g,φ x=some g->S0.fix y=some g) (cU:x≠y) (hy:look s.H y=none):aJ S0 w0 n [] (rename x y s) a w (Bl x y φ):=by
 let cy:Nat->Option Nat:=fun i=>if i=y then φ x else if i=x then none else φ i
 show aJ S0 w0 n [] (rename x y s) a w cy
 have S6:φ y=none:=h.only y hy
 have m0:∀i g,cy i=some g-> ∃j,φ j=some g∧(i=y->j=x)∧(i≠y->j=i):=by
  intro i g hi
  by_cases e:i=y
  ·have:φ x=some g:=by simpa [cy,e] using hi
   exact ⟨x,this,fun _=>rfl,fun h=>absurd e h⟩
  ·by_cases e2:i=x
   ·simp [cy,e2,cU] at hi
   ·have:φ i=some g:=by simpa [cy,e,e2] using hi
    exact ⟨i,this,fun h=>absurd h e,fun _=>rfl⟩
 have J2:∀b,aO S0 w φ [] b->aO S0 w cy [] b:=by
  intro b ⟨h1,h2,h3,h4⟩
  refine ⟨h1,h2,fun i hi=>?_,h4⟩
  obtain ⟨j,hj,-⟩:=m0 i b hi
  exact h3 j hj
 have kk:∀i,look (rename x y s).H i=(if i=y then look s.H x else if i=x then none else look s.H i).map (fo x y):=by
  intro i
  unfold rename
  rw [cp,nY x y _ hy]
 have hI:∀i z,az s.H φ i=some z->az (rename x y s).H cy (if i=x then y else i)=some z:=by
  intro i z hi
  obtain ⟨e,m,b⟩:=z
  obtain ⟨r,hl,h1,h2,h3⟩:=aT hi
  by_cases e1:i=x
  ·subst e1
   rw [if_pos rfl,br (r:=fo i y r) (by rw [kk,if_pos rfl,hl];rfl),(cE i y r).1,(cE i y r).2.1,h1,h2]
   simp [cy,h3]
  ·have e2:i≠y:=fun e=>by subst e;rw [hy] at hl;cases hl
   rw [if_neg e1,br (r:=fo x y r) (by rw [kk,if_neg e2,if_neg e1,hl];rfl),(cE x y r).1,(cE x y r).2.1,h1,h2]
   simp [cy,e1,e2,h3]
 have tQ:∀b,aO S0 w φ [] b->aO S0 w cy [] b∧w.heap[b]?=w.heap[b]?:=fun b h=>⟨J2 b h,rfl⟩
 have ok:ki (az s.H φ) (az (rename x y s).H cy) (aO S0 w φ []) (aO S0 w cy []) w (kV x y):=by
  refine ⟨fun v av hv h1 h2=>?_,fun _=>rfl,fun _=>rfl⟩
  have pick:∀i z,az s.H φ i=some z->(Nat.beq i x=true∧az (rename x y s).H cy y=some z)∨(Nat.beq i x=false∧az (rename x y s).H cy i=some z):=by
   intro i z hi
   have:=hI i z hi
   rcases bE i x with ⟨hb,e⟩|⟨hb,e⟩
   ·rw [if_pos e] at this;exact .inl ⟨hb,this⟩
   ·rw [if_neg e] at this;exact .inr ⟨hb,this⟩
  cases hv with
  | rep h=>cases h with
   | val v=>exact .rep (.val v)
   | nil=>exact .rep .nil
   | agg vs cs _ _=>exact absurd rfl (h1 cs)
   | b_ vs cs _ _=>exact absurd rfl (h2 cs)
   | arr vs cs hl h=>exact .rep ((cz.arr vs cs hl h).mono tQ)
   | sl A n c e us row hl hn hc hm ha h=>exact .rep ((cz.sl A n c e us row hl hn hc hm ha h).mono tQ)
   | sm A n e us row hl hn hm ha h=>exact .rep ((cz.sm A n e us row hl hn hm ha h).mono tQ)
   | ptr ad us row off hl hs ha h=>exact .rep ((cz.ptr ad us row off hl hs ha h).mono tQ)
   | lu f vs cs hl h=>exact .rep ((cz.lu f vs cs hl h).mono tQ)
  | agg vs cs _ _=>exact absurd rfl (h1 cs)
  | b_ vs cs _ _=>exact absurd rfl (h2 cs)
  | ref i e m g l c hi hm hc hx hs=>rcases pick i _ hi with ⟨hb,jw⟩|⟨hb,jw⟩<;>simp only [kV,hb]<;>exact .ref _ e m g l c jw hm hc hx hs
  | cB i e hi=>rcases pick i _ hi with ⟨hb,jw⟩|⟨hb,jw⟩<;>simp only [kV,hb]<;>exact .cB _ e jw
  | pre i k e m g l c hi hn hm hc hx hs=>rcases pick i _ hi with ⟨hb,jw⟩|⟨hb,jw⟩<;>simp only [kV,hb]<;>exact .pre _ k e m g l c jw hn hm hc hx hs
  | dH i e hi=>rcases pick i _ hi with ⟨hb,jw⟩|⟨hb,jw⟩<;>simp only [kV,hb]<;>exact .dH _ e jw
  | jE i off k e m l c g A hi hn hm hc hx ha=>rcases pick i _ hi with ⟨hb,jw⟩|⟨hb,jw⟩<;>simp only [kV,hb]<;>exact .jE _ off k e m l c g A jw hn hm hc hx ha
  | addr i off e m g hi=>rcases pick i _ hi with ⟨hb,jw⟩|⟨hb,jw⟩<;>simp only [kV,hb]<;>exact .addr _ off e m g jw
  | dead v=>exact .dead _
 have Dy:∀z:AV,(∀cs,z≠ .agg cs)->GI x y z=kV x y z:=by
  intro z hz
  cases z with
  | agg cs=>exact absurd rfl (hz cs)
  | _=>rfl
 have Dx:∀z:AV,(∀cs,z≠ .b_ cs)->Og x y z=GI x y z:=by
  intro z hz
  cases z with
  | b_ cs=>exact absurd rfl (hz cs)
  | _=>rfl
 refine ⟨h.j7,h.j_,h.cX,fun i av hi=>?_,fun i r hr=>?_,fun i hi=>?_,fun i j g hi hj=>?_,fun i g hi=>?_,fun i g hi=>by simp,h.new⟩
 ·unfold rename at hi
  rw [cp] at hi
  cases hl:look s.F i with
  | none=>rw [hl] at hi;cases hi
  | some z =>
   rw [hl] at hi;injection hi with hi;subst hi
   exact ok.two (h.cA i z hl) (fun _=>rfl) Dy (fun _=>rfl) Dx
 ·rw [kk] at hr
  have:∃j q,look s.H j=some q∧cy i=φ j∧r=fo x y q:=by
   by_cases e:i=y
   ·rw [if_pos e] at hr
    cases hl:look s.H x with
    | none=>rw [hl] at hr;cases hr
    | some q=>rw [hl] at hr;injection hr with hr;exact ⟨x,q,hl,by simp [cy,e],hr.symm⟩
   ·rw [if_neg e] at hr
    by_cases e2:i=x
    ·rw [if_pos e2] at hr;cases hr
    ·rw [if_neg e2] at hr
     cases hl:look s.H i with
     | none=>rw [hl] at hr;cases hr
     | some q=>rw [hl] at hr;injection hr with hr;exact ⟨i,q,hl,by simp [cy,e,e2],hr.symm⟩
  obtain ⟨j,q,hq,Ox,rfl⟩:=this
  have aS:=h.rows j q hq
  rw [Ox]
  unfold bK at aS ⊢
  cases hb:φ j with
  | none =>
   rw [hb] at aS
   have:=(cE x y q).2.1
   simp only at aS ⊢
   rw [aS] at this;exact List.length_eq_zero_iff.1 this
  | some g =>
   rw [hb] at aS
   obtain ⟨cur,te,fr,hg,hf,hlen,nn,hc⟩:=aS
   refine ⟨cur,te,fr,hg,hf,by rw [(cE x y q).2.1];exact hlen,by rw [(cE x y q).2.1,(cE x y q).2.2.2];exact nn,fun j u z hu hz=>?_⟩
   rw [(cE x y q).2.2.1]
   unfold bg
   cases hp:q.pure with
   | true =>
    have:fo x y q=q:=by unfold fo;rw [hp]
    rw [this] at hz
    have:=hc j u z hu hz
    unfold bg at this;rw [hp] at this
    exact this.mono tQ
   | false =>
    have:(fo x y q).cells=q.cells.map (kV x y):=by unfold fo;rw [hp]
    rw [this,List.getElem?_map] at hz
    cases hj:q.cells[j]? with
    | none=>rw [hj] at hz;cases hz
    | some z' =>
     rw [hj] at hz;injection hz with hz;subst hz
     have:=hc j u z' hu hj
     unfold bg at this;rw [hp] at this
     exact ok.all this
 ·rw [kk] at hi
  by_cases e:i=y
  ·rw [if_pos e] at hi
   cases hl:look s.H x with
   | none=>simp [cy,e,h.only x hl]
   | some q=>rw [hl] at hi;cases hi
  ·rw [if_neg e] at hi
   by_cases e2:i=x
   ·simp [cy,e2,cU]
   ·rw [if_neg e2] at hi
    cases hl:look s.H i with
    | none=>simp [cy,e,e2,h.only i hl]
    | some q=>rw [hl] at hi;cases hi
 ·obtain ⟨i',h1,h2,h3⟩:=m0 i g hi
  obtain ⟨j',h4,h5,h6⟩:=m0 j g hj
  have e:=h.inj i' j' g h1 h4
  by_cases ei:i=y<;>by_cases ej:j=y
  ·rw [ei,ej]
  ·have:=h2 ei;have:=h6 ej
   have:j=x:=ag
   subst this
   simp [cy,cU] at hj
  ·have:=h3 ei;have:=h5 ej
   have:i=x:=ag
   subst this
   simp [cy,cU] at hi
  ·have:=h3 ei;have:=h6 ej;omega
 ·obtain ⟨j,h1,h2,h3⟩:=m0 i g hi
  have:=h.cW j g h1
  refine ⟨⟨?_,this.1.2⟩,this.2⟩
  by_cases e:i=y
  ·have hj:=h2 e
   subst hj
   rw [e]
   exact QO.imp (fun h=>h) fun h=>h g h1
  ·rw [←h3 e];exact this.1.1
end
section
variable {Z Z':bo} {w0 w w':World} {n:Nat} {O:List Nat} {s:AS} {a a':Act} {φ:Nat->Option Nat}
theorem aJ.rP (h:aJ Z w0 n O s a w φ) (dB:w.heap.size≤w'.heap.size) (hb:∀b,Z.S b->b<w.heap.size->w'.heap[b]?=w.heap[b]?) (hS:∀b,Z.S b->b<w.heap.size->Z'.S b) (mo:∀b,(w'.heap.size≤b∨Z'.X b)->Z'.S b) (hX:∀id g,φ id=some g->Z'.X g)
  (Mm:∀id g,φ id=some g->id<1000000000000∨Z'.fix id=some g) (ht:a'.tmps=a.tmps) (hd:a'.defers=Z'.tu) (WA:Good w') (Wz:∀b,TB b-> ¬Z'.X b):aJ Z' w' n O s a' w' φ:=by
 have hF:∀b,aO Z w φ O b->aO Z' w' φ O b∧w'.heap[b]?=w.heap[b]?:=fun b k9=>⟨⟨Nat.lt_of_lt_of_le k9.1 dB,k9.2.1,k9.2.2.1,hS b k9.2.2.2 k9.1⟩,hb b k9.2.2.2 k9.1⟩
 have bY:∀id g,φ id=some g->w'.heap[g]?=w.heap[g]?:=fun id g hg=>hb g (h.new g (h.cW id g hg).1.2) (h.cW id g hg).2
 have hL:∀id e m g,az s.H φ id=some (e,m,some g)->aY w' g=aY w g:=fun id e m g hi=>by
  obtain ⟨_,-,-,-,hg⟩:=aT hi
  unfold aY;rw [bY id g hg]
 refine ⟨by rw [ht];exact h.j7,hd,⟨rfl,rfl,rfl,Nat.le_refl _,fun _ _ _=>rfl,WA,Wz⟩,fun i av hi=>?_,fun id r hr=>?_,h.only,h.inj,fun id g hg=>⟨⟨Mm id g hg,.inr (hX id g hg)⟩,Nat.lt_of_lt_of_le (h.cW id g hg).2 dB⟩,h.apart,mo⟩
 ·rw [ht];exact (h.cA i av hi).mono (fun _ _ h=>h) hF hL
 ·have aS:=h.rows id r hr
  unfold bK at aS ⊢
  cases hg:φ id with
  | none=>rw [hg] at aS;exact aS
  | some g =>
   rw [hg] at aS
   obtain ⟨cur,te,fr,u1,u2,u3,u4,u5⟩:=aS
   refine ⟨cur,te,fr,(bY id g hg).trans u1,u2,u3,u4,fun j u x hu hx=>?_⟩
   have:=u5 j u x hu hx
   unfold bg at this ⊢
   cases hp:r.pure with
   | true=>rw [hp] at this;exact this.mono hF
   | false=>rw [hp] at this;exact this.mono (fun _ _ h=>h) hF hL
end
def nf:AV->Bool
 | .val _=>true
 | .nil=>true
 | .ref _=>true
 | .pre _ _=>true
 | .jE _ _ _=>true
 | .addr _ _=>true
 | _=>false
def jQ (H:List (Nat×Row)):Prop:=∀id r,look H id=some r-> ∀(j:Nat) x,r.cells[j]?=some x->nf x=true
theorem EE {I:Info} {S S':Nat->Prop} {w w':World} {v:Value} {x:AV} (h:Den I S w v x) (hc:nf x=true) (hL:∀id e m g,I id=some (e,m,some g)->aY w' g=aY w g):Den I S' w' v x:=by
 cases h with
 | rep h=>cases h with
  | val v=>exact .rep (.val v)
  | nil=>exact .rep .nil
  | _=>cases hc
 | agg=>cases hc
 | b_=>cases hc
 | ref id e m g l c hi hm ly hx hs=>exact .ref id e m g l c hi hm ly hx ((hL _ _ _ _ hi).trans hs)
 | cB id e hi=>exact .cB id e hi
 | pre id n e m g l c hi hn hm ly hx hs=>exact .pre id n e m g l c hi hn hm ly hx ((hL _ _ _ _ hi).trans hs)
 | dH id e hi=>exact .dH id e hi
 | jE id off n e m l c g A hi hn hm ly hx ha=>exact .jE id off n e m l c g A hi hn hm ly hx ha
 | addr id off e m g hi=>exact .addr id off e m g hi
 | dead v=>exact .dead v
theorem Dm {S S':Nat->Prop} {w w':World} {v:Value} {x:AV} (h:cz S w v x) (hc:nf x=true):cz S' w' v x:=by
 cases h with
 | val v=>exact .val v
 | nil=>exact .nil
 | _=>cases hc
def o7 (P:Program) (l:Nat) (vs:List Value) (w:World) (T:Bool->World->Prop):Prop :=
 ∃fn tmps VD bd,(Instr.yield l vs.toArray).run P w= .ok (.round l fn tmps VD bd) w∧RoundIn Fence.wide 0 P l fn tmps VD bd w fun e w'=>∃t,e= .returned (.bool t)∧T t w'
structure K8 (O:Nat->Prop) (w w':World):Prop where
 os:w'.os=w.os
 tape:w'.tape=w.tape
 output:w'.output=w.output
 size:w.heap.size≤w'.heap.size
 block:∀b,b<w.heap.size-> ¬O b->w'.heap[b]?=w.heap[b]?
def kg (J:(Nat->Prop)->(Nat->Prop)->World->Prop):Prop :=
 ∀O K w O' K' w',J O K w->K8 O w w'->(∀b,O' b->O b∨w.heap.size≤b)->(∀b,K' b->K b∨w.heap.size≤b)->J O' K' w'
def yq (P:Program) (f:Nat) (l4:List AV) (A:Nat->List AV) (N:Nat):Prop :=
 ∀(l:Nat) (w:World) (S:Nat->Prop) (cv:List Value) (J:Nat->(Nat->Prop)->(Nat->Prop)->World->Prop) (X:(Nat->Prop)->(Nat->Prop)->World->Prop),
  Good w->(∀b,S b->b<w.heap.size)->cv.length=l4.length->(∀(j:Nat) v x,cv[j]?=some v->l4[j]?=some x->cz S w v x) ->
  (∀i,kg (J i))->kg X ->
  (∀i,i<N-> ∀(O K:Nat->Prop) (w1:World) (vs:List Value),J i O K w1->(∀b,O b->K b)->(∀b,K b->b<w1.heap.size)->vs.length=(A i).length->(∀(j:Nat) v x,vs[j]?=some v->(A i)[j]?=some x->cz K w1 v x) ->
   o7 P l vs w1 fun t w2=>Good w2∧w1.heap.size≤w2.heap.size∧(∀b,K b->w2.heap[b]?=w1.heap[b]?)∧(t=true->J (i+1) O K w2)∧(t=false->X O K w2)) ->
  J 0 (fun _=>False) S w ->
  Calls P f (Value.func (.yield l) #[] #[]::cv).toArray w fun e w'=>∃v O K,e= .returned v∧(J N O K w'∨X O K w')
def SV (H:List (Nat×Row)):AV->Bool
 | .val _=>true
 | .nil=>true
 | .arr _=>true
 | .sl _ _=>true
 | .ptr _ _=>true
 | .lu _ _=>true
 | .agg cs=>er cs
 | .dead=>true
 | .addr id _=>(match Nat.ble 1000000000000 id,look H id with|true,some r=>(match r.cells with| []=>false|_::_=>true)|_,_=>false)
 | _=>false
def Qp (F:List (Nat×AV)) (H:List (Nat×Row)):Prop:=∀i x,look F i=some x->SV H x=true
def Dz (H:List (Nat×Row)):List (Nat×AV)->Bool
 | []=>true
 | (_,x)::F=>match SV H x with|true=>Dz H F|false=>false
theorem qD {H:List (Nat×Row)}:∀ {F:List (Nat×AV)},Dz H F=true->Qp F H
 | [],_,i,x,h=>by cases h
 | (k,y)::F,hb,i,x,h=>by
  simp only [Dz] at hb
  split at hb
  ·rename_i hy
   rw [aD] at h
   by_cases e:k=i
   ·rw [if_pos e] at h;injection h with h;subst h;exact hy
   ·rw [if_neg e] at h;exact qD hb i x h
  ·cases hb
structure Gl (op:List (Value×AV)) (S0:bo) (w0:World) (n:Nat) (tm:Array Value) (fx:Nat->Option Nat) (r l:Nat) (we:World) (rc:Loop) (s:AS) (O K:Nat->Prop) (w:World):Prop where
 ex:∃(wb:World) (φ:Nat->Option Nat) (Z:bo),aJ Z wb n [] s ⟨tm,[]⟩ wb φ∧Z.fix=fx∧we.heap.size≤wb.heap.size∧wb.heap.size≤w.heap.size∧(∀b,Z.S b->b<wb.heap.size->w.heap[b]?=wb.heap[b]?)∧(∀b,Z.S b->b<wb.heap.size->S0.S b) ∧
  (∀id g,φ id=some g->w0.heap.size≤g∨S0.X g)∧(∀b,O b->b<wb.heap.size-> ¬Z.S b)∧(∀b,K b-> ∀id,φ id≠some b)∧ ¬Z.S l∧ ¬Z.S r∧ ∀p∈op,cz (aO Z wb φ []) wb p.1 p.2
 kept:Kept S0 w0 w
 base:w0.heap.size≤we.heap.size
 RL:∀b,O b->we.heap.size≤b
 hl:l<we.heap.size
 hr:r<we.heap.size
 Kl:¬K l
 IP:w.heap[l]?=some (.loop rc)
 L1:∀b,w0.heap.size≤b->S0.S b
 PT:w0.heap.size≤l
 rl:r≠l
 Kr:¬K r
 j_:w.heap[r]?=some (.deferred (some []))
section
variable {op:List (Value×AV)} {P:Program} {S0:bo} {w0:World} {n:Nat} {tm:Array Value} {fx:Nat->Option Nat} {r l:Nat} {we:World} {rc:Loop} {s:AS}
theorem Gl.Il:kg (Gl op S0 w0 n tm fx r l we rc s):=by
 intro O K w O' K' w' h st hO hK
 obtain ⟨wb,φ,Z,h1,h2,h3,h4,h5,h6,h7,h8,h9,Lk,J4,Pg⟩:=h.ex
 have hle:we.heap.size≤w.heap.size:=Nat.le_trans h3 h4
 refine ⟨⟨wb,φ,Z,h1,h2,h3,Nat.le_trans h4 st.size,fun b hb cZ=>(st.block b ag fun ho=>h8 b ho cZ hb).trans (h5 b hb cZ),h6,h7,fun b hb cZ=>?_,fun b hb id hid=>?_,Lk,J4,Pg⟩,?_,h.base,fun b hb=>?_,h.hl,h.hr,fun hb=>?_,?_,?_,?_,?_,?_,?_⟩
 ·rcases hO b hb with hb|hb
  ·exact h8 b hb cZ
  ·omega
 ·rcases hK b hb with hb|hb
  ·exact h9 b hb id hid
  ·have:=(h1.cW id b hid).2;omega
 ·exact ⟨st.os.trans h.kept.os,st.tape.trans h.kept.tape,st.output.trans h.kept.output,Nat.le_trans h.kept.size st.size,fun k hk hx=>(st.block k (Nat.lt_of_lt_of_le hk h.kept.size) fun ho=>by have:=h.RL k ho;have:=h.base;omega).trans (h.kept.block k hk hx),h.kept.g0,h.kept.gx⟩
 ·rcases hO b hb with hb|hb
  ·exact h.RL b hb
  ·omega
 ·rcases hK l hb with hb|hb
  ·exact h.Kl hb
  ·have:=h.hl;omega
 ·exact (st.block l (by have:=h.hl;omega) fun ho=>by have:=h.RL l ho;have:=h.hl;omega).trans h.IP
 ·exact h.L1
 ·exact h.PT
 ·exact h.rl
 ·intro hb
  rcases hK r hb with hb|hb
  ·exact h.Kr hb
  ·have:=h.hr;omega
 ·exact (st.block r (by have:=h.hr;omega) fun ho=>by have:=h.RL r ho;have:=h.hr;omega).trans h.j_
def IV:List Nat->List AV->AS->AS
 | p::ps,x::xs,s=>IV ps xs (lO s p x)
 | _,_,s=>s
theorem xO {Z:bo} {w:World} {φ:Nat->Option Nat}:∀(ps:List Nat) (vs:List Value) (xs:List AV) (s:AS) (a:Act),aJ Z w0 n [] s a w φ->vs.length=xs.length->(∀p∈ps,p<n) ->
  (∀(j:Nat) v x,vs[j]?=some v->xs[j]?=some x->Den (az s.H φ) (aO Z w φ []) w v x)->aJ Z w0 n [] (IV ps xs s) ⟨(ps.zip vs).foldl (fun t p=>t.setIfInBounds p.1 p.2) a.tmps,a.defers⟩ w φ
 | [],vs,xs,s,a,h,_,_,_=>by
  cases xs<;>exact h
 | p::ps,[],xs,s,a,h,hl,_,_=>by
  cases xs with
  | nil=>exact h
  | cons=>simp at hl
 | p::ps,v::vs,[],s,a,h,hl,_,_=>by simp at hl
 | p::ps,v::vs,x::xs,s,a,h,hl,hp,hd=>by
  have h1:=h.put (hp p (by simp)) (hd 0 v x rfl rfl)
  exact xO ps vs xs (lO s p x) (a.put (some p) v) h1 (by simpa using hl) (fun q hq=>hp q (by simp [hq])) fun j u y hu hy=>hd (j+1) u y (by simpa using hu) (by simpa using hy)
theorem Ja {F:List (Nat×AV)} {H X:List (Nat×Row)} {O K:Nat->Prop} {w1 w3 SM:World} {S3:bo} {a3:Act} {wY:Nat->Option Nat} {qe:Loop} {φ:Nat->Option Nat} {wb:World} {Z:bo}
  (hM:Gl op S0 w0 n tm fx r l we rc ⟨F,H⟩ O K w1) (Qf:∀b,O b->K b) (hK:∀b,K b->b<w1.heap.size)
  (h1:aJ Z wb n [] ⟨F,H⟩ ⟨tm,[]⟩ wb φ) (h2:Z.fix=fx) (h3:we.heap.size≤wb.heap.size) (h4:wb.heap.size≤w1.heap.size) (h5:∀b,Z.S b->b<wb.heap.size->w1.heap[b]?=wb.heap[b]?) (h6:∀b,Z.S b->b<wb.heap.size->S0.S b)
  (h7:∀id g,φ id=some g->w0.heap.size≤g∨S0.X g) (h8:∀b,O b->b<wb.heap.size-> ¬Z.S b) (h9:∀b,K b-> ∀id,φ id≠some b) (Lk:¬Z.S l) (J4:¬Z.S r) (Pg:∀p∈op,cz (aO Z wb φ []) wb p.1 p.2)
  (G7:aJ S3 SM n [] ⟨[],X⟩ a3 w3 wY) (Mm:S3.fix=fx) (Qe:∀id g,wY id=some g->w1.heap.size≤g∨l_ φ g) (TE:¬S3.S l) (Wf:¬S3.S r)
  (JG:w3.os=w1.os) (vG:w3.tape=w1.tape) (vH:w3.output=w1.output) (dB:w1.heap.size≤w3.heap.size) (B7:∀b,b<w1.heap.size-> ¬l_ φ b->b≠l->w3.heap[b]?=w1.heap[b]?)
  (hX:jQ X) (hF:Qp F H) (Ud:Qp F X) :
  Gl op S0 w0 n tm fx r l we qe ⟨F,X⟩ O K (w3.putObj l (.loop qe))∧(∀b,K b->(w3.putObj l (.loop qe)).heap[b]?=w1.heap[b]?):=by
 have Nt:l<w3.heap.size:=by have:=hM.hl;omega
 have DQ:∀b,b≠l->(w3.putObj l (.loop qe)).heap[b]?=w3.heap[b]?:=fun b hb=>World.putObj_heap_other hb
 have FN:∀b,b<w1.heap.size-> ¬l_ φ b->b≠l->(w3.putObj l (.loop qe)).heap[b]?=w1.heap[b]?:=fun b hb hn cU=>(DQ b cU).trans (B7 b hb hn cU)
 have own:∀id g,φ id=some g->Z.S g∧g<wb.heap.size:=fun id g hg=>⟨h1.new g (h1.cW id g hg).1.2,(h1.cW id g hg).2⟩
 have Om:∀id g,wY id=some g->S3.S g∧g<w3.heap.size:=fun id g hg=>⟨G7.new g (G7.cW id g hg).1.2,(G7.cW id g hg).2⟩
 have SY:∀id g,wY id=some g->g≠l:=fun id g hg e=>TE (e ▸ (Om id g hg).1)
 have WZ:∀id e m g,az X wY id=some (e,m,some g)->aY (w3.putObj l (.loop qe)) g=aY w3 g:=fun id e m g hi=>by
  obtain ⟨_,-,-,-,hg⟩:=aT hi
  unfold aY;rw [DQ g (SY id g hg)]
 let Z4:bo:=⟨fun b=>(Z.S b∧b<wb.heap.size)∨l_ wY b∨(w3.putObj l (.loop qe)).heap.size≤b,l_ wY,fx,[]⟩
 have Me:(w3.putObj l (.loop qe)).heap.size=w3.heap.size:=World.putObj_size
 have fM:Kept S0 w0 (w3.putObj l (.loop qe)):=by
  refine ⟨JG.trans hM.kept.os,vG.trans hM.kept.tape,vH.trans hM.kept.output,by rw [Me];exact Nat.le_trans hM.kept.size dB,fun k hk hx=>?_,hM.kept.g0,hM.kept.gx⟩
  have Rn:k<w1.heap.size:=Nat.lt_of_lt_of_le hk hM.kept.size
  refine (FN k Rn (fun ⟨id,hid⟩=>?_) (fun e=>?_)).trans (hM.kept.block k hk hx)
  ·rcases h7 id k hid with h|h
   ·omega
   ·exact hx h
  ·have:=hM.PT;omega
 have UR:∀b,l_ wY b->b<wb.heap.size->Z.S b:=fun b ⟨id,hid⟩ cZ=>by
  rcases Qe id b hid with h|⟨j,hj⟩
  ·omega
  ·exact (own j b hj).1
 have vK:∀b,aO Z wb φ [] b->aO Z4 (w3.putObj l (.loop qe)) wY [] b∧(w3.putObj l (.loop qe)).heap[b]?=wb.heap[b]?:=by
  intro b ⟨f1,f2,f3,f4⟩
  have cU:b≠l:=fun e=>Lk (e ▸ f4)
  have hn:¬l_ φ b:=fun ⟨id,hid⟩=>f3 id hid
  refine ⟨⟨by rw [Me];omega,by simp,fun id hid=>?_,.inl ⟨f4,f1⟩⟩,(FN b ag hn cU).trans (h5 b f4 f1)⟩
  rcases Qe id b hid with h|h
  ·omega
  ·exact hn h
 have gB:aJ Z4 (w3.putObj l (.loop qe)) n [] ⟨F,X⟩ ⟨tm,[]⟩ (w3.putObj l (.loop qe)) wY:=by
  refine ⟨h1.j7,rfl,⟨rfl,rfl,rfl,Nat.le_refl _,fun _ _ _=>rfl,fM.m7,fun b hb=>G7.tI hb⟩,fun i av hi=>?_,fun id q hq=>?_,G7.only,G7.inj,fun id g hg=>⟨⟨?_,.inr ⟨id,hg⟩⟩,by rw [Me];exact (Om id g hg).2⟩,fun _ _ _ h=>(by cases h),fun b hb=>?_⟩
  ·
   have dX:Den (az H φ) (aO Z wb φ []) wb (tm.getD i undef) av:=h1.cA i av hi
   show Den (az X wY) (aO Z4 (w3.putObj l (.loop qe)) wY []) (w3.putObj l (.loop qe)) (tm.getD i undef) av
   generalize tm.getD i undef=tv at dX ⊢
   have BZ:=hF i av hi
   have JK:=Ud i av hi
   have rD:cz (aO Z wb φ []) wb tv av->Den (az X wY) (aO Z4 (w3.putObj l (.loop qe)) wY []) (w3.putObj l (.loop qe)) tv av:=fun h=>.rep (h.mono vK)
   cases av with
   | val=>exact rD (by cases dX with|rep h=>exact h)
   | nil=>exact rD (by cases dX with|rep h=>exact h)
   | arr=>exact rD (by cases dX with|rep h=>exact h)
   | sl=>exact rD (by cases dX with|rep h=>exact h)
   | ptr=>exact rD (by cases dX with|rep h=>exact h)
   | lu=>exact rD (by cases dX with|rep h=>exact h)
   | dead=>exact .dead _
   | agg cs =>
    obtain ⟨vs,hv,sc,hd⟩:=kA dX
    rw [hv]
    exact .rep ((cz.agg vs cs sc fun j v c hv hc=>(e_ (hd j v c hv hc) (iO BZ hc)).1).mono vK)
   | addr id off =>
    simp only [SV] at JK
    split at JK
    ·rename_i q hb lX
     split at JK
     ·cases JK
     ·rename_i x0 xs x8
      have vM:=Nat.le_of_ble_eq_true hb
      cases dX with
      | rep h=>cases h
      | addr _ _ e m g hi =>
       obtain ⟨_,-,-,-,hg⟩:=aT hi
       have WC:fx id=some g:=by
        rcases (h1.cW id g hg).1.1 with h|h
        ·omega
        ·rw [←h2];exact h
       have aS:=G7.rows id q lX
       unfold bK at aS
       cases TL:wY id with
       | none=>rw [TL] at aS;simp only at aS;rw [x8] at aS;cases aS
       | some g4 =>
        have:fx id=some g4:=by
         rcases (G7.cW id g4 TL).1.1 with h|h
         ·omega
         ·rw [←Mm];exact h
        rw [WC] at this;injection this with this;subst this
        exact .addr id off q.e q.cells.length g (by unfold az;rw [lX,TL];rfl)
    ·cases JK
   | _=>cases BZ
  ·
   have aS:=G7.rows id q hq
   unfold bK at aS ⊢
   cases hg:wY id with
   | none=>rw [hg] at aS;exact aS
   | some g =>
    rw [hg] at aS
    obtain ⟨cur,te,fr,u1,u2,u3,u4,u5⟩:=aS
    refine ⟨cur,te,fr,(DQ g (SY id g hg)).trans u1,u2,u3,u4,fun j u x hu hx=>?_⟩
    have:=u5 j u x hu hx
    have hc:=hX id q hq j x hx
    unfold bg at this ⊢
    cases hp:q.pure with
    | true=>rw [hp] at this;exact Dm this hc
    | false=>rw [hp] at this;exact EE this hc WZ
  ·rcases (G7.cW id g hg).1.1 with h|h
   ·exact .inl h
   ·right;show fx id=some g;rw [←Mm];exact h
  ·rcases hb with h|h
   ·exact .inr (.inr h)
   ·exact .inr (.inl h)
 refine ⟨⟨⟨w3.putObj l (.loop qe),wY,Z4,gB,rfl,by rw [Me];omega,Nat.le_refl _,fun _ _ _=>rfl,fun b hb cZ=>?_,fun id g hg=>?_,fun b hb cZ hS=>?_,fun b hb id hid=>?_,fun hS=>?_,fun hS=>?_,fun p hp=>(Pg p hp).mono vK⟩,?_,hM.base,hM.RL,hM.hl,hM.hr,hM.Kl,World.putObj_heap_same Nt,hM.L1,hM.PT,hM.rl,hM.Kr,?_⟩,fun b hb=>?_⟩
 ·rcases hb with h|⟨id,hid⟩|h
  ·exact h6 b h.1 h.2
  ·rcases Qe id b hid with h|⟨j,hj⟩
   ·
    have:=hM.base;exact hM.L1 b ag
   ·exact h6 b (own j b hj).1 (own j b hj).2
  ·omega
 ·rcases Qe id g hg with h|⟨j,hj⟩
  ·left;have:=hM.base;omega
  ·exact h7 j g hj
 ·rcases hS with h|h|h
  ·exact h8 b hb h.2 h.1
  ·obtain ⟨id,hid⟩:=h
   rcases Qe id b hid with h|⟨j,hj⟩
   ·have:=hK b (Qf b hb);omega
   ·exact h8 b hb (own j b hj).2 (own j b hj).1
  ·have:=hK b (Qf b hb);omega
 ·rcases Qe id b hid with h|⟨j,hj⟩
  ·have:=hK b hb;omega
  ·exact h9 b hb j hj
 ·rcases hS with h|⟨id,hid⟩|h
  ·exact Lk h.1
  ·exact SY id l hid rfl
  ·omega
 ·rcases hS with h|⟨id,hid⟩|h
  ·exact J4 h.1
  ·exact Wf (Om id r hid).1
  ·have:=hM.hr;omega
 ·exact fM
 ·have cU:r≠l:=hM.rl
  refine (FN r (by have:=hM.hr;omega) (fun ⟨id,hid⟩=>J4 (own id r hid).1) cU).trans hM.j_
 ·refine FN b (hK b hb) (fun ⟨id,hid⟩=>h9 b hb id hid) fun e=>hM.Kl (e ▸ hb)
end
def Ok:Code->Option (Operand×Array Tmp×Code×Code)
 | .rangeFunc g ps x b=>some (g,ps,x,b)
 | _=>none
def LV:List (Nat×Nat)->AS->AS
 | [],s=>s
 | (x,y):: ρ,s=>LV ρ (rename x y (bX y s))
def lN:List (Nat×Nat)->AS->AS
 | [],s=>s
 | (x,y):: ρ,s=>lN ρ (rename y x (bX x s))
def nU:List (Nat×Nat)->Bool
 | []=>true
 | (x,y):: ρ =>match Nat.ble x 999999999999,Nat.ble 1000000000000 y with|true,true=>nU ρ |_,_=>false
section
variable {n:Nat} {a:Act} {w w0:World}
theorem IZ:∀(ρ :List (Nat×Nat)) (s:AS) (Z:bo) (φ:Nat->Option Nat),nU ρ =true->aJ Z w0 n [] s a w φ-> ∃fx cy,aJ ⟨Z.S,Z.X,fx,Z.tu⟩ w0 n [] (LV ρ s) a w cy∧(∀i,i ∉ ρ.map (·.2)->fx i=Z.fix i)∧(∀id g,cy id=some g->l_ φ g)
 | [],s,Z,φ,_,h=>⟨Z.fix,φ,h,fun _ _=>rfl,fun id g hg=>⟨id,hg⟩⟩
 | (x,y):: ρ,s,Z,φ,hp,h=>by
  simp only [nU] at hp
  split at hp
  ·rename_i hx hy
   have hx:=Nat.le_of_ble_eq_true hx
   have hy:=Nat.le_of_ble_eq_true hy
   have h1:=h.mL y
   let Z2:bo:=⟨Z.S,Z.X,fun i=>if i=y then erase φ y x else Z.fix i,Z.tu⟩
   have h2:aJ Z2 w0 n [] (bX y s) a w (erase φ y):=⟨h1.j7,h1.j_,⟨h1.cX.os,h1.cX.tape,h1.cX.output,h1.cX.size,h1.cX.block,h1.cX.g0,h1.cX.gx⟩,h1.cA,h1.rows,h1.only,h1.inj,fun id g hg=>⟨⟨(h1.cW id g hg).1.1.imp (fun h=>h) fun hf=>by
     show (if id=y then erase φ y x else Z.fix id)=some g
     have cU:id≠y:=fun e=>by subst e;unfold erase at hg;rw [if_pos rfl] at hg;cases hg
     rw [if_neg cU];exact hf,(h1.cW id g hg).1.2⟩,(h1.cW id g hg).2⟩,h1.apart,h1.new⟩
   have h3:=h2.Ft x y (.inr fun g hg=>by show (if y=y then erase φ y x else Z.fix y)=some g;rw [if_pos rfl];exact hg) ag (dr y)
   obtain ⟨fx,cy,h4,h5,h6⟩:=IZ ρ _ Z2 _ hp h3
   refine ⟨fx,cy,h4,fun i hi=>?_,fun id g hg=>?_⟩
   ·simp only [List.map_cons,List.mem_cons,not_or] at hi
    rw [h5 i hi.2]
    show (if i=y then erase φ y x else Z.fix i)=Z.fix i
    rw [if_neg hi.1]
   ·obtain ⟨j,hj⟩:=h6 id g hg
    unfold Bl erase at hj
    split at hj
    ·split at hj
     ·cases hj
     ·exact ⟨_,hj⟩
    ·split at hj
     ·cases hj
     ·exact ⟨_,hj⟩
  ·cases hp
theorem A3 {Z:bo}:∀(ρ :List (Nat×Nat)) (s:AS) (φ:Nat->Option Nat),nU ρ =true->aJ Z w0 n [] s a w φ-> ∃ cy,aJ Z w0 n [] (lN ρ s) a w cy∧(∀id g,cy id=some g->l_ φ g)∧(∀id,1000000000000≤id->id∈ ρ.map (·.2)∨φ id=none->cy id=none)
 | [],s,φ,_,h=>⟨φ,h,fun id g hg=>⟨id,hg⟩,fun id _ hid=>hid.resolve_left (by simp)⟩
 | (x,y):: ρ,s,φ,hp,h=>by
  simp only [nU] at hp
  split at hp
  ·rename_i hx hy
   have hx:=Nat.le_of_ble_eq_true hx
   have hy:=Nat.le_of_ble_eq_true hy
   have h1:=h.mL x
   have h3:=h1.Ft y x (.inl ag) ag (dr x)
   obtain ⟨cy,h4,h5,h6⟩:=A3 ρ _ _ hp h3
   refine ⟨cy,h4,fun id g hg=>?_,fun id hid uc=>h6 id hid ?_⟩
   ·obtain ⟨j,hj⟩:=h5 id g hg
    unfold Bl erase at hj
    split at hj
    ·split at hj
     ·cases hj
     ·exact ⟨_,hj⟩
    ·split at hj
     ·cases hj
     ·exact ⟨_,hj⟩
   ·have key:(id=y∨φ id=none)->Bl y x (erase φ x) id=none:=by
     intro uc
     unfold Bl erase
     rw [if_neg ag]
     rcases uc with e|e
     ·rw [if_pos e]
     ·split
      ·rfl
      ·rw [if_neg ag];exact e
    rcases uc with uc|uc
    ·simp only [List.map_cons,List.mem_cons] at uc
     rcases uc with uc|uc
     ·exact .inr (key (.inl uc))
     ·exact .inl uc
    ·exact .inr (key (.inr uc))
  ·cases hp
end
def E1 (op:List (Value×AV)) (s s1:AS):Prop:=∀Z w0 n a w φ,aJ Z w0 n [] s a w φ->(∀p∈op,cz (aO Z w φ []) w p.1 p.2)->aJ Z w0 n [] s1 a w φ
def RQ (op:List (Value×AV)) (Q:Exit->AS->Prop) (ρ :List (Nat×Nat)) (F:List (Nat×AV)) (H:List (Nat×Row)):Exit->AS->Prop
 | .normal,s'=>bO s' ⟨[],H⟩
 | .exit id,s'=>∃X s1,jQ X∧Dz X F=true∧bO s' ⟨[],X⟩∧E1 op ⟨F,X⟩ s1∧Q (.exit id) (lN ρ s1)
 | .ret,s'=>∃X s1,jQ X∧Dz X F=true∧bO s' ⟨[],X⟩∧E1 op ⟨F,X⟩ s1∧Q .ret (lN ρ s1)
 | _,_=>False
def K9 (op:List (Value×AV)) (Q:Exit->AS->Prop) (ρ :List (Nat×Nat)) (s:AS) (c:Code):Prop:=∃s1,E1 op s s1∧((∃id,c= .exit id∧Q (.exit id) (lN ρ s1))∨(c= .ret∧Q .ret (lN ρ s1)))
section
variable {op:List (Value×AV)} {P:Program} {S0:bo} {w0:World} {n:Nat} {tm:Array Value} {fx:Nat->Option Nat} {r l:Nat} {we:World} {Q:Exit->AS->Prop} {ρ :List (Nat×Nat)}
theorem GQ {fn:FuncId} {ps:Array Tmp} {x bd:Code} {F:List (Nat×AV)} {H H':List (Nat×Row)} {As:List AV} {O K:Nat->Prop} {w1:World} {vs:List Value}
  (hM:Gl op S0 w0 n tm fx r l we {state:=.ready,pending:=none,fn:=fn,tmps:=tm,params:=ps,assign:=x,body:=bd,defers:=r} ⟨F,H⟩ O K w1) (Qf:∀b,O b->K b) (hK:∀b,K b->b<w1.heap.size)
  (hl:vs.length=As.length) (hd:∀(j:Nat) v x,vs[j]?=some v->As[j]?=some x->cz K w1 v x) (Ra:ps.toList.length=As.length) (Rb:∀p∈ps.toList,p<n) (Mr:lp x=true) (RB:lp bd=true)
  (hA:bf P n x (sQ (bf P n bd (RQ op Q ρ F H')) (fun _ _=>False)) (IV ps.toList As ⟨F,H⟩)) (W0:jQ H') (hF:Qp F H) (W4:Qp F H') :
  o7 P l vs w1 fun t w2=>Good w2∧w1.heap.size≤w2.heap.size∧(∀b,K b->w2.heap[b]?=w1.heap[b]?) ∧
   (t=true->Gl op S0 w0 n tm fx r l we {state:=.ready,pending:=none,fn:=fn,tmps:=tm,params:=ps,assign:=x,body:=bd,defers:=r} ⟨F,H'⟩ O K w2) ∧
   (t=false-> ∃X c,Gl op S0 w0 n tm fx r l we {state:=.done,pending:=some c,fn:=fn,tmps:=tm,params:=ps,assign:=x,body:=bd,defers:=r} ⟨F,X⟩ O K w2∧K9 op Q ρ ⟨F,X⟩ c):=by
 obtain ⟨wb,φ,Z,h1,h2,h3,h4,h5,h6,h7,h8,h9,Lk,J4,Pg⟩:=hM.ex
 have own:∀id g,φ id=some g->Z.S g∧g<wb.heap.size:=fun id g hg=>⟨h1.new g (h1.cW id g hg).1.2,(h1.cW id g hg).2⟩
 have Nt:l<w1.heap.size:=by have:=hM.hl;omega
 have FP:¬l_ φ l:=fun ⟨id,hid⟩=>Lk (own id l hid).1
 have U_:¬l_ φ r:=fun ⟨id,hid⟩=>J4 (own id r hid).1
 refine ⟨_,_,_,_,run_yield hM.IP (by simp [hl,←Ra]),?_⟩
 refine roundIn_of_wpIn trivial ?_
 let Z1:bo:=⟨fun b=>(Z.S b∧b<wb.heap.size)∨w1.heap.size≤b∨K b,l_ φ,fx,[]⟩
 have FT:¬Z1.S l:=fun h=>by
  rcases h with h|h|h
  ·exact Lk h.1
  ·omega
  ·exact hM.Kl h
 have Q8:¬Z1.S r:=fun h=>by
  rcases h with h|h|h
  ·exact J4 h.1
  ·have:=hM.hr;omega
  ·exact hM.Kr h
 have Re:∀b,(w1.heap.size≤b∨l_ φ b)->Z1.S b:=fun b hb=>hb.elim (fun h=>.inr (.inl h)) fun ⟨id,hid⟩=>.inl (own id b hid)
 have s1:aJ Z1 w1 n [] ⟨F,H⟩ ⟨tm,[]⟩ w1 φ:=h1.rP h4 (fun b hb cZ=>h5 b hb cZ) (fun b hb cZ=>.inl ⟨hb,cZ⟩) Re (fun id g hg=>⟨id,hg⟩) (fun id g hg=>by
  rcases (h1.cW id g hg).1.1 with h|h
  ·exact .inl h
  ·right;show fx id=some g;rw [←h2];exact h) rfl rfl hM.kept.m7 (fun b hb=>h1.tI hb)
 have s2:=xO ps.toList vs As ⟨F,H⟩ ⟨tm,[]⟩ s1 hl Rb fun j v x hv hx=>.rep ((hd j v x hv hx).mono fun b hb=>⟨⟨hK b hb,by simp,h9 b hb,.inr (.inr hb)⟩,rfl⟩)
 have e0:((ps.zip vs.toArray).foldl (fun (t:Array Value) (p:Tmp×Value)=>t.setIfInBounds p.1 p.2) tm)=((ps.toList.zip vs).foldl (fun t p=>t.setIfInBounds p.1 p.2) tm):=by
  rw [←Array.foldl_toList];simp
 have hx:=hA Z1 w1 _ w1 ⟨φ,s2⟩
 have e1:({tmps:=((ps.zip vs.toArray).foldl (fun (t:Array Value) (p:Tmp×Value)=>t.setIfInBounds p.1 p.2) tm),defers:=[]}:Act)=⟨(ps.toList.zip vs).foldl (fun t p=>t.setIfInBounds p.1 p.2) tm,[]⟩:=by rw [e0]
 show x.wpIn (Fence.wide.inRound l) 0 P _ ({tmps:=((ps.zip vs.toArray).foldl (fun (t:Array Value) (p:Tmp×Value)=>t.setIfInBounds p.1 p.2) tm),defers:=[]}:Act) w1
 rw [e1]
 refine iK (ro:=some l) x _ _ _ Mr (by rintro ⟨_,_,h⟩;exact h) (eD x _ _ (fun e a1 M9 ⟨s',hq,bT⟩=>?_) _ _ hx)
 cases e with
 | normal =>
  obtain ⟨S1,Xu,ms,hE,iW,ij⟩:=bT
  have k1:=hE.kept.trans ij.cX hE.X
  have Q7:=(k1.block l Nt FP).trans hM.IP
  refine ⟨_,run_beginRound Q7 rfl,?_⟩
  generalize PX:M9.putObj l _=w2
  have G5:w2.heap.size=M9.heap.size:=by rw [←PX];exact World.putObj_size
  have HY:∀b,b≠l->w2.heap[b]?=M9.heap[b]?:=fun b hb=>by rw [←PX];exact World.putObj_heap_other hb
  have Q6:w2.heap[l]?=some (.loop {state:=.busy,pending:=none,fn:=fn,tmps:=tm,params:=ps,assign:=x,body:=bd,defers:=r}):=by rw [←PX];exact World.putObj_heap_same (Nat.lt_of_lt_of_le Nt k1.size)
  have QF:∀id g,iW id=some g->S1.S g∧g<M9.heap.size:=fun id g hg=>⟨ij.new g (ij.cW id g hg).1.2,(ij.cW id g hg).2⟩
  have O_:∀b,S1.S b->b≠l:=fun b hb e=>FT (hE.sub l (e ▸ hb))
  have Qz:∀id g,iW id=some g->w1.heap.size≤g∨l_ φ g:=fun id g hg=>by
   rcases (ij.cW id g hg).1.2 with h|h
   ·exact .inl (Nat.le_trans hE.kept.size h)
   ·exact hE.X g h
  let Z2:bo:=⟨fun b=>(S1.S b∧b<M9.heap.size)∨w2.heap.size≤b,l_ iW,fx,a1.defers⟩
  have s3:aJ Z2 w2 n [] s' a1 w2 iW:=ij.rP ag (fun b hb _=>HY b (O_ b hb)) (fun b hb cZ=>.inl ⟨hb,cZ⟩) (fun b hb=>hb.elim .inr fun ⟨id,hid⟩=>.inl (QF id b hid)) (fun id g hg=>⟨id,hg⟩) (fun id g hg=>by
   rcases (ij.cW id g hg).1.1 with h|h
   ·exact .inl h
   ·right;show fx id=some g;rw [hE.fix] at h;exact h) rfl rfl (ij.cX.m7.aa fun b hb=>HY b fun e=>hM.kept.tI (.inl hM.PT) (e ▸ hb)) (fun b hb=>ij.tI hb)
  have hb:=hq Z2 w2 a1 w2 ⟨iW,s3⟩
  refine iK (ro:=some l) bd _ _ _ RB (by rintro ⟨_,_,h⟩;exact h) (eD bd _ _ (fun e a3 w3 ⟨VL,Sl,Sk⟩=>?_) _ _ hb)
  obtain ⟨S3,SM,XF,Pf,yr,Sk⟩:=Sk
  have k3:=Pf.kept.trans Sk.cX Pf.X
  have Tt:¬l_ iW l:=fun ⟨id,hid⟩=>O_ l (QF id l hid).1 rfl
  have JD:=(k3.block l (by rw [G5];exact Nat.lt_of_lt_of_le Nt k1.size) Tt).trans Q6
  have Mf:w1.heap.size≤w3.heap.size:=Nat.le_trans k1.size (by rw [←G5];exact k3.size)
  have B7:∀b,b<w1.heap.size-> ¬l_ φ b->b≠l->w3.heap[b]?=w1.heap[b]?:=fun b cZ hn cU =>
   (k3.block b (by rw [G5];exact Nat.lt_of_lt_of_le cZ k1.size) fun ⟨id,hid⟩=>(Qz id b hid).elim (fun h=>ag) hn).trans ((HY b cU).trans (k1.block b cZ hn))
  have JG:w2.os=M9.os∧w2.tape=M9.tape∧w2.output=M9.output:=by rw [←PX];exact ⟨rfl,rfl,rfl⟩
  have T4:¬S3.S l:=fun h=>(Pf.sub l h).elim (fun h=>O_ l h.1 rfl) fun h=>by have:=k1.size;omega
  have T3:¬S3.S r:=fun h=>(Pf.sub r h).elim (fun h=>Q8 (hE.sub r h.1)) fun h=>by have:=k1.size;have:=hM.hr;omega
  have next:∀(X:List (Nat×Row)) (qe:Loop),bO VL ⟨[],X⟩->jQ X->Qp F X->Gl op S0 w0 n tm fx r l we qe ⟨F,X⟩ O K (w3.putObj l (.loop qe))∧(∀b,K b->(w3.putObj l (.loop qe)).heap[b]?=w1.heap[b]?):=by
   intro X qe hw hX Ud
   obtain ⟨wY,G7⟩:=hw S3 SM n a3 w3 ⟨yr,Sk⟩
   exact Ja hM Qf hK h1 h2 h3 h4 h5 h6 h7 h8 h9 Lk J4 Pg G7 Pf.fix (fun id g hg=>by
    rcases (G7.cW id g hg).1.2 with h|h
    ·left;have:=Pf.kept.size;have:=k1.size;omega
    ·rcases Pf.X g h with h|⟨j,hj⟩
     ·left;have:=k1.size;omega
     ·exact Qz j g hj) T4 T3 (k3.os.trans (JG.1.trans k1.os)) (k3.tape.trans (JG.2.1.trans k1.tape)) (k3.output.trans (JG.2.2.trans k1.output)) Mf B7 hX hF Ud
  cases e with
  | normal =>
   obtain ⟨g1,g2⟩:=next H' {state:=.ready,pending:=none,fn:=fn,tmps:=tm,params:=ps,assign:=x,body:=bd,defers:=r} Sl W0 W4
   exact ⟨_,_,run_endRound none JD,true,rfl,g1.kept.m7,by rw [World.putObj_size];exact Mf,g2,fun _=>g1,fun h=>(by cases h)⟩
  | exit id =>
   obtain ⟨X,s1,q1,q2,q3,q5,q4⟩:=Sl
   obtain ⟨g1,g2⟩:=next X {state:=.done,pending:=some (.exit id),fn:=fn,tmps:=tm,params:=ps,assign:=x,body:=bd,defers:=r} q3 q1 (qD q2)
   exact ⟨_,_,run_endRound (some (.exit id)) JD,false,rfl,g1.kept.m7,by rw [World.putObj_size];exact Mf,g2,fun h=>(by cases h),fun _=>⟨X,.exit id,g1,s1,q5,.inl ⟨id,rfl,q4⟩⟩⟩
  | ret =>
   obtain ⟨X,s1,q1,q2,q3,q5,q4⟩:=Sl
   obtain ⟨g1,g2⟩:=next X {state:=.done,pending:=some .ret,fn:=fn,tmps:=tm,params:=ps,assign:=x,body:=bd,defers:=r} q3 q1 (qD q2)
   exact ⟨_,_,run_endRound (some .ret) JD,false,rfl,g1.kept.m7,by rw [World.putObj_size];exact Mf,g2,fun h=>(by cases h),fun _=>⟨X,.ret,g1,s1,q5,.inr ⟨rfl,q4⟩⟩⟩
  | _=>exact Sl.elim
 | _=>exact hq.elim
theorem FA {rc:Loop} {s s1:AS} {O K:Nat->Prop} {w':World} {a a':Act} (hM:Gl op S0 w0 n a.tmps fx r l we rc s O K w') (Oy :nU ρ =true) (WD:∀i,i ∉ ρ.map (·.2)->fx i=S0.fix i) (Tm:w0.heap.size≤r) (ht:a'.tmps=a.tmps) (hd:a'.defers=mark r::S0.tu) (gC:E1 op s s1) (qe:Loop) :
  nv S0 w0 n (lN ρ s1) a' (w'.putObj l (.loop qe)):=by
 obtain ⟨wb,φ,Z,h1,h2,h3,h4,h5,h6,h7,h8,h9,Lk,J4,Pg⟩:=hM.ex
 obtain ⟨cy,u1,u2,u3⟩:=A3 ρ _ _ Oy (gC _ _ _ _ _ _ h1 Pg)
 have Nt:l<w'.heap.size:=by have:=hM.hl;omega
 have dB:(w'.putObj l (.loop qe)).heap.size=w'.heap.size:=World.putObj_size
 have ho:∀b,b≠l->(w'.putObj l (.loop qe)).heap[b]?=w'.heap[b]?:=fun b hb=>World.putObj_heap_other hb
 have own:∀id g,cy id=some g->Z.S g∧g<wb.heap.size:=fun id g hg=>⟨u1.new g (u1.cW id g hg).1.2,(u1.cW id g hg).2⟩
 let S1:bo:=⟨fun b=>(Z.S b∧b<wb.heap.size)∨w'.heap.size≤b,l_ cy,S0.fix,mark r::S0.tu⟩
 have hs:aJ S1 (w'.putObj l (.loop qe)) n [] (lN ρ s1) a' (w'.putObj l (.loop qe)) cy:=u1.rP (by rw [dB];exact h4) (fun b hb cZ=>(ho b fun e=>Lk (e ▸ hb)).trans (h5 b hb cZ)) (fun b hb cZ=>.inl ⟨hb,cZ⟩) (fun b hb=>by
   rcases hb with h|⟨id,hid⟩
   ·right;rw [dB] at h;exact h
   ·exact .inl (own id b hid)) (fun id g hg=>⟨id,hg⟩) (fun id g hg=>by
  rcases Nat.lt_or_ge id 1000000000000 with h|h
  ·exact .inl h
  ·right
   rcases (u1.cW id g hg).1.1 with h'|h'
   ·omega
   ·show S0.fix id=some g
    have fO:id ∉ ρ.map (·.2):=fun hm=>(by rw [u3 id h (.inl hm)] at hg;cases hg)
    rw [←WD id fO,←h2];exact h') ht hd (hM.kept.m7.aa fun b hb=>ho b fun e=>hM.kept.tI (.inl hM.PT) (e ▸ hb)) (fun b hb=>u1.tI hb)
 refine ⟨S1,w'.putObj l (.loop qe),[r],⟨⟨hM.kept.os,hM.kept.tape,hM.kept.output,by rw [dB];exact hM.kept.size,fun k hk hx=>(ho k fun e=>by have:=hM.PT;omega).trans (hM.kept.block k hk hx),hM.kept.g0,hM.kept.gx⟩,fun b hb=>?_,fun b ⟨id,hid⟩=>?_,rfl,rfl,by simp,fun r' iE=>?_⟩,cy,hs⟩
 ·rcases hb with h|h
  ·exact h6 b h.1 h.2
  ·exact hM.L1 b (Nat.le_trans hM.kept.size h)
 ·obtain ⟨j,hj⟩:=u2 id b hid
  exact h7 j b hj
 ·obtain rfl:r'=r:=by simpa using iE
  refine ⟨Tm,by rw [dB];have:=hM.hr;omega,(ho _ hM.rl).trans hM.j_,fun h=>?_,fun ⟨id,hid⟩=>J4 (own id _ hid).1⟩
  rcases h with h|h
  ·exact J4 h.1
  ·have:=hM.hr;omega
theorem bf.range {c:Code} {s:AS} {g:Operand} {ps:Array Tmp} {x bd:Code} (hc:Ok c=some (g,ps,x,bd)) {f:Nat} {l4:List AV} (A:Nat->List AV) (N:Nat) (hit:yq P f l4 A N) (hE:iy P f=true) (Mr:lp x=true) (RB:lp bd=true)
  (ρ :List (Nat×Nat)) (Oy :nU ρ =true) (xs:List AV) (F:List (Nat×AV)) (I:List Value->Nat->List (Nat×Row)) (sN:AS)
  (hw:∀Z w0 a w φ,aJ Z w0 n [] (LV ρ s) a w φ-> ∃ ko vs,vs.length=xs.length∧aJ Z w0 n [] ⟨F,I vs 0⟩ a w ko∧ ∀p∈vs.zip xs,cz (aO Z w ko []) w p.1 p.2) (hg:∀vs,vs.length=xs.length->bq ⟨F,I vs 0⟩ g= .lu f l4) (Ra:∀i,ps.toList.length=(A i).length) (Rb:(ps.toList.all fun p=>Nat.blt p n)=true)
  (hI:∀vs i,vs.length=xs.length->i≤N->jQ (I vs i)∧Dz (I vs i) F=true) (pV:∀vs i,vs.length=xs.length->i<N->bf P n x (sQ (bf P n bd (RQ (vs.zip xs) Q ρ F (I vs (i+1)))) (fun _ _=>False)) (IV ps.toList (A i) ⟨F,I vs i⟩)) (gC:∀vs,vs.length=xs.length->E1 (vs.zip xs) ⟨F,I vs N⟩ sN) (OW:Q .normal (lN ρ sN)):bf P n c Q s:=by
 cases c with
 | rangeFunc g' XE x' X7 =>
  cases hc
  intro S0 w0 a w ⟨φ,hs⟩
  show (Code.rangeFunc g ps x bd).wp P _ a w
  refine wpIn_wide.1 (wpIn_rangeFunc (n:=0) fun fn _=>?_)
  obtain ⟨fx,iW,Rc,P3,-⟩:=IZ ρ s S0 φ Oy hs
  obtain ⟨ko,us,AJ,ns,wV⟩:=hw _ _ _ _ _ Rc
  have dg:=ns.bq g
  rw [hg us AJ] at dg
  obtain ⟨cv,hv,FT,B0⟩:=Fq dg
  generalize PW:(w.alloc (.deferred (some []))).alloc (.loop {state:=.ready,pending:=none,fn:=fn,tmps:=a.tmps,params:=ps,assign:=x,body:=bd,defers:=w.heap.size})=we
  have dB:we.heap.size=w.heap.size+2:=by rw [←PW];simp
  have hold:∀b,b<w.heap.size->we.heap[b]?=w.heap[b]?:=fun b hb=>by
   rw [←PW,Below.heap_alloc _ _ _ (by simp;omega),Below.heap_alloc _ _ _ hb]
  have U_:we.heap[w.heap.size]?=some (.deferred (some [])):=by rw [←PW,Below.heap_alloc _ _ _ (by simp)];exact World.alloc_heap_new w _
  have FP:we.heap[w.heap.size+1]?=some (.loop {state:=.ready,pending:=none,fn:=fn,tmps:=a.tmps,params:=ps,assign:=x,body:=bd,defers:=w.heap.size}):=by
   rw [←PW]
   have:=World.alloc_heap_new (w.alloc (.deferred (some []))) (.loop {state:=.ready,pending:=none,fn:=fn,tmps:=a.tmps,params:=ps,assign:=x,body:=bd,defers:=w.heap.size})
   rw [World.size_alloc] at this;exact this
  have Tc:we.os=w.os∧we.tape=w.tape∧we.output=w.output:=by rw [←PW];exact ⟨rfl,rfl,rfl⟩
  refine ⟨w.heap.size+1,[mark w.heap.size],we,{target:=.fn (.func f) cv.toArray,args:= #[.func (.yield (w.heap.size+1)) #[] #[]]},we,f,(Value.func (.yield (w.heap.size+1)) #[] #[]::cv).toArray,we,?_,?_,fun _ _=>trivial,?_,fun h=>by simp [Fence.wide] at h,?_⟩
  ·rw [←PW];exact run_enterLoop_outer fn a.tmps ps x bd
  ·have ec:a.eval (.const (Value.func (.yield (w.heap.size+1)) #[] #[]))=Value.func (.yield (w.heap.size+1)) #[] #[]:=rfl
   unfold resolve;simp [hv,ec,Deferred.ofValue]
  ·have e:(Value.func (.yield (w.heap.size+1)) #[] #[]::cv).toArray= #[Value.func (.yield (w.heap.size+1)) #[] #[]]++cv.toArray:=by apply Array.ext';simp
   rw [e]
   exact pT hE _ _
  ·refine callsIn_wide.2 ?_
   have wW:w0.heap.size≤w.heap.size:=ns.cX.size
   have SU:∀id g,ko id=some g->S0.S g∧g<w.heap.size:=fun id g hg=>⟨ns.new g (ns.cW id g hg).1.2,(ns.cW id g hg).2⟩
   let Z:bo:=⟨fun b=>(S0.S b∧b<w.heap.size)∨we.heap.size≤b,l_ ko,fx,[]⟩
   have hZ:aJ Z we n [] ⟨F,I us 0⟩ ⟨a.tmps,[]⟩ we ko:=ns.rP ag (fun b _ cZ=>hold b cZ) (fun b hb cZ=>.inl ⟨hb,cZ⟩) (fun b hb=>hb.elim .inr fun ⟨id,hid⟩=>.inl (SU id b hid)) (fun id g hg=>⟨id,hg⟩) (fun id g hg=>(ns.cW id g hg).1.1) rfl rfl (ns.cX.m7.aa fun b hb=>hold b (ns.cX.m7.lt hb)) (fun b hb=>ns.tI hb)
   have WX:Gl (us.zip xs) S0 w0 n a.tmps fx w.heap.size (w.heap.size+1) we {state:=.ready,pending:=none,fn:=fn,tmps:=a.tmps,params:=ps,assign:=x,body:=bd,defers:=w.heap.size} ⟨F,I us 0⟩ (fun _=>False) (aO ⟨S0.S,S0.X,fx,S0.tu⟩ w ko []) we:=by
    refine ⟨⟨we,ko,Z,hZ,rfl,Nat.le_refl _,Nat.le_refl _,fun _ _ _=>rfl,fun b hb cZ=>?_,fun id g hg=>(ns.cW id g hg).1.2,fun _ h=>h.elim,fun b hb=>hb.2.2.1,fun h=>?_,fun h=>?_,fun p hp=>(wV p hp).mono fun b hb=>⟨⟨by rw [dB];have:=hb.1;omega,by simp,hb.2.2.1,.inl ⟨hb.2.2.2,hb.1⟩⟩,hold b hb.1⟩⟩,?_,ag,fun _ h=>h.elim,ag,ag,fun h=>?_,FP,fun b hb=>ns.new b (.inl hb),ag,ag,fun h=>?_,U_⟩
    ·rcases hb with h|h
     ·exact h.1
     ·omega
    ·rcases h with h|h<;>omega
    ·rcases h with h|h<;>omega
    ·exact ⟨Tc.1.trans ns.cX.os,Tc.2.1.trans ns.cX.tape,Tc.2.2.trans ns.cX.output,ag,fun k hk hx=>(hold k ag).trans (ns.cX.block k hk hx),ns.cX.g0,ns.cX.gx⟩
    ·have:=h.1;omega
    ·have:=h.1;omega
   have np:=hit (w.heap.size+1) we (aO ⟨S0.S,S0.X,fx,S0.tu⟩ w ko []) cv
    (fun i=>Gl (us.zip xs) S0 w0 n a.tmps fx w.heap.size (w.heap.size+1) we {state:=.ready,pending:=none,fn:=fn,tmps:=a.tmps,params:=ps,assign:=x,body:=bd,defers:=w.heap.size} ⟨F,I us i⟩)
    (fun O K w'=>∃X c,Gl (us.zip xs) S0 w0 n a.tmps fx w.heap.size (w.heap.size+1) we {state:=.done,pending:=some c,fn:=fn,tmps:=a.tmps,params:=ps,assign:=x,body:=bd,defers:=w.heap.size} ⟨F,X⟩ O K w'∧K9 (us.zip xs) Q ρ ⟨F,X⟩ c)
    hZ.cX.m7 (fun b hb=>by have:=hb.1;omega) FT (fun j v c hv hc=>(B0 j v c hv hc).mono fun b hb=>⟨hb,hold b hb.1⟩) (fun i=>Gl.Il)
    (fun O K w' O' K' fL ⟨X,c,hX,hc⟩ st h1 h2=>⟨X,c,Gl.Il O K w' O' K' fL hX st h1 h2,hc⟩)
    (fun i hi O K w1 vs hJ Qf hK hl hd=>GQ hJ Qf hK hl hd (Ra i) (fun p hp=>Nat.le_of_ble_eq_true (List.all_eq_true.1 Rb p hp)) Mr RB (pV us i AJ hi) (hI us (i+1) AJ hi).1 (qD (hI us i AJ (Nat.le_of_lt hi)).2) (qD (hI us (i+1) AJ hi).2)) WX
   refine np.mono fun e w' ⟨v,O,K,he,uc⟩=>?_
   subst he
   rcases uc with hM|⟨X,c,hM,s1,Vn,hj⟩
   ·exact ⟨_,_,run_endLoop hM.IP (by simp),_,OW,FA (a:=a) (a':={a with defers:=[mark w.heap.size]++a.defers}) hM Oy P3 wW rfl (by show mark w.heap.size::a.defers=_;rw [hs.j_]) (gC us AJ) _⟩
   ·refine ⟨_,_,run_endLoop hM.IP (by simp),?_⟩
    have kv:=FA (a:=a) (a':={a with defers:=[mark w.heap.size]++a.defers}) hM Oy P3 wW rfl (by show mark w.heap.size::a.defers=_;rw [hs.j_]) Vn
    rcases hj with ⟨id,rfl,hq⟩|⟨rfl,hq⟩
    ·exact wpIn_exit ⟨_,hq,kv _⟩
    ·exact wpIn_ret ⟨_,hq,kv _⟩
 | _=>cases hc
end
def It (n:Nat) (J:(Nat->Prop)->(Nat->Prop)->World->Prop) (s:AS) (a:Act) (w:World):Prop :=
 ∃(wb:World) (Z:bo) (φ:Nat->Option Nat) (ms:List Nat),aJ Z wb n [] s a w φ∧Z.tu=ms.map mark∧ms.Nodup∧(∀r∈ms,r<w.heap.size∧w.heap[r]?=some (.deferred (some []))∧ ¬Z.S r)∧J (fun b=>l_ φ b∨b∈ms) (fun b=>(Z.S b∨b∈ms)∧b<w.heap.size) w
section
variable {P:Program} {n:Nat} {J:(Nat->Prop)->(Nat->Prop)->World->Prop} {s s':AS} {a:Act} {w:World} {Q:Exit->Act->World->Prop}
theorem It.begin (h:It n J s a w) (hJ:kg J):∃Z:bo,iI Z w n s a w∧ ∀(s':AS) (a':Act) (w':World),nv Z w n s' a' w'->It n J s' a' w':=by
 obtain ⟨wb,Z,φ,ms,h1,h2,h3,h4,h5⟩:=h
 have own:∀id g,φ id=some g->Z.S g∧g<w.heap.size:=fun id g hg=>⟨h1.new g (h1.cW id g hg).1.2,(h1.cW id g hg).2⟩
 let Z':bo:=⟨fun b=>(Z.S b∧b<w.heap.size)∨w.heap.size≤b,l_ φ,φ,Z.tu⟩
 have hs:aJ Z' w n [] s a w φ:=h1.rP (Nat.le_refl _) (fun _ _ _=>rfl) (fun b hb cZ=>.inl ⟨hb,cZ⟩) (fun b hb=>hb.elim .inr fun ⟨id,hid⟩=>.inl (own id b hid)) (fun id g hg=>⟨id,hg⟩) (fun id g hg=>.inr hg) rfl h1.j_ h1.cX.m7 (fun b hb=>h1.tI hb)
 refine ⟨Z',⟨φ,hs⟩,fun s' a' w' ⟨S1,w1,Se,hE,cy,bT⟩=>?_⟩
 have k:=hE.kept.trans bT.cX hE.X
 have Wm:∀r∈ms,¬l_ φ r:=fun r hr ⟨id,hid⟩=>(h4 r hr).2.2 (own id r hid).1
 refine ⟨w1,S1,cy,Se++ms,bT,by rw [hE.tu,List.map_append];exact congrArg _ h2,?_,fun r hr=>?_,hJ _ _ _ _ _ _ h5 ⟨k.os,k.tape,k.output,k.size,fun b hb hn=>k.block b hb fun h=>hn (.inl h)⟩ (fun b hb=>?_) fun b hb=>?_⟩
 ·rw [List.nodup_append]
  refine ⟨hE.nodup,h3,fun r hr r' iE e=>?_⟩
  subst e
  have:=(hE.marks r hr).1
  have:=(h4 r iE).1
  omega
 ·rcases List.mem_append.1 hr with hr|hr
  ·obtain ⟨u1,u2,u3,u4,u5⟩:=hE.marks r hr
   exact ⟨Nat.lt_of_lt_of_le u2 bT.cX.size,(bT.cX.block r u2 u5).trans u3,u4⟩
  ·obtain ⟨u1,u2,u3⟩:=h4 r hr
   refine ⟨Nat.lt_of_lt_of_le u1 k.size,(k.block r u1 (Wm r hr)).trans u2,fun h=>?_⟩
   rcases hE.sub r h with h|h
   ·exact u3 h.1
   ·omega
 ·rcases hb with ⟨id,hid⟩|hb
  ·rcases (bT.cW id b hid).1.2 with h|h
   ·right;have:=hE.kept.size;omega
   ·exact (hE.X b h).elim .inr fun h=>.inl (.inl h)
  ·rcases List.mem_append.1 hb with hb|hb
   ·exact .inr (hE.marks b hb).1
   ·exact .inl (.inr hb)
 ·obtain ⟨hb,cZ⟩:=hb
  rcases hb with hb|hb
  ·rcases hE.sub b hb with h|h
   ·exact .inl ⟨.inl h.1,h.2⟩
   ·exact .inr h
  ·rcases List.mem_append.1 hb with hb|hb
   ·exact .inr (hE.marks b hb).1
   ·exact .inl ⟨.inr hb,(h4 b hb).1⟩
theorem It.UH {c:Code} {Qs:Exit->AS->Prop} (h:It n J s a w) (hJ:kg J) (hc:bf P n c Qs s):C8 P c (fun e a' w'=>∃s',Qs e s'∧It n J s' a' w') a w:=by
 obtain ⟨Z,hs,B_⟩:=h.begin hJ
 exact eD _ _ _ (fun e a' w' ⟨s',hq,bT⟩=>⟨s',hq,B_ s' a' w' bT⟩) _ _ (hc Z w a w hs)
theorem It.pA (h:It n J s a w) (hJ:kg J) (hw:bO s s'):It n J s' a w:=by
 obtain ⟨Z,hs,B_⟩:=h.begin hJ
 exact B_ _ _ _ (hw _ _ _ _ _ hs).one
theorem It.ops {ops:List Oper} {hs:List (Nat×Hint)} {l:List Oper} {i:Nat} {C:List Prop} (h:It n J s a w) (hJ:kg J) (he:kn P n ops hs l i s=some (s',C)) (hC:bw C) (hQ:∀a' w',It n J s' a' w'->Q .normal a' w'):wpList P ops.toArray Q l a w:=by
 obtain ⟨Z,hs,B_⟩:=h.begin hJ
 exact j0 (S0:=Z) (w0:=w) _ _ _ _ _ he hC a w hs fun a' w' bT=>hQ a' w' (B_ _ _ _ bT.one)
theorem fz {F:Fence} {m:Nat} {ops:Array Oper}:∀(l1 l2:List Oper) (a:Act) (w:World),wpListIn F m P ops (Exit.then (wpListIn F m P ops Q l2) Q) l1 a w->wpListIn F m P ops Q (l1++l2) a w
 | [],l2,a,w,h=>h
 | o::l1,l2,a,w,h=>by
  rw [List.cons_append]
  unfold wpListIn at h ⊢
  split at h
  ·rename_i hw
   rw [if_pos hw]
   refine ⟨h.1,?_⟩
   have h2:=h.2
   generalize (o.semAt F.round a.eval).run P w=r at *
   cases r with
   | ok x w'=>cases x with
    | value v=>exact fz l1 l2 _ _ h2
    | skip=>exact fz l1 l2 _ _ h2
    | defer d=>exact fz l1 l2 _ _ h2
    | enter f args=>exact ⟨h2.1,CallsIn.mono h2.2 fun e fL he=>by cases e<;>first|exact fz l1 l2 _ _ he|exact he⟩
    | row row args=>exact ⟨h2.1,RowsIn.mono h2.2 fun v fL he=>fz l1 l2 _ _ he⟩
    | round l' f tmps x b=>exact ⟨h2.1,RoundIn.mono h2.2 fun e fL he=>by cases e<;>first|exact fz l1 l2 _ _ he|exact he⟩
    | _=>exact h2
   | halt x w'=>cases x<;>exact h2
  ·rename_i hw
   rw [if_neg hw]
   exact ⟨h.1,fz l1 l2 _ _ h.2⟩
theorem H8 {id d:Nat} {l1 l2:List Oper} {o:Oper} {y:Operand} {xs:Array Operand} {ts:Array TypeId} {full:List Oper} (JW:full=l1++o::l2) (ho:o.op= .call ⟨.value y,xs,ts⟩) (hg:o.guard=none) (hd:o.dst=some d) (hQ:¬LetsOut Q) (h1:l1.all ku=true) (h2:l2.all ku=true)
  (h:wpList P full.toArray (Exit.then (fun a1 w1=>∃l,a1.eval y= .func (.yield l) #[] #[]∧o7 P l (xs.toList.map a1.eval) w1 fun t w2=>wpList P full.toArray Q l2 (a1.put (some d) (.bool t)) w2) Q) l1 a w):(Code.region id full.toArray false).wp P Q a w:=by
 refine (wpIn_wide (n:=0)).1 (wpIn_region_lit ?_)
 have e:wpListIn Fence.wide 0 P full.toArray Q full=wpListIn Fence.wide 0 P full.toArray Q (l1++o::l2):=by rw [←JW]
 rw [e]
 refine fz l1 _ a w (list_round (ro:=none) (by rintro ⟨_,_,h⟩;exact hQ ⟨_,_,h⟩) l1 h1 a w (kp (mc (fun a1 w1 ⟨l,hy,fn,tmps,x,bd,hr,pV⟩=>?_) fun _ _ _ h=>h) l1 a w h))
 have hw:Region.wanted o (yielded full.toArray a1.tmps)=true:=by unfold Region.wanted;rw [hg]
 unfold wpListIn
 rw [if_pos hw]
 refine ⟨fun _ _=>trivial,?_⟩
 have bZ:(o.semAt Fence.wide.round a1.eval).run P w1= .ok (.round l fn tmps x bd) w1:=by
  rw [Oper.semAt_eq _ _ _ (by intro c e;rw [ho] at e;cases e)]
  have e:xs.map a1.eval=(xs.toList.map a1.eval).toArray:=by apply Array.ext';simp
  unfold execOp
  simp [ho,resolve,hy,Deferred.ofValue,invoke]
  rw [e];simpa using hr
 rw [bZ]
 refine ⟨fun h=>by simp [Fence.wide] at h,RoundIn.mono pV fun e w2 ⟨t,he,ht⟩=>?_⟩
 subst he
 rw [hd]
 exact list_round (ro:=none) hQ l2 h2 _ _ ht
theorem It.yield {A:Nat->List AV} {N:Nat} {J:Nat->(Nat->Prop)->(Nat->Prop)->World->Prop} {X:(Nat->Prop)->(Nat->Prop)->World->Prop} {l i d:Nat} {xs:List Operand} {s1:AS} (hJ:∀i,kg (J i)) (hX:kg X) (hd:d<n)
  (hy:∀i,i<N-> ∀(O K:Nat->Prop) (w1:World) (vs:List Value),J i O K w1->(∀b,O b->K b)->(∀b,K b->b<w1.heap.size)->vs.length=(A i).length->(∀(j:Nat) v x,vs[j]?=some v->(A i)[j]?=some x->cz K w1 v x) ->
   o7 P l vs w1 fun t w2=>Good w2∧w1.heap.size≤w2.heap.size∧(∀b,K b->w2.heap[b]?=w1.heap[b]?)∧(t=true->J (i+1) O K w2)∧(t=false->X O K w2))
  (h:It n (J i) s a w) (hi:i<N) (Jz:gi s ((xs.map (bq s)).flatMap o8)=some s1) (xb:lU (xs.map (bq s1))=true) (hA:xs.map (bq s1)=A i) (T:Bool->World->Prop)
  (h1:∀w2,It n (J (i+1)) (lO s d (ao true)) (a.put (some d) (.bool true)) w2->T true w2) (h2:∀w2,It n X (lO s d (ao false)) (a.put (some d) (.bool false)) w2->T false w2) :
  o7 P l (xs.map a.eval) w T:=by
 obtain ⟨wb,Z,φ,ms,k1,k2,k3,k4,k5⟩:=h
 obtain ⟨iW,ij⟩:=gh _ _ _ _ Jz k1
 have own:∀id g,φ id=some g->Z.S g∧g<w.heap.size:=fun id g hg=>⟨k1.new g (k1.cW id g hg).1.2,(k1.cW id g hg).2⟩
 have pV:=hy i hi (fun b=>l_ φ b∨b∈ms) (fun b=>(Z.S b∨b∈ms)∧b<w.heap.size) w (xs.map a.eval) k5 (fun b hb=>hb.elim (fun ⟨id,hid⟩=>⟨.inl (own id b hid).1,(own id b hid).2⟩) fun hb=>⟨.inr hb,(k4 b hb).1⟩) (fun b hb=>hb.2) (by rw [←hA];simp)
  (fun j v x hv hx=>(mO ij xb j v x hv (by rw [hA];exact hx)).mono fun b hb=>⟨⟨.inl hb.2.2.2,hb.1⟩,rfl⟩)
 obtain ⟨fn,tmps,x,bd,hr,wW⟩:=pV
 refine ⟨fn,tmps,x,bd,hr,RoundIn.mono wW fun e w2 ⟨t,he,TK,dB,hk,ht,hf⟩=>⟨t,he,?_⟩⟩
 let Z2:bo:=⟨fun b=>(Z.S b∧b<w.heap.size)∨w2.heap.size≤b,l_ φ,φ,Z.tu⟩
 have ns:aJ Z2 w2 n [] s a w2 φ:=k1.rP dB (fun b hb cZ=>hk b ⟨.inl hb,cZ⟩) (fun b hb cZ=>.inl ⟨hb,cZ⟩) (fun b hb=>hb.elim .inr fun ⟨id,hid⟩=>.inl (own id b hid)) (fun id g hg=>⟨id,hg⟩) (fun id g hg=>.inr hg) rfl k1.j_ TK (fun b hb=>k1.tI hb)
 have hK:∀b,((Z2.S b∨b∈ms)∧b<w2.heap.size)->((Z.S b∨b∈ms)∧b<w.heap.size)∨w2.heap.size≤b:=fun b ⟨hb,cZ⟩=>by
  rcases hb with (hb|hb)|hb
  ·exact .inl ⟨.inl hb.1,hb.2⟩
  ·exact .inr hb
  ·exact .inl ⟨.inr hb,(k4 b hb).1⟩
 have hm:∀r∈ms,r<w2.heap.size∧w2.heap[r]?=some (.deferred (some []))∧ ¬Z2.S r:=fun r hr=>by
  obtain ⟨u1,u2,u3⟩:=k4 r hr
  refine ⟨ag,(hk r ⟨.inr hr,u1⟩).trans u2,fun h=>?_⟩
  rcases h with h|h
  ·exact u3 h.1
  ·omega
 have dC:K8 (fun b=>l_ φ b∨b∈ms) w2 w2:=⟨rfl,rfl,rfl,Nat.le_refl _,fun _ _ _=>rfl⟩
 cases t with
 | true=>exact h1 w2 ⟨w2,Z2,φ,ms,ns.put hd (.rep (.val _)),k2,k3,hm,hJ (i+1) _ _ _ _ _ _ (ht rfl) dC (fun b hb=>.inl hb) hK⟩
 | false=>exact h2 w2 ⟨w2,Z2,φ,ms,ns.put hd (.rep (.val _)),k2,k3,hm,hX _ _ _ _ _ _ (hf rfl) dC (fun b hb=>.inl hb) hK⟩
end
theorem yq.qE {P:Program} {f:FuncId} {fn:Func} {c:Code} {l4:List AV} {A:Nat->List AV} {N n:Nat} (hf:P.funcs[f]?=some fn) (hb:fn.body=some c) (hn:fn.ntmps=n) (JC:fn.results= #[]) (Vm:l4.length+1≤n)
  (h:∀(l:Nat) (J:Nat->(Nat->Prop)->(Nat->Prop)->World->Prop) (X:(Nat->Prop)->(Nat->Prop)->World->Prop),(∀i,kg (J i))->kg X ->
   (∀i,i<N-> ∀(O K:Nat->Prop) (w1:World) (vs:List Value),J i O K w1->(∀b,O b->K b)->(∀b,K b->b<w1.heap.size)->vs.length=(A i).length->(∀(j:Nat) v x,vs[j]?=some v->(A i)[j]?=some x->cz K w1 v x) ->
    o7 P l vs w1 fun t w2=>Good w2∧w1.heap.size≤w2.heap.size∧(∀b,K b->w2.heap[b]?=w1.heap[b]?)∧(t=true->J (i+1) O K w2)∧(t=false->X O K w2)) ->
   ∀(a:Act) (w:World),It n (J 0) ⟨lq 0 (AV.val (.func (.yield l) #[] #[])::l4),[]⟩ a w->c.wp P (fun e a' w'=>(e= .normal∨e= .ret)∧ ∃s',It n (J N) s' a' w'∨It n X s' a' w') a w):yq P f l4 A N:=by
 intro l w S cv J X km hS gC WL hJ hX hy h0
 refine callsIn_wide.1 (callsIn_of_wp_marks (F:=Fence.wide) (n:=0) hf hb trivial ?_)
 have iS:∀(j:Nat) v x,(Value.func (.yield l) #[] #[]::cv)[j]?=some v->(AV.val (.func (.yield l) #[] #[])::l4)[j]?=some x->cz S w v x:=by
  intro j v x hv hx
  cases j with
  | zero=>simp at hv hx;subst hv;subst hx;exact .val _
  | succ j=>exact WL j v x (by simpa using hv) (by simpa using hx)
 let Z:bo:=⟨fun b=>S b∨w.heap.size≤b,fun _=>False,fun _=>none,[]⟩
 have NB:aJ Z w n [] ⟨lq 0 (AV.val (.func (.yield l) #[] #[])::l4),[]⟩ {tmps:=(Value.func (.yield l) #[] #[]::cv).toArray++Array.replicate (fn.ntmps-(Value.func (.yield l) #[] #[]::cv).toArray.size) undef,defers:=[]} w (fun _=>none):=by
  refine ⟨by simp;omega,rfl,⟨rfl,rfl,rfl,Nat.le_refl _,fun _ _ _=>rfl,km,fun _ _ h=>h⟩,fun i av hi=>?_,fun id r hr=>(by cases hr),fun _ _=>rfl,fun _ _ _ h=>(by cases h),fun _ _ h=>(by cases h),fun _ _ h=>(by cases h),fun b hb=>Or.inr (hb.elim id fun h=>h.elim)⟩
  obtain ⟨k,rfl,hk⟩:=mU _ 0 i av hi
  generalize FL:(Value.func (.yield l) #[] #[]::cv)=vs at *
  have P5:vs.length=l4.length+1:=by rw [←FL];simp [gC]
  have gV:k<vs.length:=by have:=(List.getElem?_eq_some_iff.1 hk).1;simp at this;omega
  have hv:vs[k]?=some vs[k]:=List.getElem?_eq_getElem gV
  have e:(vs.toArray++Array.replicate (fn.ntmps-vs.toArray.size) undef).getD (0+k) undef=vs[k]:=by
   rw [Nat.zero_add,Array.getD_eq_getD_getElem?,Array.getElem?_append_left (by simpa using gV)]
   simp [gV]
  simp only [e]
  exact .rep ((iS k vs[k] av hv hk).mono fun b hb=>⟨⟨hS b hb,by simp,fun _ h=>(by cases h),Or.inl hb⟩,rfl⟩)
 have hit:It n (J 0) ⟨lq 0 (AV.val (.func (.yield l) #[] #[])::l4),[]⟩ {tmps:=(Value.func (.yield l) #[] #[]::cv).toArray++Array.replicate (fn.ntmps-(Value.func (.yield l) #[] #[]::cv).toArray.size) undef,defers:=[]} w :=
  ⟨w,Z,fun _=>none,[],NB,rfl,List.nodup_nil,fun _ h=>(by cases h),hJ 0 _ _ _ _ _ _ h0 ⟨rfl,rfl,rfl,Nat.le_refl _,fun _ _ _=>rfl⟩ (fun b hb=>hb.elim (fun ⟨_,h⟩=>(by cases h)) fun h=>(by cases h)) fun b ⟨hb,cZ⟩=>hb.elim (fun hb=>hb) fun h=>(by cases h)⟩
 refine wpIn_wide.2 (wp_mono (h l J X hJ hX hy _ w hit) fun e a' w' ⟨he,s',uc⟩=>?_)
 have fin:∀(J':(Nat->Prop)->(Nat->Prop)->World->Prop),kg J'->(∀O K fL,J' O K fL-> ∃O K,J N O K fL∨X O K fL)->It n J' s' a' w'->LeavesInM Fence.wide 0 P fn a'.tmps (fun e w'=>∃v O K,e= .returned v∧(J N O K w'∨X O K w')) a'.defers .returning w':=by
  intro J' Pb Lg ⟨wb,Z1,φ,ms,k1,k2,k3,k4,k5⟩
  have O6:a'.defers=ms.map mark:=by rw [k1.j_,k2]
  rw [O6]
  refine mX ms w' k3 (fun r hr=>(k4 r hr).2.1) (fun fL h1 h2 h3 h4 h5=>?_)
  obtain ⟨O,K,uc⟩:=Lg _ _ _ (Pb (fun b=>l_ φ b∨b∈ms) _ w' (fun b=>l_ φ b∨b∈ms) (fun b=>(Z1.S b∨b∈ms)∧b<w'.heap.size) fL k5 ⟨h1,h2,h3,ag,fun b hb hn=>h5 b fun hm=>hn (.inr hm)⟩ (fun b hb=>.inl hb) fun b hb=>.inl hb)
  exact ⟨.tuple #[],by simp [results,JC],.tuple #[],O,K,rfl,uc⟩
 have Uo:LeavesInM Fence.wide 0 P fn a'.tmps (fun e w'=>∃v O K,e= .returned v∧(J N O K w'∨X O K w')) a'.defers .returning w':=by
  rcases uc with uc|uc
  ·exact fin _ (hJ N) (fun O K fL h=>⟨O,K,.inl h⟩) uc
  ·exact fin _ hX (fun O K fL h=>⟨O,K,.inr h⟩) uc
 rcases he with rfl|rfl<;>exact Uo
theorem bO.MT {s:AS} (id j new e:Nat) {r:Row} (hr:look s.H id=some r) (hp:r.pure=false) (hj:r.cells[j]?=some .nil) (hn:look s.H new=none):bO s ⟨s.F,(new,⟨e,true,false,[]⟩)::(id,⟨r.e,false,r.full,r.cells.set j (.ref new)⟩)::cP s.H id⟩:=by
 intro S0 w0 n a w ⟨φ,hs⟩
 have cU:id≠new:=fun h=>by rw [h,hn] at hr;cases hr
 have bY:φ new=none:=hs.only new hn
 have lX:∀i,look ((new,(⟨e,true,false,[]⟩:Row))::(id,(⟨r.e,false,r.full,r.cells.set j (.ref new)⟩:Row))::cP s.H id) i=if new=i then some ⟨e,true,false,[]⟩ else if id=i then some ⟨r.e,false,r.full,r.cells.set j (.ref new)⟩ else look s.H i:=by
  intro i
  rw [aD,aD,bD]
  by_cases e1:new=i<;>by_cases e2:id=i<;>simp [e1,e2]
 have hI:∀i x,az s.H φ i=some x->az ((new,(⟨e,true,false,[]⟩:Row))::(id,(⟨r.e,false,r.full,r.cells.set j (.ref new)⟩:Row))::cP s.H id) φ i=some x:=by
  intro i x hx
  unfold az at hx ⊢
  rw [lX]
  by_cases e1:new=i
  ·subst e1;rw [hn] at hx;cases hx
  ·rw [if_neg e1]
   by_cases e2:id=i
   ·subst e2;rw [if_pos rfl];rw [hr] at hx;simpa using hx
   ·rw [if_neg e2];exact hx
 have mo:az ((new,(⟨e,true,false,[]⟩:Row))::(id,(⟨r.e,false,r.full,r.cells.set j (.ref new)⟩:Row))::cP s.H id) φ new=some (e,0,none):=by
  unfold az;rw [lX,if_pos rfl,bY];rfl
 have mono:∀v x,Den (az s.H φ) (aO S0 w φ []) w v x->Den (az ((new,(⟨e,true,false,[]⟩:Row))::(id,(⟨r.e,false,r.full,r.cells.set j (.ref new)⟩:Row))::cP s.H id) φ) (aO S0 w φ []) w v x:=fun v x h=>h.mono hI (fun b hb=>⟨hb,rfl⟩) (fun _ _ _ _ _=>rfl)
 refine ⟨φ,hs.j7,hs.j_,hs.cX,fun i av hi=>mono _ _ (hs.cA i av hi),fun i q hq=>?_,fun i hi=>?_,hs.inj,hs.cW,hs.apart,hs.new⟩
 ·simp only [lX] at hq
  by_cases e1:new=i
  ·subst e1
   rw [if_pos rfl] at hq;injection hq with hq;subst hq
   unfold bK;rw [bY]
  ·rw [if_neg e1] at hq
   by_cases e2:id=i
   ·subst e2
    rw [if_pos rfl] at hq;injection hq with hq;subst hq
    have aS:=hs.rows id r hr
    unfold bK at aS ⊢
    cases hg:φ id with
    | none=>rw [hg] at aS;simp only at aS;rw [aS] at hj;cases hj
    | some g =>
     rw [hg] at aS
     obtain ⟨cur,te,fr,u1,u2,u3,u4,u5⟩:=aS
     refine ⟨cur,te,fr,u1,u2,by simpa using u3,fun h=>by simpa using u4 h,fun k u x hu hx=>?_⟩
     unfold bg
     simp only at hx ⊢
     rw [List.getElem?_set] at hx
     by_cases hk:j=k
     ·subst hk
      have cZ:j<r.cells.length:=(List.getElem?_eq_some_iff.1 hj).1
      simp [cZ] at hx
      subst hx
      have:=u5 j u .nil hu hj
      unfold bg at this
      rw [hp] at this
      rw [um this]
      exact .cB new e mo
     ·rw [if_neg hk] at hx
      have:=u5 k u x hu hx
      unfold bg at this
      rw [hp] at this
      exact mono u x this
   ·rw [if_neg e2] at hq
    have aS:=hs.rows i q hq
    unfold bK at aS ⊢
    cases hg:φ i with
    | none=>rw [hg] at aS;exact aS
    | some g =>
     rw [hg] at aS
     obtain ⟨cur,te,fr,u1,u2,u3,u4,u5⟩:=aS
     refine ⟨cur,te,fr,u1,u2,u3,u4,fun k u x hu hx=>?_⟩
     have:=u5 k u x hu hx
     unfold bg at this ⊢
     cases JE:q.pure with
     | true=>rw [JE] at this;exact this
     | false=>rw [JE] at this;exact mono u x this
 ·simp only [lX] at hi
  by_cases e1:new=i
  ·rw [if_pos e1] at hi;cases hi
  ·rw [if_neg e1] at hi
   by_cases e2:id=i
   ·rw [if_pos e2] at hi;cases hi
   ·rw [if_neg e2] at hi;exact hs.only i hi
theorem wG:jQ []:=fun id r h=>by cases h
theorem eK {id:Nat} {r:Row} {H:List (Nat×Row)} (h1:∀x∈r.cells,nf x=true) (h2:jQ H):jQ ((id,r)::H):=by
 intro i q hq j x hx
 rw [aD] at hq
 by_cases e:id=i
 ·rw [if_pos e] at hq;injection hq with hq;subst hq;exact h1 x (List.mem_of_getElem? hx)
 ·rw [if_neg e] at hq;exact h2 i q hq j x hx
theorem iU {l:List AV} (h:l.all nf=true):∀x∈l,nf x=true:=fun x hx=>List.all_eq_true.1 h x hx
theorem rb (l:List UInt64):∀x∈aj l,nf x=true:=by
 intro x hx;simp only [aj,List.mem_map] at hx;obtain ⟨c,_,rfl⟩:=hx;rfl
def Ma:Code->Bool
 | .rangeFunc _ _ _ _=>true
 | _=>false
def VN:Code->Operand
 | .rangeFunc g _ _ _=>g
 | _=>.tmp 0
def SN:Code->Array Tmp
 | .rangeFunc _ ps _ _=>ps
 | _=> #[]
def UI:Code->Code
 | .rangeFunc _ _ x _=>x
 | c=>c
def UJ:Code->Code
 | .rangeFunc _ _ _ b=>b
 | c=>c
theorem bf.Oj {P:Program} {n:Nat} {c:Code} {Q:Exit->AS->Prop} {s:AS} (hc:Ma c=true) {f:Nat} {l4:List AV} (A:Nat->List AV) (N:Nat) (hit:yq P f l4 A N) (hE:iy P f=true) (Mr:lp (UI c)=true) (RB:lp (UJ c)=true)
  (ρ :List (Nat×Nat)) (Oy :nU ρ =true) (xs:List AV) (F:List (Nat×AV)) (I:List Value->Nat->List (Nat×Row)) (sN:AS)
  (hw:∀Z w0 a w φ,aJ Z w0 n [] (LV ρ s) a w φ-> ∃ ko vs,vs.length=xs.length∧aJ Z w0 n [] ⟨F,I vs 0⟩ a w ko∧ ∀p∈vs.zip xs,cz (aO Z w ko []) w p.1 p.2) (hg:∀vs,vs.length=xs.length->bq ⟨F,I vs 0⟩ (VN c)= .lu f l4) (Ra:∀i,(SN c).toList.length=(A i).length) (Rb:((SN c).toList.all fun p=>Nat.blt p n)=true)
  (hI:∀vs i,vs.length=xs.length->i≤N->jQ (I vs i)∧Dz (I vs i) F=true) (pV:∀vs i,vs.length=xs.length->i<N->bf P n (UI c) (sQ (bf P n (UJ c) (RQ (vs.zip xs) Q ρ F (I vs (i+1)))) (fun _ _=>False)) (IV (SN c).toList (A i) ⟨F,I vs i⟩)) (gC:∀vs,vs.length=xs.length->E1 (vs.zip xs) ⟨F,I vs N⟩ sN) (OW:Q .normal (lN ρ sN)):bf P n c Q s:=by
 cases c with
 | rangeFunc g ps x b=>exact bf.range rfl A N hit hE Mr RB ρ Oy xs F I sN hw hg Ra Rb hI pV gC OW
 | _=>cases hc
section
variable {Z:bo} {w0 w:World} {n:Nat} {s:AS} {a:Act} {φ:Nat->Option Nat}
theorem aJ.congr {O:List Nat} {F:List (Nat×AV)} {H H':List (Nat×Row)} (h:aJ Z w0 n O ⟨F,H⟩ a w φ) (e:∀i,look H' i=look H i):aJ Z w0 n O ⟨F,H'⟩ a w φ:=by
 have hI:az H' φ=az H φ:=by funext i;unfold az;rw [e]
 refine ⟨h.j7,h.j_,h.cX,fun i av hi=>?_,fun i q hq=>?_,fun i hi=>?_,h.inj,h.cW,h.apart,h.new⟩
 ·simp only [hI];exact h.cA i av hi
 ·simp only [hI];exact h.rows i q (by rw [←e];exact hq)
 ·exact h.only i (by rw [←e];exact hi)
theorem aJ.IM (h:aJ Z w0 n [] s a w φ) (id j:Nat) {r:Row} {y:AV} (hr:look s.H id=some r) (hp:r.pure=false)
  (hy:∀g cur te fr u x,φ id=some g->w.heap[g]?=some (.cells cur te fr)->cur[j]?=some u->r.cells[j]?=some x->Den (az s.H φ) (aO Z w φ []) w u x->Den (az s.H φ) (aO Z w φ []) w u y):aJ Z w0 n [] ⟨s.F,(id,⟨r.e,false,r.full,r.cells.set j y⟩)::cP s.H id⟩ a w φ:=by
 have lX:∀i,look ((id,(⟨r.e,false,r.full,r.cells.set j y⟩:Row))::cP s.H id) i=if id=i then some ⟨r.e,false,r.full,r.cells.set j y⟩ else look s.H i:=by
  intro i
  rw [aD,bD]
  by_cases e:id=i<;>simp [e]
 have hI:az ((id,(⟨r.e,false,r.full,r.cells.set j y⟩:Row))::cP s.H id) φ=az s.H φ:=by
  funext i
  unfold az
  rw [lX]
  by_cases e:id=i
  ·subst e;rw [if_pos rfl,hr];simp
  ·rw [if_neg e]
 refine ⟨h.j7,h.j_,h.cX,fun i av hi=>?_,fun i q hq=>?_,fun i hi=>?_,h.inj,h.cW,h.apart,h.new⟩
 ·simp only [hI];exact h.cA i av hi
 ·simp only [hI]
  simp only [lX] at hq
  by_cases e:id=i
  ·subst e
   rw [if_pos rfl] at hq;injection hq with hq;subst hq
   have aS:=h.rows id _ hr
   unfold bK at aS ⊢
   cases bY:φ id with
   | none=>rw [bY] at aS;simp only at aS ⊢;rw [aS];rfl
   | some g =>
    rw [bY] at aS
    obtain ⟨cur,te,fr,hg,hf,hl,nn,hc⟩:=aS
    refine ⟨cur,te,fr,hg,hf,by simpa using hl,fun h=>by simpa using nn h,fun k u x hu hx=>?_⟩
    unfold bg
    simp only at hx ⊢
    rw [List.getElem?_set] at hx
    by_cases hk:j=k
    ·subst hk
     rw [if_pos rfl] at hx
     split at hx
     ·rename_i cZ
      injection hx with hx;subst hx
      have Jv:r.cells[j]?=some r.cells[j]:=List.getElem?_eq_getElem cZ
      have:=hc j u _ hu Jv
      unfold bg at this;rw [hp] at this
      exact hy g cur te fr u _ bY hg hu Jv this
     ·cases hx
    ·rw [if_neg hk] at hx
     have:=hc k u x hu hx
     unfold bg at this;rw [hp] at this
     exact this
  ·rw [if_neg e] at hq;exact h.rows i q hq
 ·simp only [lX] at hi
  by_cases e:id=i
  ·rw [if_pos e] at hi;cases hi
  ·rw [if_neg e] at hi;exact h.only i hi
theorem aJ.open_ (h:aJ Z w0 n [] s a w φ) (id j:Nat) {r:Row} {x:AV} (hr:look s.H id=some r) (hp:r.pure=false) (hj:r.cells[j]?=some x) (hx:iA x=true):∃v,aJ Z w0 n [] ⟨s.F,(id,⟨r.e,false,r.full,r.cells.set j (.val v)⟩)::cP s.H id⟩ a w φ∧cz (aO Z w φ []) w v x:=by
 have aS:=h.rows id _ hr
 unfold bK at aS
 cases bY:φ id with
 | none=>rw [bY] at aS;simp only at aS;rw [aS] at hj;cases hj
 | some g =>
  rw [bY] at aS
  obtain ⟨cur,te,fr,hg,hf,hl,nn,hc⟩:=aS
  have cZ:j<cur.size:=by have:=(List.getElem?_eq_some_iff.1 hj).1;omega
  have hu:cur[j]?=some cur[j]:=Array.getElem?_eq_getElem cZ
  have hd:=hc j _ _ hu hj
  unfold bg at hd;rw [hp] at hd
  refine ⟨cur[j],h.IM id j hr hp fun g' cur' VI Sz u x' h1 h2 h3 h4 h5=>?_,(e_ hd hx).1⟩
  rw [bY] at h1;injection h1 with h1;subst h1
  rw [hg] at h2;injection h2 with h2;injection h2 with h2;subst h2
  rw [hu] at h3;injection h3 with h3;subst h3
  exact .rep (.val _)
theorem aJ.close_ (h:aJ Z w0 n [] s a w φ) (id j:Nat) {r:Row} {x:AV} {v:Value} (hr:look s.H id=some r) (hp:r.pure=false) (hj:r.cells[j]?=some (.val v)) (hx:cz (aO Z w φ []) w v x):aJ Z w0 n [] ⟨s.F,(id,⟨r.e,false,r.full,r.cells.set j x⟩)::cP s.H id⟩ a w φ:=by
 refine h.IM id j hr hp fun g cur te fr u x' _ _ _ h4 h5=>?_
 rw [hj] at h4;injection h4 with h4;subst h4
 rw [bF h5]
 exact .rep hx
end
theorem bf.SA {P:Program} {n:Nat} {c:Code} {Q:Exit->AS->Prop} {s:AS} (s':AS) (h:s=s') (h2:bf P n c Q s'):bf P n c Q s:=h ▸ h2
end Go.Proofs.YtjgbhhnghedgdaaGreatDoor
