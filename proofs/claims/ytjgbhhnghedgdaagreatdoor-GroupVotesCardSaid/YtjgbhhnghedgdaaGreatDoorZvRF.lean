import Derived.Test.YtjgbhhnghedgdaaGreatDoorZvRI
import Derived.RangeFuncRecord
import Derived.OrdersIn
import Derived.TacticsIn
set_option linter.all false
namespace Go.Proofs.YtjgbhhnghedgdaaGreatDoor
open Go.RowKit
abbrev Wd (ro:Option Nat):Fence:={Fence.wide with round:=ro}
def ky (o:Oper):Bool:=match o.op with| .defer _=>false|_=>true
def lu:Code->Bool
 | .skip=>true
 | .region _ ops _=>ops.toList.all ky
 | .seq x y=>lu x && lu y
 | .cond _ x y=>lu x && lu y
 | .block _ c=>lu c
 | .loop c=>lu c
 | .exit _=>true
 | .ret=>true
 | _=>false
section
variable {P:Program} {Q:Exit->Act->World->Prop} {ro:Option Nat} {n:Nat}
theorem C6 {o:Oper} (h:ky o=true) (c):o.op≠ .defer c:=by
 intro e;unfold ky at h;rw [e] at h;cases h
theorem vf {o:Oper} {a:Act} {w:World} {K:Act->World->Prop} (ho:ky o=true) (hQ:¬LetsOut Q) (h:o.wp P a w K Q):o.wpIn (Wd ro) n P a w K Q:=by
 refine ⟨fun _ _=>trivial,?_⟩
 rw [Oper.semAt_eq _ _ _ (C6 ho)]
 unfold Oper.wp at h
 generalize (execOp a.eval o).run P w=r at *
 cases r with
 | ok x w' =>
  cases x with
  | enter f args=>exact ⟨fun h=>by simp [Fence.wide] at h,(callsIn_wide (n:=n-1)).2 h⟩
  | row row args =>
   refine ⟨fun h=>by simp [Fence.wide] at h,fun c cs _=>?_⟩
   obtain ⟨v,fJ,h1,h2⟩:=h c cs
   exact ⟨v,fJ,h1,stepsIn_wide.2 h2⟩
  | round=>exact h.elim
  | _=>exact h
 | halt x w'=>cases x<;>exact h
theorem list_round {ops:Array Oper} (hQ:¬LetsOut Q):∀(m:List Oper),m.all ky=true-> ∀(a:Act) (w:World),wpList P ops Q m a w->wpListIn (Wd ro) n P ops Q m a w
 | [],_,a,w,h=>h
 | o::m,hm,a,w,h=>by
  rw [List.all_cons,Bool.and_eq_true] at hm
  unfold wpList at h
  unfold wpListIn
  split at h
  ·rename_i hw
   rw [if_pos hw]
   rcases h with h|⟨-,h⟩
   ·have:=vf (ro:=ro) (n:=n) hm.1 hQ h
    refine ⟨this.1,?_⟩
    have h2:=this.2
    generalize (o.semAt (Wd ro).round a.eval).run P w=r at *
    cases r with
    | ok x w'=>cases x with
     | value v=>exact list_round hQ m hm.2 _ _ h2
     | skip=>exact list_round hQ m hm.2 _ _ h2
     | defer d=>exact list_round hQ m hm.2 _ _ h2
     | enter f args=>exact ⟨h2.1,(callsIn_wide (n:=n-1)).2 (Calls.mono ((callsIn_wide (n:=n-1)).1 h2.2) fun e fJ he=>by cases e<;>first|exact list_round hQ m hm.2 _ _ he|exact he)⟩
     | row row args=>exact ⟨h2.1,RowsIn.mono h2.2 fun v fJ he=>list_round hQ m hm.2 _ _ he⟩
     | round l' f tmps x b=>exact ⟨h2.1,RoundIn.mono h2.2 fun e fJ he=>by cases e<;>first|exact list_round hQ m hm.2 _ _ he|exact he⟩
     | _=>exact h2
    | halt x w'=>cases x<;>exact h2
   ·exact absurd h hQ
  ·rename_i hw
   rw [if_neg hw]
   exact ⟨fun _ _=>trivial,list_round hQ m hm.2 _ _ h⟩
theorem AA {o:Oper} {a:Act} {w:World} {K K':Act->World->Prop} (hK:∀a w,K a w->K' a w) (h:o.wpIn (Wd ro) n P a w K Q):o.wpIn (Wd ro) n P a w K' Q:=by
 refine ⟨h.1,?_⟩
 have h2:=h.2
 generalize (o.semAt (Wd ro).round a.eval).run P w=r at *
 cases r with
 | ok x w'=>cases x with
  | value v=>exact hK _ _ h2
  | skip=>exact hK _ _ h2
  | defer d=>exact hK _ _ h2
  | enter f args=>exact ⟨h2.1,(callsIn_wide (n:=n-1)).2 (Calls.mono ((callsIn_wide (n:=n-1)).1 h2.2) fun e fJ he=>by cases e<;>first|exact hK _ _ he|exact he)⟩
  | row row args=>exact ⟨h2.1,RowsIn.mono h2.2 fun v fJ he=>hK _ _ he⟩
  | round l' f tmps x b=>exact ⟨h2.1,RoundIn.mono h2.2 fun e fJ he=>by cases e<;>first|exact hK _ _ he|exact he⟩
  | _=>exact h2
 | halt x w'=>cases x<;>exact h2
theorem pa {md:Region.Mode} {ops:Array Oper} (hc:ops.toList.all ky=true) (hQ:¬LetsOut Q):∀(fuel:Nat) (listed:Array Bool) (a:Act) (w:World),wpAny P md ops Q fuel listed a w->wpAnyIn (Wd ro) n P md ops Q fuel listed a w
 | 0,_,_,_,h=>h
 | fuel+1,listed,a,w,h=>⟨h.1,fun i hi=>by
   have h':=h.2 i hi
   unfold wpOp at h'
   unfold wpOpIn
   split
   ·rename_i ho;simp only [ho] at h';exact pa hc hQ fuel _ _ _ h'
   ·rename_i o ho
    simp only [ho] at h'
    have gr:ky o=true:=List.all_eq_true.1 hc o (by
     have:=Array.mem_of_getElem? ho;simpa using this)
    split
    ·rename_i hw
     rw [if_pos hw] at h'
     rcases h' with h'|⟨-,h'⟩
     ·exact AA (pa hc hQ fuel _) (vf gr hQ h')
     ·exact absurd h' hQ
    ·rename_i hw
     rw [if_neg hw] at h'
     exact ⟨fun _ _=>trivial,pa hc hQ fuel _ _ _ h'⟩⟩
theorem Gg {F:Fence} {c:Code} {a:Act} {w:World} (J:Nat->Act->World->Prop) (k0:Nat) (h0:J k0 a w)
  (round:∀k a w,J k a w->c.wpIn F n P (Exit.then (fun a' w'=>∃k',k'<k∧J k' a' w') Q) a w):(Code.loop c).wpIn F n P Q a w:=by
 have Jc:∀a w,∃m,(∃k,J k a w)->J m a w∧ ∀k,J k a w->m≤k:=by
  intro a w
  by_cases h:∃k,J k a w
  ·obtain ⟨k,hk⟩:=h
   induction k using Nat.strongRecOn with
   | _ k ih =>
    by_cases hs:∃j,j<k∧J j a w
    ·obtain ⟨j,hj,hJ⟩:=hs;exact ih j hj hJ
    ·exact ⟨k,fun _=>⟨hk,fun j hJ=>Classical.byContradiction fun cW=>hs ⟨j,ag,hJ⟩⟩⟩
  ·exact ⟨0,fun h'=>absurd h' h⟩
 let μ :Act->World->Nat:=fun a w=>Classical.choose (Jc a w)
 have Ux :∀a w (h:∃k,J k a w),J (μ a w) a w∧ ∀k,J k a w-> μ a w≤k:=fun a w h=>Classical.choose_spec (Jc a w) h
 refine wpIn_loop (fun a w=>∃k,J k a w) μ ⟨k0,h0⟩ fun a w h=>?_
 refine wpIn_mono (round _ a w (Ux a w h).1) fun e a' w' hq=>?_
 cases e with
 | normal =>
  obtain ⟨k',hk,hJ⟩:=hq
  exact ⟨⟨k',hJ⟩,Nat.lt_of_le_of_lt ((Ux a' w' ⟨k',hJ⟩).2 k' hJ) hk⟩
 | _=>exact hq
theorem iN:∀(c:Code) (Q:Exit->Act->World->Prop) (a:Act) (w:World),lu c=true-> ¬LetsOut Q->CD P c Q a w->c.wpIn (Wd ro) n P Q a w
 | .skip,_,a,w,_,_,h=>wpIn_skip h
 | .region _ ops false,_,a,w,hc,hQ,h=>wpIn_region_list (list_round hQ _ hc _ _ h)
 | .region _ ops true,_,a,w,hc,hQ,h=>wpIn_region_any h.1 (pa hc hQ _ _ _ _ h.2)
 | .seq x y,Q,a,w,hc,hQ,h=>by
  simp only [lu,Bool.and_eq_true] at hc
  exact wpIn_seq (iN x _ a w hc.1 (by rintro ⟨a,w,h⟩;exact hQ ⟨a,w,h⟩) (eG x _ _ (mc (fun a w h=>iN y Q a w hc.2 hQ h) fun _ _ _ h=>h) a w h))
 | .cond c x y,Q,a,w,hc,hQ,⟨t,h1,h2,h3⟩=>by
  simp only [lu,Bool.and_eq_true] at hc
  exact wpIn_cond_split h1 (fun e=>iN x Q a w hc.1 hQ (h2 e)) (fun e=>iN y Q a w hc.2 hQ (h3 e))
 | .block id c,_,a,w,hc,hQ,h=>wpIn_block (iN c _ a w hc (by rintro ⟨a,w,h⟩;exact hQ ⟨a,w,h⟩) h)
 | .loop c,_,a,w,hc,hQ,⟨J,k0,h0,h⟩=>Gg J k0 h0 fun k a w hJ=>iN c _ a w hc (by rintro ⟨a,w,h⟩;exact hQ ⟨a,w,h⟩) (h k a w hJ)
 | .exit id,_,a,w,_,_,h=>wpIn_exit h
 | .ret,_,a,w,_,_,h=>wpIn_ret h
 | .rangeFunc ..,_,_,_,hc,_,_=>by cases hc
 | .scope _,_,_,_,hc,_,_=>by cases hc
 | .label _,_,_,_,hc,_,_=>by cases hc
 | .goto _,_,_,_,hc,_,_=>by cases hc
 | .refuse _,_,_,_,hc,_,_=>by cases hc
end
section
variable {S0:bn} {w0 w:World} {n:Nat} {s:AS} {a:Act} {φ:Nat->Option Nat}
def A8 (x y:Nat) (φ:Nat->Option Nat):Nat->Option Nat:=fun i=>if i=y then φ x else if i=x then none else φ i
theorem aI.EJ (h:aI S0 w0 n [] s a w φ) (x y:Nat) (P3:y<1000000000000∨ ∀g,φ x=some g->S0.fix y=some g) (cS:x≠y) (hy:look s.H y=none):aI S0 w0 n [] (rename x y s) a w (A8 x y φ):=by
 let b_:Nat->Option Nat:=fun i=>if i=y then φ x else if i=x then none else φ i
 show aI S0 w0 n [] (rename x y s) a w b_
 have Sr:φ y=none:=h.only y hy
 have nf:∀i g,b_ i=some g-> ∃j,φ j=some g∧(i=y->j=x)∧(i≠y->j=i):=by
  intro i g hi
  by_cases e:i=y
  ·have:φ x=some g:=by simpa [b_,e] using hi
   exact ⟨x,this,fun _=>rfl,fun h=>absurd e h⟩
  ·by_cases e2:i=x
   ·simp [b_,e2,cS] at hi
   ·have:φ i=some g:=by simpa [b_,e,e2] using hi
    exact ⟨i,this,fun h=>absurd h e,fun _=>rfl⟩
 have Jm:∀b,aP S0 w φ [] b->aP S0 w b_ [] b:=by
  intro b ⟨h1,h2,h3,h4⟩
  refine ⟨h1,h2,fun i hi=>?_,h4⟩
  obtain ⟨j,hj,-⟩:=nf i b hi
  exact h3 j hj
 have kn:∀i,look (rename x y s).H i=(if i=y then look s.H x else if i=x then none else look s.H i).map (fo x y):=by
  intro i
  unfold rename
  rw [cy,n9 x y _ hy]
 have hI:∀i z,az s.H φ i=some z->az (rename x y s).H b_ (if i=x then y else i)=some z:=by
  intro i z hi
  obtain ⟨e,m,b⟩:=z
  obtain ⟨r,hl,h1,h2,h3⟩:=aS hi
  by_cases e1:i=x
  ·subst e1
   rw [if_pos rfl,bt (r:=fo i y r) (by rw [kn,if_pos rfl,hl];rfl),(cF i y r).1,(cF i y r).2.1,h1,h2]
   simp [b_,h3]
  ·have e2:i≠y:=fun e=>by subst e;rw [hy] at hl;cases hl
   rw [if_neg e1,bt (r:=fo x y r) (by rw [kn,if_neg e2,if_neg e1,hl];rfl),(cF x y r).1,(cF x y r).2.1,h1,h2]
   simp [b_,e1,e2,h3]
 have tM:∀b,aP S0 w φ [] b->aP S0 w b_ [] b∧w.heap[b]?=w.heap[b]?:=fun b h=>⟨Jm b h,rfl⟩
 have ok:kg (az s.H φ) (az (rename x y s).H b_) (aP S0 w φ []) (aP S0 w b_ []) w (kv x y):=by
  refine ⟨fun v av hv h1 h2=>?_,fun _=>rfl,fun _=>rfl⟩
  have pick:∀i z,az s.H φ i=some z->(Nat.beq i x=true∧az (rename x y s).H b_ y=some z)∨(Nat.beq i x=false∧az (rename x y s).H b_ i=some z):=by
   intro i z hi
   have:=hI i z hi
   rcases bI i x with ⟨hb,e⟩|⟨hb,e⟩
   ·rw [if_pos e] at this;exact .inl ⟨hb,this⟩
   ·rw [if_neg e] at this;exact .inr ⟨hb,this⟩
  cases hv with
  | rep h=>cases h with
   | val v=>exact .rep (.val v)
   | nil=>exact .rep .nil
   | agg vs cs _ _=>exact absurd rfl (h1 cs)
   | cw vs cs _ _=>exact absurd rfl (h2 cs)
   | arr vs cs hl h=>exact .rep ((cz.arr vs cs hl h).mono tM)
   | sl A n c e us row hl hn hc hm ha h=>exact .rep ((cz.sl A n c e us row hl hn hc hm ha h).mono tM)
   | sg A n e us row hl hn hm ha h=>exact .rep ((cz.sg A n e us row hl hn hm ha h).mono tM)
   | ptr ad us row off hl hs ha h=>exact .rep ((cz.ptr ad us row off hl hs ha h).mono tM)
   | mI f vs cs hl h=>exact .rep ((cz.mI f vs cs hl h).mono tM)
  | agg vs cs _ _=>exact absurd rfl (h1 cs)
  | cw vs cs _ _=>exact absurd rfl (h2 cs)
  | ref i e m g l c hi hm hc hx hs=>rcases pick i _ hi with ⟨hb,jx⟩|⟨hb,jx⟩<;>simp only [kv,hb]<;>exact .ref _ e m g l c jx hm hc hx hs
  | cm i e hi=>rcases pick i _ hi with ⟨hb,jx⟩|⟨hb,jx⟩<;>simp only [kv,hb]<;>exact .cm _ e jx
  | pre i k e m g l c hi hn hm hc hx hs=>rcases pick i _ hi with ⟨hb,jx⟩|⟨hb,jx⟩<;>simp only [kv,hb]<;>exact .pre _ k e m g l c jx hn hm hc hx hs
  | dP i e hi=>rcases pick i _ hi with ⟨hb,jx⟩|⟨hb,jx⟩<;>simp only [kv,hb]<;>exact .dP _ e jx
  | jE i off k e m l c g A hi hn hm hc hx ha=>rcases pick i _ hi with ⟨hb,jx⟩|⟨hb,jx⟩<;>simp only [kv,hb]<;>exact .jE _ off k e m l c g A jx hn hm hc hx ha
  | addr i off e m g hi=>rcases pick i _ hi with ⟨hb,jx⟩|⟨hb,jx⟩<;>simp only [kv,hb]<;>exact .addr _ off e m g jx
  | dead v=>exact .dead _
 have C3:∀z:AV,(∀cs,z≠ .agg cs)->F7 x y z=kv x y z:=by
  intro z hz
  cases z with
  | agg cs=>exact absurd rfl (hz cs)
  | _=>rfl
 have CZ:∀z:AV,(∀cs,z≠ .cw cs)->Nn x y z=F7 x y z:=by
  intro z hz
  cases z with
  | cw cs=>exact absurd rfl (hz cs)
  | _=>rfl
 refine ⟨h.j8,h.ke,h.da,fun i av hi=>?_,fun i r hr=>?_,fun i hi=>?_,fun i j g hi hj=>?_,fun i g hi=>?_,fun i g hi=>by simp,h.new⟩
 ·unfold rename at hi
  rw [cy] at hi
  cases hl:look s.F i with
  | none=>rw [hl] at hi;cases hi
  | some z =>
   rw [hl] at hi;injection hi with hi;subst hi
   exact ok.two (h.cC i z hl) (fun _=>rfl) C3 (fun _=>rfl) CZ
 ·rw [kn] at hr
  have:∃j q,look s.H j=some q∧b_ i=φ j∧r=fo x y q:=by
   by_cases e:i=y
   ·rw [if_pos e] at hr
    cases hl:look s.H x with
    | none=>rw [hl] at hr;cases hr
    | some q=>rw [hl] at hr;injection hr with hr;exact ⟨x,q,hl,by simp [b_,e],hr.symm⟩
   ·rw [if_neg e] at hr
    by_cases e2:i=x
    ·rw [if_pos e2] at hr;cases hr
    ·rw [if_neg e2] at hr
     cases hl:look s.H i with
     | none=>rw [hl] at hr;cases hr
     | some q=>rw [hl] at hr;injection hr with hr;exact ⟨i,q,hl,by simp [b_,e,e2],hr.symm⟩
  obtain ⟨j,q,hq,NB,rfl⟩:=this
  have aQ:=h.rows j q hq
  rw [NB]
  unfold bJ at aQ ⊢
  cases hb:φ j with
  | none =>
   rw [hb] at aQ
   have:=(cF x y q).2.1
   simp only at aQ ⊢
   rw [aQ] at this;exact List.length_eq_zero_iff.1 this
  | some g =>
   rw [hb] at aQ
   obtain ⟨cur,te,fr,hg,hf,hlen,nr,hc⟩:=aQ
   refine ⟨cur,te,fr,hg,hf,by rw [(cF x y q).2.1];exact hlen,by rw [(cF x y q).2.1,(cF x y q).2.2.2];exact nr,fun j u z hu hz=>?_⟩
   rw [(cF x y q).2.2.1]
   unfold bh
   cases hp:q.pure with
   | true =>
    have:fo x y q=q:=by unfold fo;rw [hp]
    rw [this] at hz
    have:=hc j u z hu hz
    unfold bh at this;rw [hp] at this
    exact this.mono tM
   | false =>
    have:(fo x y q).cells=q.cells.map (kv x y):=by unfold fo;rw [hp]
    rw [this,List.getElem?_map] at hz
    cases hj:q.cells[j]? with
    | none=>rw [hj] at hz;cases hz
    | some z' =>
     rw [hj] at hz;injection hz with hz;subst hz
     have:=hc j u z' hu hj
     unfold bh at this;rw [hp] at this
     exact ok.all this
 ·rw [kn] at hi
  by_cases e:i=y
  ·rw [if_pos e] at hi
   cases hl:look s.H x with
   | none=>simp [b_,e,h.only x hl]
   | some q=>rw [hl] at hi;cases hi
  ·rw [if_neg e] at hi
   by_cases e2:i=x
   ·simp [b_,e2,cS]
   ·rw [if_neg e2] at hi
    cases hl:look s.H i with
    | none=>simp [b_,e,e2,h.only i hl]
    | some q=>rw [hl] at hi;cases hi
 ·obtain ⟨i',h1,h2,h3⟩:=nf i g hi
  obtain ⟨j',h4,h5,h6⟩:=nf j g hj
  have e:=h.inj i' j' g h1 h4
  by_cases ei:i=y<;>by_cases ej:j=y
  ·rw [ei,ej]
  ·have:=h2 ei;have:=h6 ej
   have:j=x:=ag
   subst this
   simp [b_,cS] at hj
  ·have:=h3 ei;have:=h5 ej
   have:i=x:=ag
   subst this
   simp [b_,cS] at hi
  ·have:=h3 ei;have:=h6 ej;omega
 ·obtain ⟨j,h1,h2,h3⟩:=nf i g hi
  have:=h.cY j g h1
  refine ⟨⟨?_,this.1.2⟩,this.2⟩
  by_cases e:i=y
  ·have hj:=h2 e
   subst hj
   rw [e]
   exact P3.imp (fun h=>h) fun h=>h g h1
  ·rw [←h3 e];exact this.1.1
end
section
variable {Z Z':bn} {w0 w w':World} {n:Nat} {O:List Nat} {s:AS} {a a':Act} {φ:Nat->Option Nat}
theorem aI.rM (h:aI Z w0 n O s a w φ) (dv:w.heap.size≤w'.heap.size) (hb:∀b,Z.S b->b<w.heap.size->w'.heap[b]?=w.heap[b]?) (hS:∀b,Z.S b->b<w.heap.size->Z'.S b) (mw:∀b,(w'.heap.size≤b∨Z'.X b)->Z'.S b) (hX:∀id g,φ id=some g->Z'.X g)
  (LF:∀id g,φ id=some g->id<1000000000000∨Z'.fix id=some g) (ht:a'.tmps=a.tmps) (hd:a'.defers=Z'.tq) (Ti:Good w') (We:∀b,TB b-> ¬Z'.X b):aI Z' w' n O s a' w' φ:=by
 have hF:∀b,aP Z w φ O b->aP Z' w' φ O b∧w'.heap[b]?=w.heap[b]?:=fun b ld=>⟨⟨Nat.lt_of_lt_of_le ld.1 dv,ld.2.1,ld.2.2.1,hS b ld.2.2.2 ld.1⟩,hb b ld.2.2.2 ld.1⟩
 have bW:∀id g,φ id=some g->w'.heap[g]?=w.heap[g]?:=fun id g hg=>hb g (h.new g (h.cY id g hg).1.2) (h.cY id g hg).2
 have hL:∀id e m g,az s.H φ id=some (e,m,some g)->aW w' g=aW w g:=fun id e m g hi=>by
  obtain ⟨_,-,-,-,hg⟩:=aS hi
  unfold aW;rw [bW id g hg]
 refine ⟨by rw [ht];exact h.j8,hd,⟨rfl,rfl,rfl,Nat.le_refl _,fun _ _ _=>rfl,Ti,We⟩,fun i av hi=>?_,fun id r hr=>?_,h.only,h.inj,fun id g hg=>⟨⟨LF id g hg,.inr (hX id g hg)⟩,Nat.lt_of_lt_of_le (h.cY id g hg).2 dv⟩,h.apart,mw⟩
 ·rw [ht];exact (h.cC i av hi).mono (fun _ _ h=>h) hF hL
 ·have aQ:=h.rows id r hr
  unfold bJ at aQ ⊢
  cases hg:φ id with
  | none=>rw [hg] at aQ;exact aQ
  | some g =>
   rw [hg] at aQ
   obtain ⟨cur,te,fr,u1,u2,u3,u4,u5⟩:=aQ
   refine ⟨cur,te,fr,(bW id g hg).trans u1,u2,u3,u4,fun j u x hu hx=>?_⟩
   have:=u5 j u x hu hx
   unfold bh at this ⊢
   cases hp:r.pure with
   | true=>rw [hp] at this;exact this.mono hF
   | false=>rw [hp] at this;exact this.mono (fun _ _ h=>h) hF hL
end
def nk:AV->Bool
 | .val _=>true
 | .nil=>true
 | .ref _=>true
 | .pre _ _=>true
 | .jE _ _ _=>true
 | .addr _ _=>true
 | _=>false
def jQ (H:List (Nat×Row)):Prop:=∀id r,look H id=some r-> ∀(j:Nat) x,r.cells[j]?=some x->nk x=true
theorem D7 {I:Info} {S S':Nat->Prop} {w w':World} {v:Value} {x:AV} (h:Den I S w v x) (hc:nk x=true) (hL:∀id e m g,I id=some (e,m,some g)->aW w' g=aW w g):Den I S' w' v x:=by
 cases h with
 | rep h=>cases h with
  | val v=>exact .rep (.val v)
  | nil=>exact .rep .nil
  | _=>cases hc
 | agg=>cases hc
 | cw=>cases hc
 | ref id e m g l c hi hm lB hx hs=>exact .ref id e m g l c hi hm lB hx ((hL _ _ _ _ hi).trans hs)
 | cm id e hi=>exact .cm id e hi
 | pre id n e m g l c hi hn hm lB hx hs=>exact .pre id n e m g l c hi hn hm lB hx ((hL _ _ _ _ hi).trans hs)
 | dP id e hi=>exact .dP id e hi
 | jE id off n e m l c g A hi hn hm lB hx ha=>exact .jE id off n e m l c g A hi hn hm lB hx ha
 | addr id off e m g hi=>exact .addr id off e m g hi
 | dead v=>exact .dead v
theorem CP {S S':Nat->Prop} {w w':World} {v:Value} {x:AV} (h:cz S w v x) (hc:nk x=true):cz S' w' v x:=by
 cases h with
 | val v=>exact .val v
 | nil=>exact .nil
 | _=>cases hc
def pb (P:Program) (l:Nat) (vs:List Value) (w:World) (T:Bool->World->Prop):Prop :=
 ∃fn tmps Vi bd,(Instr.yield l vs.toArray).run P w= .ok (.round l fn tmps Vi bd) w∧RoundIn Fence.wide 0 P l fn tmps Vi bd w fun e w'=>∃t,e= .returned (.bool t)∧T t w'
structure Kt (O:Nat->Prop) (w w':World):Prop where
 os:w'.os=w.os
 tape:w'.tape=w.tape
 output:w'.output=w.output
 size:w.heap.size≤w'.heap.size
 block:∀b,b<w.heap.size-> ¬O b->w'.heap[b]?=w.heap[b]?
def kf (J:(Nat->Prop)->(Nat->Prop)->World->Prop):Prop :=
 ∀O K w O' K' w',J O K w->Kt O w w'->(∀b,O' b->O b∨w.heap.size≤b)->(∀b,K' b->K b∨w.heap.size≤b)->J O' K' w'
def ye (P:Program) (f:Nat) (l8:List AV) (A:Nat->List AV) (N:Nat):Prop :=
 ∀(l:Nat) (w:World) (S:Nat->Prop) (cv:List Value) (J:Nat->(Nat->Prop)->(Nat->Prop)->World->Prop) (X:(Nat->Prop)->(Nat->Prop)->World->Prop),
  Good w->(∀b,S b->b<w.heap.size)->cv.length=l8.length->(∀(j:Nat) v x,cv[j]?=some v->l8[j]?=some x->cz S w v x) ->
  (∀i,kf (J i))->kf X ->
  (∀i,i<N-> ∀(O K:Nat->Prop) (w1:World) (vs:List Value),J i O K w1->(∀b,O b->K b)->(∀b,K b->b<w1.heap.size)->vs.length=(A i).length->(∀(j:Nat) v x,vs[j]?=some v->(A i)[j]?=some x->cz K w1 v x) ->
   pb P l vs w1 fun t w2=>Good w2∧w1.heap.size≤w2.heap.size∧(∀b,K b->w2.heap[b]?=w1.heap[b]?)∧(t=true->J (i+1) O K w2)∧(t=false->X O K w2)) ->
  J 0 (fun _=>False) S w ->
  Calls P f (Value.func (.yield l) #[] #[]::cv).toArray w fun e w'=>∃v O K,e= .returned v∧(J N O K w'∨X O K w')
def Sg (H:List (Nat×Row)):AV->Bool
 | .val _=>true
 | .nil=>true
 | .arr _=>true
 | .sl _ _=>true
 | .ptr _ _=>true
 | .mI _ _=>true
 | .agg cs=>eh cs
 | .dead=>true
 | .addr id _=>(match Nat.ble 1000000000000 id,look H id with|true,some r=>(match r.cells with| []=>false|_::_=>true)|_,_=>false)
 | _=>false
def Pw (F:List (Nat×AV)) (H:List (Nat×Row)):Prop:=∀i x,look F i=some x->Sg H x=true
def C4 (H:List (Nat×Row)):List (Nat×AV)->Bool
 | []=>true
 | (_,x)::F=>match Sg H x with|true=>C4 H F|false=>false
theorem qy {H:List (Nat×Row)}:∀ {F:List (Nat×AV)},C4 H F=true->Pw F H
 | [],_,i,x,h=>by cases h
 | (k,y)::F,hb,i,x,h=>by
  simp only [C4] at hb
  split at hb
  ·rename_i hy
   rw [aD] at h
   by_cases e:k=i
   ·rw [if_pos e] at h;injection h with h;subst h;exact hy
   ·rw [if_neg e] at h;exact qy hb i x h
  ·cases hb
structure FH (op:List (Value×AV)) (S0:bn) (w0:World) (n:Nat) (tm:Array Value) (fx:Nat->Option Nat) (r l:Nat) (we:World) (rc:Loop) (s:AS) (O K:Nat->Prop) (w:World):Prop where
 ex:∃(wb:World) (φ:Nat->Option Nat) (Z:bn),aI Z wb n [] s ⟨tm,[]⟩ wb φ∧Z.fix=fx∧we.heap.size≤wb.heap.size∧wb.heap.size≤w.heap.size∧(∀b,Z.S b->b<wb.heap.size->w.heap[b]?=wb.heap[b]?)∧(∀b,Z.S b->b<wb.heap.size->S0.S b) ∧
  (∀id g,φ id=some g->w0.heap.size≤g∨S0.X g)∧(∀b,O b->b<wb.heap.size-> ¬Z.S b)∧(∀b,K b-> ∀id,φ id≠some b)∧ ¬Z.S l∧ ¬Z.S r∧ ∀p∈op,cz (aP Z wb φ []) wb p.1 p.2
 kept:Kept S0 w0 w
 base:w0.heap.size≤we.heap.size
 Q6:∀b,O b->we.heap.size≤b
 hl:l<we.heap.size
 hr:r<we.heap.size
 Kl:¬K l
 H_:w.heap[l]?=some (.loop rc)
 Lh:∀b,w0.heap.size≤b->S0.S b
 O4:w0.heap.size≤l
 rl:r≠l
 Kr:¬K r
 ke:w.heap[r]?=some (.deferred (some []))
section
variable {op:List (Value×AV)} {P:Program} {S0:bn} {w0:World} {n:Nat} {tm:Array Value} {fx:Nat->Option Nat} {r l:Nat} {we:World} {rc:Loop} {s:AS}
theorem FH.HK:kf (FH op S0 w0 n tm fx r l we rc s):=by
 intro O K w O' K' w' h st hO hK
 obtain ⟨wb,φ,Z,h1,h2,h3,h4,h5,h6,h7,h8,h9,KJ,Jn,Oo⟩:=h.ex
 have hle:we.heap.size≤w.heap.size:=Nat.le_trans h3 h4
 refine ⟨⟨wb,φ,Z,h1,h2,h3,Nat.le_trans h4 st.size,fun b hb cW=>(st.block b ag fun ho=>h8 b ho cW hb).trans (h5 b hb cW),h6,h7,fun b hb cW=>?_,fun b hb id hid=>?_,KJ,Jn,Oo⟩,?_,h.base,fun b hb=>?_,h.hl,h.hr,fun hb=>?_,?_,?_,?_,?_,?_,?_⟩
 ·rcases hO b hb with hb|hb
  ·exact h8 b hb cW
  ·omega
 ·rcases hK b hb with hb|hb
  ·exact h9 b hb id hid
  ·have:=(h1.cY id b hid).2;omega
 ·exact ⟨st.os.trans h.kept.os,st.tape.trans h.kept.tape,st.output.trans h.kept.output,Nat.le_trans h.kept.size st.size,fun k hk hx=>(st.block k (Nat.lt_of_lt_of_le hk h.kept.size) fun ho=>by have:=h.Q6 k ho;have:=h.base;omega).trans (h.kept.block k hk hx),h.kept.g0,h.kept.gx⟩
 ·rcases hO b hb with hb|hb
  ·exact h.Q6 b hb
  ·omega
 ·rcases hK l hb with hb|hb
  ·exact h.Kl hb
  ·have:=h.hl;omega
 ·exact (st.block l (by have:=h.hl;omega) fun ho=>by have:=h.Q6 l ho;have:=h.hl;omega).trans h.H_
 ·exact h.Lh
 ·exact h.O4
 ·exact h.rl
 ·intro hb
  rcases hK r hb with hb|hb
  ·exact h.Kr hb
  ·have:=h.hr;omega
 ·exact (st.block r (by have:=h.hr;omega) fun ho=>by have:=h.Q6 r ho;have:=h.hr;omega).trans h.ke
def Ib:List Nat->List AV->AS->AS
 | p::ps,x::xs,s=>Ib ps xs (lT s p x)
 | _,_,s=>s
theorem xF {Z:bn} {w:World} {φ:Nat->Option Nat}:∀(ps:List Nat) (vs:List Value) (xs:List AV) (s:AS) (a:Act),aI Z w0 n [] s a w φ->vs.length=xs.length->(∀p∈ps,p<n) ->
  (∀(j:Nat) v x,vs[j]?=some v->xs[j]?=some x->Den (az s.H φ) (aP Z w φ []) w v x)->aI Z w0 n [] (Ib ps xs s) ⟨(ps.zip vs).foldl (fun t p=>t.setIfInBounds p.1 p.2) a.tmps,a.defers⟩ w φ
 | [],vs,xs,s,a,h,_,_,_=>by
  cases xs<;>exact h
 | p::ps,[],xs,s,a,h,hl,_,_=>by
  cases xs with
  | nil=>exact h
  | cons=>simp at hl
 | p::ps,v::vs,[],s,a,h,hl,_,_=>by simp at hl
 | p::ps,v::vs,x::xs,s,a,h,hl,hp,hd=>by
  have h1:=h.put (hp p (by simp)) (hd 0 v x rfl rfl)
  exact xF ps vs xs (lT s p x) (a.put (some p) v) h1 (by simpa using hl) (fun q hq=>hp q (by simp [hq])) fun j u y hu hy=>hd (j+1) u y (by simpa using hu) (by simpa using hy)
theorem Iv {F:List (Nat×AV)} {H X:List (Nat×Row)} {O K:Nat->Prop} {w1 w3 Sa:World} {S3:bn} {a3:Act} {tS:Nat->Option Nat} {qb:Loop} {φ:Nat->Option Nat} {wb:World} {Z:bn}
  (hM:FH op S0 w0 n tm fx r l we rc ⟨F,H⟩ O K w1) (Pm:∀b,O b->K b) (hK:∀b,K b->b<w1.heap.size)
  (h1:aI Z wb n [] ⟨F,H⟩ ⟨tm,[]⟩ wb φ) (h2:Z.fix=fx) (h3:we.heap.size≤wb.heap.size) (h4:wb.heap.size≤w1.heap.size) (h5:∀b,Z.S b->b<wb.heap.size->w1.heap[b]?=wb.heap[b]?) (h6:∀b,Z.S b->b<wb.heap.size->S0.S b)
  (h7:∀id g,φ id=some g->w0.heap.size≤g∨S0.X g) (h8:∀b,O b->b<wb.heap.size-> ¬Z.S b) (h9:∀b,K b-> ∀id,φ id≠some b) (KJ:¬Z.S l) (Jn:¬Z.S r) (Oo:∀p∈op,cz (aP Z wb φ []) wb p.1 p.2)
  (Gq:aI S3 Sa n [] ⟨[],X⟩ a3 w3 tS) (LF:S3.fix=fx) (Pl:∀id g,tS id=some g->w1.heap.size≤g∨l_ φ g) (Ta:¬S3.S l) (VS:¬S3.S r)
  (I7:w3.os=w1.os) (vB:w3.tape=w1.tape) (vC:w3.output=w1.output) (dv:w1.heap.size≤w3.heap.size) (BO:∀b,b<w1.heap.size-> ¬l_ φ b->b≠l->w3.heap[b]?=w1.heap[b]?)
  (hX:jQ X) (hF:Pw F H) (TX:Pw F X) :
  FH op S0 w0 n tm fx r l we qb ⟨F,X⟩ O K (w3.putObj l (.loop qb))∧(∀b,K b->(w3.putObj l (.loop qb)).heap[b]?=w1.heap[b]?):=by
 have MG:l<w3.heap.size:=by have:=hM.hl;omega
 have Dh:∀b,b≠l->(w3.putObj l (.loop qb)).heap[b]?=w3.heap[b]?:=fun b hb=>World.putObj_heap_other hb
 have E9:∀b,b<w1.heap.size-> ¬l_ φ b->b≠l->(w3.putObj l (.loop qb)).heap[b]?=w1.heap[b]?:=fun b hb hn cS=>(Dh b cS).trans (BO b hb hn cS)
 have own:∀id g,φ id=some g->Z.S g∧g<wb.heap.size:=fun id g hg=>⟨h1.new g (h1.cY id g hg).1.2,(h1.cY id g hg).2⟩
 have Nt:∀id g,tS id=some g->S3.S g∧g<w3.heap.size:=fun id g hg=>⟨Gq.new g (Gq.cY id g hg).1.2,(Gq.cY id g hg).2⟩
 have Sl:∀id g,tS id=some g->g≠l:=fun id g hg e=>Ta (e ▸ (Nt id g hg).1)
 have WD:∀id e m g,az X tS id=some (e,m,some g)->aW (w3.putObj l (.loop qb)) g=aW w3 g:=fun id e m g hi=>by
  obtain ⟨_,-,-,-,hg⟩:=aS hi
  unfold aW;rw [Dh g (Sl id g hg)]
 let Z4:bn:=⟨fun b=>(Z.S b∧b<wb.heap.size)∨l_ tS b∨(w3.putObj l (.loop qb)).heap.size≤b,l_ tS,fx,[]⟩
 have Ls:(w3.putObj l (.loop qb)).heap.size=w3.heap.size:=World.putObj_size
 have fK:Kept S0 w0 (w3.putObj l (.loop qb)):=by
  refine ⟨I7.trans hM.kept.os,vB.trans hM.kept.tape,vC.trans hM.kept.output,by rw [Ls];exact Nat.le_trans hM.kept.size dv,fun k hk hx=>?_,hM.kept.g0,hM.kept.gx⟩
  have V9:k<w1.heap.size:=Nat.lt_of_lt_of_le hk hM.kept.size
  refine (E9 k V9 (fun ⟨id,hid⟩=>?_) (fun e=>?_)).trans (hM.kept.block k hk hx)
  ·rcases h7 id k hid with h|h
   ·omega
   ·exact hx h
  ·have:=hM.O4;omega
 have Uw:∀b,l_ tS b->b<wb.heap.size->Z.S b:=fun b ⟨id,hid⟩ cW=>by
  rcases Pl id b hid with h|⟨j,hj⟩
  ·omega
  ·exact (own j b hj).1
 have vG:∀b,aP Z wb φ [] b->aP Z4 (w3.putObj l (.loop qb)) tS [] b∧(w3.putObj l (.loop qb)).heap[b]?=wb.heap[b]?:=by
  intro b ⟨f1,f2,f3,f4⟩
  have cS:b≠l:=fun e=>KJ (e ▸ f4)
  have hn:¬l_ φ b:=fun ⟨id,hid⟩=>f3 id hid
  refine ⟨⟨by rw [Ls];omega,by simp,fun id hid=>?_,.inl ⟨f4,f1⟩⟩,(E9 b ag hn cS).trans (h5 b f4 f1)⟩
  rcases Pl id b hid with h|h
  ·omega
  ·exact hn h
 have gw:aI Z4 (w3.putObj l (.loop qb)) n [] ⟨F,X⟩ ⟨tm,[]⟩ (w3.putObj l (.loop qb)) tS:=by
  refine ⟨h1.j8,rfl,⟨rfl,rfl,rfl,Nat.le_refl _,fun _ _ _=>rfl,fK.ng,fun b hb=>Gq.tD hb⟩,fun i av hi=>?_,fun id q hq=>?_,Gq.only,Gq.inj,fun id g hg=>⟨⟨?_,.inr ⟨id,hg⟩⟩,by rw [Ls];exact (Nt id g hg).2⟩,fun _ _ _ h=>(by cases h),fun b hb=>?_⟩
  ·
   have dW:Den (az H φ) (aP Z wb φ []) wb (tm.getD i undef) av:=h1.cC i av hi
   show Den (az X tS) (aP Z4 (w3.putObj l (.loop qb)) tS []) (w3.putObj l (.loop qb)) (tm.getD i undef) av
   generalize tm.getD i undef=tv at dW ⊢
   have Fa:=hF i av hi
   have Ja:=TX i av hi
   have rB:cz (aP Z wb φ []) wb tv av->Den (az X tS) (aP Z4 (w3.putObj l (.loop qb)) tS []) (w3.putObj l (.loop qb)) tv av:=fun h=>.rep (h.mono vG)
   cases av with
   | val=>exact rB (by cases dW with|rep h=>exact h)
   | nil=>exact rB (by cases dW with|rep h=>exact h)
   | arr=>exact rB (by cases dW with|rep h=>exact h)
   | sl=>exact rB (by cases dW with|rep h=>exact h)
   | ptr=>exact rB (by cases dW with|rep h=>exact h)
   | mI=>exact rB (by cases dW with|rep h=>exact h)
   | dead=>exact .dead _
   | agg cs =>
    obtain ⟨vs,hv,r7,hd⟩:=kD dW
    rw [hv]
    exact .rep ((cz.agg vs cs r7 fun j v c hv hc=>(e_ (hd j v c hv hc) (iR Fa hc)).1).mono vG)
   | addr id off =>
    simp only [Sg] at Ja
    split at Ja
    ·rename_i q hb l3
     split at Ja
     ·cases Ja
     ·rename_i x0 xs uf
      have vI:=Nat.le_of_ble_eq_true hb
      cases dW with
      | rep h=>cases h
      | addr _ _ e m g hi =>
       obtain ⟨_,-,-,-,hg⟩:=aS hi
       have Wf:fx id=some g:=by
        rcases (h1.cY id g hg).1.1 with h|h
        ·omega
        ·rw [←h2];exact h
       have aQ:=Gq.rows id q l3
       unfold bJ at aQ
       cases Tk:tS id with
       | none=>rw [Tk] at aQ;simp only at aQ;rw [uf] at aQ;cases aQ
       | some g4 =>
        have:fx id=some g4:=by
         rcases (Gq.cY id g4 Tk).1.1 with h|h
         ·omega
         ·rw [←LF];exact h
        rw [Wf] at this;injection this with this;subst this
        exact .addr id off q.e q.cells.length g (by unfold az;rw [l3,Tk];rfl)
    ·cases Ja
   | _=>cases Fa
  ·
   have aQ:=Gq.rows id q hq
   unfold bJ at aQ ⊢
   cases hg:tS id with
   | none=>rw [hg] at aQ;exact aQ
   | some g =>
    rw [hg] at aQ
    obtain ⟨cur,te,fr,u1,u2,u3,u4,u5⟩:=aQ
    refine ⟨cur,te,fr,(Dh g (Sl id g hg)).trans u1,u2,u3,u4,fun j u x hu hx=>?_⟩
    have:=u5 j u x hu hx
    have hc:=hX id q hq j x hx
    unfold bh at this ⊢
    cases hp:q.pure with
    | true=>rw [hp] at this;exact CP this hc
    | false=>rw [hp] at this;exact D7 this hc WD
  ·rcases (Gq.cY id g hg).1.1 with h|h
   ·exact .inl h
   ·right;show fx id=some g;rw [←LF];exact h
  ·rcases hb with h|h
   ·exact .inr (.inr h)
   ·exact .inr (.inl h)
 refine ⟨⟨⟨w3.putObj l (.loop qb),tS,Z4,gw,rfl,by rw [Ls];omega,Nat.le_refl _,fun _ _ _=>rfl,fun b hb cW=>?_,fun id g hg=>?_,fun b hb cW hS=>?_,fun b hb id hid=>?_,fun hS=>?_,fun hS=>?_,fun p hp=>(Oo p hp).mono vG⟩,?_,hM.base,hM.Q6,hM.hl,hM.hr,hM.Kl,World.putObj_heap_same MG,hM.Lh,hM.O4,hM.rl,hM.Kr,?_⟩,fun b hb=>?_⟩
 ·rcases hb with h|⟨id,hid⟩|h
  ·exact h6 b h.1 h.2
  ·rcases Pl id b hid with h|⟨j,hj⟩
   ·
    have:=hM.base;exact hM.Lh b ag
   ·exact h6 b (own j b hj).1 (own j b hj).2
  ·omega
 ·rcases Pl id g hg with h|⟨j,hj⟩
  ·left;have:=hM.base;omega
  ·exact h7 j g hj
 ·rcases hS with h|h|h
  ·exact h8 b hb h.2 h.1
  ·obtain ⟨id,hid⟩:=h
   rcases Pl id b hid with h|⟨j,hj⟩
   ·have:=hK b (Pm b hb);omega
   ·exact h8 b hb (own j b hj).2 (own j b hj).1
  ·have:=hK b (Pm b hb);omega
 ·rcases Pl id b hid with h|⟨j,hj⟩
  ·have:=hK b hb;omega
  ·exact h9 b hb j hj
 ·rcases hS with h|⟨id,hid⟩|h
  ·exact KJ h.1
  ·exact Sl id l hid rfl
  ·omega
 ·rcases hS with h|⟨id,hid⟩|h
  ·exact Jn h.1
  ·exact VS (Nt id r hid).1
  ·have:=hM.hr;omega
 ·exact fK
 ·have cS:r≠l:=hM.rl
  refine (E9 r (by have:=hM.hr;omega) (fun ⟨id,hid⟩=>Jn (own id r hid).1) cS).trans hM.ke
 ·refine E9 b (hK b hb) (fun ⟨id,hid⟩=>h9 b hb id hid) fun e=>hM.Kl (e ▸ hb)
end
def Ns:Code->Option (Operand×Array Tmp×Code×Code)
 | .rangeFunc g ps x b=>some (g,ps,x,b)
 | _=>none
def Lc:List (Nat×Nat)->AS->AS
 | [],s=>s
 | (x,y):: ρ,s=>Lc ρ (rename x y (ck y s))
def lS:List (Nat×Nat)->AS->AS
 | [],s=>s
 | (x,y):: ρ,s=>lS ρ (rename y x (ck x s))
def nX:List (Nat×Nat)->Bool
 | []=>true
 | (x,y):: ρ =>match Nat.ble x 999999999999,Nat.ble 1000000000000 y with|true,true=>nX ρ |_,_=>false
section
variable {n:Nat} {a:Act} {w w0:World}
theorem Ih:∀(ρ :List (Nat×Nat)) (s:AS) (Z:bn) (φ:Nat->Option Nat),nX ρ =true->aI Z w0 n [] s a w φ-> ∃fx b_,aI ⟨Z.S,Z.X,fx,Z.tq⟩ w0 n [] (Lc ρ s) a w b_∧(∀i,i ∉ ρ.map (·.2)->fx i=Z.fix i)∧(∀id g,b_ id=some g->l_ φ g)
 | [],s,Z,φ,_,h=>⟨Z.fix,φ,h,fun _ _=>rfl,fun id g hg=>⟨id,hg⟩⟩
 | (x,y):: ρ,s,Z,φ,hp,h=>by
  simp only [nX] at hp
  split at hp
  ·rename_i hx hy
   have hx:=Nat.le_of_ble_eq_true hx
   have hy:=Nat.le_of_ble_eq_true hy
   have h1:=h.mT y
   let Z2:bn:=⟨Z.S,Z.X,fun i=>if i=y then erase φ y x else Z.fix i,Z.tq⟩
   have h2:aI Z2 w0 n [] (ck y s) a w (erase φ y):=⟨h1.j8,h1.ke,⟨h1.da.os,h1.da.tape,h1.da.output,h1.da.size,h1.da.block,h1.da.g0,h1.da.gx⟩,h1.cC,h1.rows,h1.only,h1.inj,fun id g hg=>⟨⟨(h1.cY id g hg).1.1.imp (fun h=>h) fun hf=>by
     show (if id=y then erase φ y x else Z.fix id)=some g
     have cS:id≠y:=fun e=>by subst e;unfold erase at hg;rw [if_pos rfl] at hg;cases hg
     rw [if_neg cS];exact hf,(h1.cY id g hg).1.2⟩,(h1.cY id g hg).2⟩,h1.apart,h1.new⟩
   have h3:=h2.EJ x y (.inr fun g hg=>by show (if y=y then erase φ y x else Z.fix y)=some g;rw [if_pos rfl];exact hg) ag (du y)
   obtain ⟨fx,b_,h4,h5,h6⟩:=Ih ρ _ Z2 _ hp h3
   refine ⟨fx,b_,h4,fun i hi=>?_,fun id g hg=>?_⟩
   ·simp only [List.map_cons,List.mem_cons,not_or] at hi
    rw [h5 i hi.2]
    show (if i=y then erase φ y x else Z.fix i)=Z.fix i
    rw [if_neg hi.1]
   ·obtain ⟨j,hj⟩:=h6 id g hg
    unfold A8 erase at hj
    split at hj
    ·split at hj
     ·cases hj
     ·exact ⟨_,hj⟩
    ·split at hj
     ·cases hj
     ·exact ⟨_,hj⟩
  ·cases hp
theorem AK {Z:bn}:∀(ρ :List (Nat×Nat)) (s:AS) (φ:Nat->Option Nat),nX ρ =true->aI Z w0 n [] s a w φ-> ∃ b_,aI Z w0 n [] (lS ρ s) a w b_∧(∀id g,b_ id=some g->l_ φ g)∧(∀id,1000000000000≤id->id∈ ρ.map (·.2)∨φ id=none->b_ id=none)
 | [],s,φ,_,h=>⟨φ,h,fun id g hg=>⟨id,hg⟩,fun id _ hid=>hid.resolve_left (by simp)⟩
 | (x,y):: ρ,s,φ,hp,h=>by
  simp only [nX] at hp
  split at hp
  ·rename_i hx hy
   have hx:=Nat.le_of_ble_eq_true hx
   have hy:=Nat.le_of_ble_eq_true hy
   have h1:=h.mT x
   have h3:=h1.EJ y x (.inl ag) ag (du x)
   obtain ⟨b_,h4,h5,h6⟩:=AK ρ _ _ hp h3
   refine ⟨b_,h4,fun id g hg=>?_,fun id hid ub=>h6 id hid ?_⟩
   ·obtain ⟨j,hj⟩:=h5 id g hg
    unfold A8 erase at hj
    split at hj
    ·split at hj
     ·cases hj
     ·exact ⟨_,hj⟩
    ·split at hj
     ·cases hj
     ·exact ⟨_,hj⟩
   ·have key:(id=y∨φ id=none)->A8 y x (erase φ x) id=none:=by
     intro ub
     unfold A8 erase
     rw [if_neg ag]
     rcases ub with e|e
     ·rw [if_pos e]
     ·split
      ·rfl
      ·rw [if_neg ag];exact e
    rcases ub with ub|ub
    ·simp only [List.map_cons,List.mem_cons] at ub
     rcases ub with ub|ub
     ·exact .inr (key (.inl ub))
     ·exact .inl ub
    ·exact .inr (key (.inr ub))
  ·cases hp
end
def En (op:List (Value×AV)) (s s1:AS):Prop:=∀Z w0 n a w φ,aI Z w0 n [] s a w φ->(∀p∈op,cz (aP Z w φ []) w p.1 p.2)->aI Z w0 n [] s1 a w φ
def RQ (op:List (Value×AV)) (Q:Exit->AS->Prop) (ρ :List (Nat×Nat)) (F:List (Nat×AV)) (H:List (Nat×Row)):Exit->AS->Prop
 | .normal,s'=>bQ s' ⟨[],H⟩
 | .exit id,s'=>∃X s1,jQ X∧C4 X F=true∧bQ s' ⟨[],X⟩∧En op ⟨F,X⟩ s1∧Q (.exit id) (lS ρ s1)
 | .ret,s'=>∃X s1,jQ X∧C4 X F=true∧bQ s' ⟨[],X⟩∧En op ⟨F,X⟩ s1∧Q .ret (lS ρ s1)
 | _,_=>False
def Ku (op:List (Value×AV)) (Q:Exit->AS->Prop) (ρ :List (Nat×Nat)) (s:AS) (c:Code):Prop:=∃s1,En op s s1∧((∃id,c= .exit id∧Q (.exit id) (lS ρ s1))∨(c= .ret∧Q .ret (lS ρ s1)))
section
variable {op:List (Value×AV)} {P:Program} {S0:bn} {w0:World} {n:Nat} {tm:Array Value} {fx:Nat->Option Nat} {r l:Nat} {we:World} {Q:Exit->AS->Prop} {ρ :List (Nat×Nat)}
theorem Gf {fn:FuncId} {ps:Array Tmp} {x bd:Code} {F:List (Nat×AV)} {H H':List (Nat×Row)} {As:List AV} {O K:Nat->Prop} {w1:World} {vs:List Value}
  (hM:FH op S0 w0 n tm fx r l we {state:=.ready,pending:=none,fn:=fn,tmps:=tm,params:=ps,assign:=x,body:=bd,defers:=r} ⟨F,H⟩ O K w1) (Pm:∀b,O b->K b) (hK:∀b,K b->b<w1.heap.size)
  (hl:vs.length=As.length) (hd:∀(j:Nat) v x,vs[j]?=some v->As[j]?=some x->cz K w1 v x) (Qq:ps.toList.length=As.length) (Qt:∀p∈ps.toList,p<n) (LL:lu x=true) (QR:lu bd=true)
  (hA:bg P n x (sK (bg P n bd (RQ op Q ρ F H')) (fun _ _=>False)) (Ib ps.toList As ⟨F,H⟩)) (WE:jQ H') (hF:Pw F H) (WI:Pw F H') :
  pb P l vs w1 fun t w2=>Good w2∧w1.heap.size≤w2.heap.size∧(∀b,K b->w2.heap[b]?=w1.heap[b]?) ∧
   (t=true->FH op S0 w0 n tm fx r l we {state:=.ready,pending:=none,fn:=fn,tmps:=tm,params:=ps,assign:=x,body:=bd,defers:=r} ⟨F,H'⟩ O K w2) ∧
   (t=false-> ∃X c,FH op S0 w0 n tm fx r l we {state:=.done,pending:=some c,fn:=fn,tmps:=tm,params:=ps,assign:=x,body:=bd,defers:=r} ⟨F,X⟩ O K w2∧Ku op Q ρ ⟨F,X⟩ c):=by
 obtain ⟨wb,φ,Z,h1,h2,h3,h4,h5,h6,h7,h8,h9,KJ,Jn,Oo⟩:=hM.ex
 have own:∀id g,φ id=some g->Z.S g∧g<wb.heap.size:=fun id g hg=>⟨h1.new g (h1.cY id g hg).1.2,(h1.cY id g hg).2⟩
 have MG:l<w1.heap.size:=by have:=hM.hl;omega
 have oS:¬l_ φ l:=fun ⟨id,hid⟩=>KJ (own id l hid).1
 have UO:¬l_ φ r:=fun ⟨id,hid⟩=>Jn (own id r hid).1
 refine ⟨_,_,_,_,run_yield hM.H_ (by simp [hl,←Qq]),?_⟩
 refine roundIn_of_wpIn trivial ?_
 let Z1:bn:=⟨fun b=>(Z.S b∧b<wb.heap.size)∨w1.heap.size≤b∨K b,l_ φ,fx,[]⟩
 have Hj:¬Z1.S l:=fun h=>by
  rcases h with h|h|h
  ·exact KJ h.1
  ·omega
  ·exact hM.Kl h
 have Ql:¬Z1.S r:=fun h=>by
  rcases h with h|h|h
  ·exact Jn h.1
  ·have:=hM.hr;omega
  ·exact hM.Kr h
 have Qw:∀b,(w1.heap.size≤b∨l_ φ b)->Z1.S b:=fun b hb=>hb.elim (fun h=>.inr (.inl h)) fun ⟨id,hid⟩=>.inl (own id b hid)
 have s1:aI Z1 w1 n [] ⟨F,H⟩ ⟨tm,[]⟩ w1 φ:=h1.rM h4 (fun b hb cW=>h5 b hb cW) (fun b hb cW=>.inl ⟨hb,cW⟩) Qw (fun id g hg=>⟨id,hg⟩) (fun id g hg=>by
  rcases (h1.cY id g hg).1.1 with h|h
  ·exact .inl h
  ·right;show fx id=some g;rw [←h2];exact h) rfl rfl hM.kept.ng (fun b hb=>h1.tD hb)
 have s2:=xF ps.toList vs As ⟨F,H⟩ ⟨tm,[]⟩ s1 hl Qt fun j v x hv hx=>.rep ((hd j v x hv hx).mono fun b hb=>⟨⟨hK b hb,by simp,h9 b hb,.inr (.inr hb)⟩,rfl⟩)
 have e0:((ps.zip vs.toArray).foldl (fun (t:Array Value) (p:Tmp×Value)=>t.setIfInBounds p.1 p.2) tm)=((ps.toList.zip vs).foldl (fun t p=>t.setIfInBounds p.1 p.2) tm):=by
  rw [←Array.foldl_toList];simp
 have hx:=hA Z1 w1 _ w1 ⟨φ,s2⟩
 have e1:({tmps:=((ps.zip vs.toArray).foldl (fun (t:Array Value) (p:Tmp×Value)=>t.setIfInBounds p.1 p.2) tm),defers:=[]}:Act)=⟨(ps.toList.zip vs).foldl (fun t p=>t.setIfInBounds p.1 p.2) tm,[]⟩:=by rw [e0]
 show x.wpIn (Fence.wide.inRound l) 0 P _ ({tmps:=((ps.zip vs.toArray).foldl (fun (t:Array Value) (p:Tmp×Value)=>t.setIfInBounds p.1 p.2) tm),defers:=[]}:Act) w1
 rw [e1]
 refine iN (ro:=some l) x _ _ _ LL (by rintro ⟨_,_,h⟩;exact h) (eG x _ _ (fun e a1 Mk ⟨s',hq,bY⟩=>?_) _ _ hx)
 cases e with
 | normal =>
  obtain ⟨S1,Xf,ms,hE,iM,gG⟩:=bY
  have k1:=hE.kept.trans gG.da hE.X
  have Qk:=(k1.block l MG oS).trans hM.H_
  refine ⟨_,run_beginRound Qk rfl,?_⟩
  generalize My:Mk.putObj l _=w2
  have Gn:w2.heap.size=Mk.heap.size:=by rw [←My];exact World.putObj_size
  have Fb:∀b,b≠l->w2.heap[b]?=Mk.heap[b]?:=fun b hb=>by rw [←My];exact World.putObj_heap_other hb
  have Qj:w2.heap[l]?=some (.loop {state:=.busy,pending:=none,fn:=fn,tmps:=tm,params:=ps,assign:=x,body:=bd,defers:=r}):=by rw [←My];exact World.putObj_heap_same (Nat.lt_of_lt_of_le MG k1.size)
  have PQ:∀id g,iM id=some g->S1.S g∧g<Mk.heap.size:=fun id g hg=>⟨gG.new g (gG.cY id g hg).1.2,(gG.cY id g hg).2⟩
  have Og:∀b,S1.S b->b≠l:=fun b hb e=>Hj (hE.sub l (e ▸ hb))
  have PH:∀id g,iM id=some g->w1.heap.size≤g∨l_ φ g:=fun id g hg=>by
   rcases (gG.cY id g hg).1.2 with h|h
   ·exact .inl (Nat.le_trans hE.kept.size h)
   ·exact hE.X g h
  let Z2:bn:=⟨fun b=>(S1.S b∧b<Mk.heap.size)∨w2.heap.size≤b,l_ iM,fx,a1.defers⟩
  have s3:aI Z2 w2 n [] s' a1 w2 iM:=gG.rM ag (fun b hb _=>Fb b (Og b hb)) (fun b hb cW=>.inl ⟨hb,cW⟩) (fun b hb=>hb.elim .inr fun ⟨id,hid⟩=>.inl (PQ id b hid)) (fun id g hg=>⟨id,hg⟩) (fun id g hg=>by
   rcases (gG.cY id g hg).1.1 with h|h
   ·exact .inl h
   ·right;show fx id=some g;rw [hE.fix] at h;exact h) rfl rfl (gG.da.ng.aa fun b hb=>Fb b fun e=>hM.kept.tD (.inl hM.O4) (e ▸ hb)) (fun b hb=>gG.tD hb)
  have hb:=hq Z2 w2 a1 w2 ⟨iM,s3⟩
  refine iN (ro:=some l) bd _ _ _ QR (by rintro ⟨_,_,h⟩;exact h) (eG bd _ _ (fun e a3 w3 ⟨Vp,RF,RD⟩=>?_) _ _ hb)
  obtain ⟨S3,Sa,Xu,On,wQ,RD⟩:=RD
  have k3:=On.kept.trans RD.da On.X
  have SU:¬l_ iM l:=fun ⟨id,hid⟩=>Og l (PQ id l hid).1 rfl
  have I5:=(k3.block l (by rw [Gn];exact Nat.lt_of_lt_of_le MG k1.size) SU).trans Qj
  have Lt:w1.heap.size≤w3.heap.size:=Nat.le_trans k1.size (by rw [←Gn];exact k3.size)
  have BO:∀b,b<w1.heap.size-> ¬l_ φ b->b≠l->w3.heap[b]?=w1.heap[b]?:=fun b cW hn cS =>
   (k3.block b (by rw [Gn];exact Nat.lt_of_lt_of_le cW k1.size) fun ⟨id,hid⟩=>(PH id b hid).elim (fun h=>ag) hn).trans ((Fb b cS).trans (k1.block b cW hn))
  have I7:w2.os=Mk.os∧w2.tape=Mk.tape∧w2.output=Mk.output:=by rw [←My];exact ⟨rfl,rfl,rfl⟩
  have TL:¬S3.S l:=fun h=>(On.sub l h).elim (fun h=>Og l h.1 rfl) fun h=>by have:=k1.size;omega
  have TK:¬S3.S r:=fun h=>(On.sub r h).elim (fun h=>Ql (hE.sub r h.1)) fun h=>by have:=k1.size;have:=hM.hr;omega
  have next:∀(X:List (Nat×Row)) (qb:Loop),bQ Vp ⟨[],X⟩->jQ X->Pw F X->FH op S0 w0 n tm fx r l we qb ⟨F,X⟩ O K (w3.putObj l (.loop qb))∧(∀b,K b->(w3.putObj l (.loop qb)).heap[b]?=w1.heap[b]?):=by
   intro X qb hw hX TX
   obtain ⟨tS,Gq⟩:=hw S3 Sa n a3 w3 ⟨wQ,RD⟩
   exact Iv hM Pm hK h1 h2 h3 h4 h5 h6 h7 h8 h9 KJ Jn Oo Gq On.fix (fun id g hg=>by
    rcases (Gq.cY id g hg).1.2 with h|h
    ·left;have:=On.kept.size;have:=k1.size;omega
    ·rcases On.X g h with h|⟨j,hj⟩
     ·left;have:=k1.size;omega
     ·exact PH j g hj) TL TK (k3.os.trans (I7.1.trans k1.os)) (k3.tape.trans (I7.2.1.trans k1.tape)) (k3.output.trans (I7.2.2.trans k1.output)) Lt BO hX hF TX
  cases e with
  | normal =>
   obtain ⟨g1,g2⟩:=next H' {state:=.ready,pending:=none,fn:=fn,tmps:=tm,params:=ps,assign:=x,body:=bd,defers:=r} RF WE WI
   exact ⟨_,_,run_endRound none I5,true,rfl,g1.kept.ng,by rw [World.putObj_size];exact Lt,g2,fun _=>g1,fun h=>(by cases h)⟩
  | exit id =>
   obtain ⟨X,s1,q1,q2,q3,q5,q4⟩:=RF
   obtain ⟨g1,g2⟩:=next X {state:=.done,pending:=some (.exit id),fn:=fn,tmps:=tm,params:=ps,assign:=x,body:=bd,defers:=r} q3 q1 (qy q2)
   exact ⟨_,_,run_endRound (some (.exit id)) I5,false,rfl,g1.kept.ng,by rw [World.putObj_size];exact Lt,g2,fun h=>(by cases h),fun _=>⟨X,.exit id,g1,s1,q5,.inl ⟨id,rfl,q4⟩⟩⟩
  | ret =>
   obtain ⟨X,s1,q1,q2,q3,q5,q4⟩:=RF
   obtain ⟨g1,g2⟩:=next X {state:=.done,pending:=some .ret,fn:=fn,tmps:=tm,params:=ps,assign:=x,body:=bd,defers:=r} q3 q1 (qy q2)
   exact ⟨_,_,run_endRound (some .ret) I5,false,rfl,g1.kept.ng,by rw [World.putObj_size];exact Lt,g2,fun h=>(by cases h),fun _=>⟨X,.ret,g1,s1,q5,.inr ⟨rfl,q4⟩⟩⟩
  | _=>exact RF.elim
 | _=>exact hq.elim
theorem EU {rc:Loop} {s s1:AS} {O K:Nat->Prop} {w':World} {a a':Act} (hM:FH op S0 w0 n a.tmps fx r l we rc s O K w') (ND :nX ρ =true) (Wg:∀i,i ∉ ρ.map (·.2)->fx i=S0.fix i) (SK:w0.heap.size≤r) (ht:a'.tmps=a.tmps) (hd:a'.defers=mark r::S0.tq) (fi:En op s s1) (qb:Loop) :
  nA S0 w0 n (lS ρ s1) a' (w'.putObj l (.loop qb)):=by
 obtain ⟨wb,φ,Z,h1,h2,h3,h4,h5,h6,h7,h8,h9,KJ,Jn,Oo⟩:=hM.ex
 obtain ⟨b_,u1,u2,u3⟩:=AK ρ _ _ ND (fi _ _ _ _ _ _ h1 Oo)
 have MG:l<w'.heap.size:=by have:=hM.hl;omega
 have dv:(w'.putObj l (.loop qb)).heap.size=w'.heap.size:=World.putObj_size
 have ho:∀b,b≠l->(w'.putObj l (.loop qb)).heap[b]?=w'.heap[b]?:=fun b hb=>World.putObj_heap_other hb
 have own:∀id g,b_ id=some g->Z.S g∧g<wb.heap.size:=fun id g hg=>⟨u1.new g (u1.cY id g hg).1.2,(u1.cY id g hg).2⟩
 let S1:bn:=⟨fun b=>(Z.S b∧b<wb.heap.size)∨w'.heap.size≤b,l_ b_,S0.fix,mark r::S0.tq⟩
 have hs:aI S1 (w'.putObj l (.loop qb)) n [] (lS ρ s1) a' (w'.putObj l (.loop qb)) b_:=u1.rM (by rw [dv];exact h4) (fun b hb cW=>(ho b fun e=>KJ (e ▸ hb)).trans (h5 b hb cW)) (fun b hb cW=>.inl ⟨hb,cW⟩) (fun b hb=>by
   rcases hb with h|⟨id,hid⟩
   ·right;rw [dv] at h;exact h
   ·exact .inl (own id b hid)) (fun id g hg=>⟨id,hg⟩) (fun id g hg=>by
  rcases Nat.lt_or_ge id 1000000000000 with h|h
  ·exact .inl h
  ·right
   rcases (u1.cY id g hg).1.1 with h'|h'
   ·omega
   ·show S0.fix id=some g
    have gr:id ∉ ρ.map (·.2):=fun hm=>(by rw [u3 id h (.inl hm)] at hg;cases hg)
    rw [←Wg id gr,←h2];exact h') ht hd (hM.kept.ng.aa fun b hb=>ho b fun e=>hM.kept.tD (.inl hM.O4) (e ▸ hb)) (fun b hb=>u1.tD hb)
 refine ⟨S1,w'.putObj l (.loop qb),[r],⟨⟨hM.kept.os,hM.kept.tape,hM.kept.output,by rw [dv];exact hM.kept.size,fun k hk hx=>(ho k fun e=>by have:=hM.O4;omega).trans (hM.kept.block k hk hx),hM.kept.g0,hM.kept.gx⟩,fun b hb=>?_,fun b ⟨id,hid⟩=>?_,rfl,rfl,by simp,fun r' iH=>?_⟩,b_,hs⟩
 ·rcases hb with h|h
  ·exact h6 b h.1 h.2
  ·exact hM.Lh b (Nat.le_trans hM.kept.size h)
 ·obtain ⟨j,hj⟩:=u2 id b hid
  exact h7 j b hj
 ·obtain rfl:r'=r:=by simpa using iH
  refine ⟨SK,by rw [dv];have:=hM.hr;omega,(ho _ hM.rl).trans hM.ke,fun h=>?_,fun ⟨id,hid⟩=>Jn (own id _ hid).1⟩
  rcases h with h|h
  ·exact Jn h.1
  ·have:=hM.hr;omega
theorem bg.range {c:Code} {s:AS} {g:Operand} {ps:Array Tmp} {x bd:Code} (hc:Ns c=some (g,ps,x,bd)) {f:Nat} {l8:List AV} (A:Nat->List AV) (N:Nat) (hit:ye P f l8 A N) (hE:gV P f=true) (LL:lu x=true) (QR:lu bd=true)
  (ρ :List (Nat×Nat)) (ND :nX ρ =true) (xs:List AV) (F:List (Nat×AV)) (I:List Value->Nat->List (Nat×Row)) (sN:AS)
  (hw:∀Z w0 a w φ,aI Z w0 n [] (Lc ρ s) a w φ-> ∃ kq vs,vs.length=xs.length∧aI Z w0 n [] ⟨F,I vs 0⟩ a w kq∧ ∀p∈vs.zip xs,cz (aP Z w kq []) w p.1 p.2) (hg:∀vs,vs.length=xs.length->bq ⟨F,I vs 0⟩ g= .mI f l8) (Qq:∀i,ps.toList.length=(A i).length) (Qt:(ps.toList.all fun p=>Nat.blt p n)=true)
  (hI:∀vs i,vs.length=xs.length->i≤N->jQ (I vs i)∧C4 (I vs i) F=true) (pS:∀vs i,vs.length=xs.length->i<N->bg P n x (sK (bg P n bd (RQ (vs.zip xs) Q ρ F (I vs (i+1)))) (fun _ _=>False)) (Ib ps.toList (A i) ⟨F,I vs i⟩)) (fi:∀vs,vs.length=xs.length->En (vs.zip xs) ⟨F,I vs N⟩ sN) (NY:Q .normal (lS ρ sN)):bg P n c Q s:=by
 cases c with
 | rangeFunc g' Xt x' X3 =>
  cases hc
  intro S0 w0 a w ⟨φ,hs⟩
  show (Code.rangeFunc g ps x bd).wp P _ a w
  refine wpIn_wide.1 (wpIn_rangeFunc (n:=0) fun fn _=>?_)
  obtain ⟨fx,iM,Qu,O9,-⟩:=Ih ρ s S0 φ ND hs
  obtain ⟨kq,us,At,nv,uc⟩:=hw _ _ _ _ _ Qu
  have dg:=nv.bq g
  rw [hg us At] at dg
  obtain ⟨cv,hv,Hj,Dj⟩:=EI dg
  generalize O7:(w.alloc (.deferred (some []))).alloc (.loop {state:=.ready,pending:=none,fn:=fn,tmps:=a.tmps,params:=ps,assign:=x,body:=bd,defers:=w.heap.size})=we
  have dv:we.heap.size=w.heap.size+2:=by rw [←O7];simp
  have hold:∀b,b<w.heap.size->we.heap[b]?=w.heap[b]?:=fun b hb=>by
   rw [←O7,Below.heap_alloc _ _ _ (by simp;omega),Below.heap_alloc _ _ _ hb]
  have UO:we.heap[w.heap.size]?=some (.deferred (some [])):=by rw [←O7,Below.heap_alloc _ _ _ (by simp)];exact World.alloc_heap_new w _
  have oS:we.heap[w.heap.size+1]?=some (.loop {state:=.ready,pending:=none,fn:=fn,tmps:=a.tmps,params:=ps,assign:=x,body:=bd,defers:=w.heap.size}):=by
   rw [←O7]
   have:=World.alloc_heap_new (w.alloc (.deferred (some []))) (.loop {state:=.ready,pending:=none,fn:=fn,tmps:=a.tmps,params:=ps,assign:=x,body:=bd,defers:=w.heap.size})
   rw [World.size_alloc] at this;exact this
  have Sy:we.os=w.os∧we.tape=w.tape∧we.output=w.output:=by rw [←O7];exact ⟨rfl,rfl,rfl⟩
  refine ⟨w.heap.size+1,[mark w.heap.size],we,{target:=.fn (.func f) cv.toArray,args:= #[.func (.yield (w.heap.size+1)) #[] #[]]},we,f,(Value.func (.yield (w.heap.size+1)) #[] #[]::cv).toArray,we,?_,?_,fun _ _=>trivial,?_,fun h=>by simp [Fence.wide] at h,?_⟩
  ·rw [←O7];exact run_enterLoop_outer fn a.tmps ps x bd
  ·have ec:a.eval (.const (Value.func (.yield (w.heap.size+1)) #[] #[]))=Value.func (.yield (w.heap.size+1)) #[] #[]:=rfl
   unfold resolve;simp [hv,ec,Deferred.ofValue]
  ·have e:(Value.func (.yield (w.heap.size+1)) #[] #[]::cv).toArray= #[Value.func (.yield (w.heap.size+1)) #[] #[]]++cv.toArray:=by apply Array.ext';simp
   rw [e]
   exact pR hE _ _
  ·refine callsIn_wide.2 ?_
   have wM:w0.heap.size≤w.heap.size:=nv.da.size
   have Sf:∀id g,kq id=some g->S0.S g∧g<w.heap.size:=fun id g hg=>⟨nv.new g (nv.cY id g hg).1.2,(nv.cY id g hg).2⟩
   let Z:bn:=⟨fun b=>(S0.S b∧b<w.heap.size)∨we.heap.size≤b,l_ kq,fx,[]⟩
   have hZ:aI Z we n [] ⟨F,I us 0⟩ ⟨a.tmps,[]⟩ we kq:=nv.rM ag (fun b _ cW=>hold b cW) (fun b hb cW=>.inl ⟨hb,cW⟩) (fun b hb=>hb.elim .inr fun ⟨id,hid⟩=>.inl (Sf id b hid)) (fun id g hg=>⟨id,hg⟩) (fun id g hg=>(nv.cY id g hg).1.1) rfl rfl (nv.da.ng.aa fun b hb=>hold b (nv.da.ng.lt hb)) (fun b hb=>nv.tD hb)
   have WB:FH (us.zip xs) S0 w0 n a.tmps fx w.heap.size (w.heap.size+1) we {state:=.ready,pending:=none,fn:=fn,tmps:=a.tmps,params:=ps,assign:=x,body:=bd,defers:=w.heap.size} ⟨F,I us 0⟩ (fun _=>False) (aP ⟨S0.S,S0.X,fx,S0.tq⟩ w kq []) we:=by
    refine ⟨⟨we,kq,Z,hZ,rfl,Nat.le_refl _,Nat.le_refl _,fun _ _ _=>rfl,fun b hb cW=>?_,fun id g hg=>(nv.cY id g hg).1.2,fun _ h=>h.elim,fun b hb=>hb.2.2.1,fun h=>?_,fun h=>?_,fun p hp=>(uc p hp).mono fun b hb=>⟨⟨by rw [dv];have:=hb.1;omega,by simp,hb.2.2.1,.inl ⟨hb.2.2.2,hb.1⟩⟩,hold b hb.1⟩⟩,?_,ag,fun _ h=>h.elim,ag,ag,fun h=>?_,oS,fun b hb=>nv.new b (.inl hb),ag,ag,fun h=>?_,UO⟩
    ·rcases hb with h|h
     ·exact h.1
     ·omega
    ·rcases h with h|h<;>omega
    ·rcases h with h|h<;>omega
    ·exact ⟨Sy.1.trans nv.da.os,Sy.2.1.trans nv.da.tape,Sy.2.2.trans nv.da.output,ag,fun k hk hx=>(hold k ag).trans (nv.da.block k hk hx),nv.da.g0,nv.da.gx⟩
    ·have:=h.1;omega
    ·have:=h.1;omega
   have la:=hit (w.heap.size+1) we (aP ⟨S0.S,S0.X,fx,S0.tq⟩ w kq []) cv
    (fun i=>FH (us.zip xs) S0 w0 n a.tmps fx w.heap.size (w.heap.size+1) we {state:=.ready,pending:=none,fn:=fn,tmps:=a.tmps,params:=ps,assign:=x,body:=bd,defers:=w.heap.size} ⟨F,I us i⟩)
    (fun O K w'=>∃X c,FH (us.zip xs) S0 w0 n a.tmps fx w.heap.size (w.heap.size+1) we {state:=.done,pending:=some c,fn:=fn,tmps:=a.tmps,params:=ps,assign:=x,body:=bd,defers:=w.heap.size} ⟨F,X⟩ O K w'∧Ku (us.zip xs) Q ρ ⟨F,X⟩ c)
    hZ.da.ng (fun b hb=>by have:=hb.1;omega) Hj (fun j v c hv hc=>(Dj j v c hv hc).mono fun b hb=>⟨hb,hold b hb.1⟩) (fun i=>FH.HK)
    (fun O K w' O' K' fJ ⟨X,c,hX,hc⟩ st h1 h2=>⟨X,c,FH.HK O K w' O' K' fJ hX st h1 h2,hc⟩)
    (fun i hi O K w1 vs hJ Pm hK hl hd=>Gf hJ Pm hK hl hd (Qq i) (fun p hp=>Nat.le_of_ble_eq_true (List.all_eq_true.1 Qt p hp)) LL QR (pS us i At hi) (hI us (i+1) At hi).1 (qy (hI us i At (Nat.le_of_lt hi)).2) (qy (hI us (i+1) At hi).2)) WB
   refine la.mono fun e w' ⟨v,O,K,he,ub⟩=>?_
   subst he
   rcases ub with hM|⟨X,c,hM,s1,U4,hj⟩
   ·exact ⟨_,_,run_endLoop hM.H_ (by simp),_,NY,EU (a:=a) (a':={a with defers:=[mark w.heap.size]++a.defers}) hM ND O9 wM rfl (by show mark w.heap.size::a.defers=_;rw [hs.ke]) (fi us At) _⟩
   ·refine ⟨_,_,run_endLoop hM.H_ (by simp),?_⟩
    have kA:=EU (a:=a) (a':={a with defers:=[mark w.heap.size]++a.defers}) hM ND O9 wM rfl (by show mark w.heap.size::a.defers=_;rw [hs.ke]) U4
    rcases hj with ⟨id,rfl,hq⟩|⟨rfl,hq⟩
    ·exact wpIn_exit ⟨_,hq,kA _⟩
    ·exact wpIn_ret ⟨_,hq,kA _⟩
 | _=>cases hc
end
def It (n:Nat) (J:(Nat->Prop)->(Nat->Prop)->World->Prop) (s:AS) (a:Act) (w:World):Prop :=
 ∃(wb:World) (Z:bn) (φ:Nat->Option Nat) (ms:List Nat),aI Z wb n [] s a w φ∧Z.tq=ms.map mark∧ms.Nodup∧(∀r∈ms,r<w.heap.size∧w.heap[r]?=some (.deferred (some []))∧ ¬Z.S r)∧J (fun b=>l_ φ b∨b∈ms) (fun b=>(Z.S b∨b∈ms)∧b<w.heap.size) w
section
variable {P:Program} {n:Nat} {J:(Nat->Prop)->(Nat->Prop)->World->Prop} {s s':AS} {a:Act} {w:World} {Q:Exit->Act->World->Prop}
theorem It.begin (h:It n J s a w) (hJ:kf J):∃Z:bn,ie Z w n s a w∧ ∀(s':AS) (a':Act) (w':World),nA Z w n s' a' w'->It n J s' a' w':=by
 obtain ⟨wb,Z,φ,ms,h1,h2,h3,h4,h5⟩:=h
 have own:∀id g,φ id=some g->Z.S g∧g<w.heap.size:=fun id g hg=>⟨h1.new g (h1.cY id g hg).1.2,(h1.cY id g hg).2⟩
 let Z':bn:=⟨fun b=>(Z.S b∧b<w.heap.size)∨w.heap.size≤b,l_ φ,φ,Z.tq⟩
 have hs:aI Z' w n [] s a w φ:=h1.rM (Nat.le_refl _) (fun _ _ _=>rfl) (fun b hb cW=>.inl ⟨hb,cW⟩) (fun b hb=>hb.elim .inr fun ⟨id,hid⟩=>.inl (own id b hid)) (fun id g hg=>⟨id,hg⟩) (fun id g hg=>.inr hg) rfl h1.ke h1.da.ng (fun b hb=>h1.tD hb)
 refine ⟨Z',⟨φ,hs⟩,fun s' a' w' ⟨S1,w1,Rw,hE,b_,bY⟩=>?_⟩
 have k:=hE.kept.trans bY.da hE.X
 have V2:∀r∈ms,¬l_ φ r:=fun r hr ⟨id,hid⟩=>(h4 r hr).2.2 (own id r hid).1
 refine ⟨w1,S1,b_,Rw++ms,bY,by rw [hE.tq,List.map_append];exact congrArg _ h2,?_,fun r hr=>?_,hJ _ _ _ _ _ _ h5 ⟨k.os,k.tape,k.output,k.size,fun b hb hn=>k.block b hb fun h=>hn (.inl h)⟩ (fun b hb=>?_) fun b hb=>?_⟩
 ·rw [List.nodup_append]
  refine ⟨hE.nodup,h3,fun r hr r' iH e=>?_⟩
  subst e
  have:=(hE.marks r hr).1
  have:=(h4 r iH).1
  omega
 ·rcases List.mem_append.1 hr with hr|hr
  ·obtain ⟨u1,u2,u3,u4,u5⟩:=hE.marks r hr
   exact ⟨Nat.lt_of_lt_of_le u2 bY.da.size,(bY.da.block r u2 u5).trans u3,u4⟩
  ·obtain ⟨u1,u2,u3⟩:=h4 r hr
   refine ⟨Nat.lt_of_lt_of_le u1 k.size,(k.block r u1 (V2 r hr)).trans u2,fun h=>?_⟩
   rcases hE.sub r h with h|h
   ·exact u3 h.1
   ·omega
 ·rcases hb with ⟨id,hid⟩|hb
  ·rcases (bY.cY id b hid).1.2 with h|h
   ·right;have:=hE.kept.size;omega
   ·exact (hE.X b h).elim .inr fun h=>.inl (.inl h)
  ·rcases List.mem_append.1 hb with hb|hb
   ·exact .inr (hE.marks b hb).1
   ·exact .inl (.inr hb)
 ·obtain ⟨hb,cW⟩:=hb
  rcases hb with hb|hb
  ·rcases hE.sub b hb with h|h
   ·exact .inl ⟨.inl h.1,h.2⟩
   ·exact .inr h
  ·rcases List.mem_append.1 hb with hb|hb
   ·exact .inr (hE.marks b hb).1
   ·exact .inl ⟨.inr hb,(h4 b hb).1⟩
theorem It.Un {c:Code} {Qs:Exit->AS->Prop} (h:It n J s a w) (hJ:kf J) (hc:bg P n c Qs s):CD P c (fun e a' w'=>∃s',Qs e s'∧It n J s' a' w') a w:=by
 obtain ⟨Z,hs,BQ⟩:=h.begin hJ
 exact eG _ _ _ (fun e a' w' ⟨s',hq,bY⟩=>⟨s',hq,BQ s' a' w' bY⟩) _ _ (hc Z w a w hs)
theorem It.nL (h:It n J s a w) (hJ:kf J) (hw:bQ s s'):It n J s' a w:=by
 obtain ⟨Z,hs,BQ⟩:=h.begin hJ
 exact BQ _ _ _ (hw _ _ _ _ _ hs).one
theorem It.ops {ops:List Oper} {hs:List (Nat×Hint)} {l:List Oper} {i:Nat} {C:List Prop} (h:It n J s a w) (hJ:kf J) (he:kp P n ops hs l i s=some (s',C)) (hC:bx C) (hQ:∀a' w',It n J s' a' w'->Q .normal a' w'):wpList P ops.toArray Q l a w:=by
 obtain ⟨Z,hs,BQ⟩:=h.begin hJ
 exact j0 (S0:=Z) (w0:=w) _ _ _ _ _ he hC a w hs fun a' w' bY=>hQ a' w' (BQ _ _ _ bY.one)
theorem fw {F:Fence} {m:Nat} {ops:Array Oper}:∀(l1 l2:List Oper) (a:Act) (w:World),wpListIn F m P ops (Exit.then (wpListIn F m P ops Q l2) Q) l1 a w->wpListIn F m P ops Q (l1++l2) a w
 | [],l2,a,w,h=>h
 | o::l1,l2,a,w,h=>by
  rw [List.cons_append]
  unfold wpListIn at h ⊢
  split at h
  ·rename_i hw
   rw [if_pos hw]
   refine ⟨h.1,?_⟩
   have h2:=h.2
   generalize (o.semAt F.round a.eval).run P w=r at *
   cases r with
   | ok x w'=>cases x with
    | value v=>exact fw l1 l2 _ _ h2
    | skip=>exact fw l1 l2 _ _ h2
    | defer d=>exact fw l1 l2 _ _ h2
    | enter f args=>exact ⟨h2.1,CallsIn.mono h2.2 fun e fJ he=>by cases e<;>first|exact fw l1 l2 _ _ he|exact he⟩
    | row row args=>exact ⟨h2.1,RowsIn.mono h2.2 fun v fJ he=>fw l1 l2 _ _ he⟩
    | round l' f tmps x b=>exact ⟨h2.1,RoundIn.mono h2.2 fun e fJ he=>by cases e<;>first|exact fw l1 l2 _ _ he|exact he⟩
    | _=>exact h2
   | halt x w'=>cases x<;>exact h2
  ·rename_i hw
   rw [if_neg hw]
   exact ⟨h.1,fw l1 l2 _ _ h.2⟩
theorem Hw {id d:Nat} {l1 l2:List Oper} {o:Oper} {y:Operand} {xs:Array Operand} {ts:Array TypeId} {full:List Oper} (Jh:full=l1++o::l2) (ho:o.op= .call ⟨.value y,xs,ts⟩) (hg:o.guard=none) (hd:o.dst=some d) (hQ:¬LetsOut Q) (h1:l1.all ky=true) (h2:l2.all ky=true)
  (h:wpList P full.toArray (Exit.then (fun a1 w1=>∃l,a1.eval y= .func (.yield l) #[] #[]∧pb P l (xs.toList.map a1.eval) w1 fun t w2=>wpList P full.toArray Q l2 (a1.put (some d) (.bool t)) w2) Q) l1 a w):(Code.region id full.toArray false).wp P Q a w:=by
 refine (wpIn_wide (n:=0)).1 (wpIn_region_lit ?_)
 have e:wpListIn Fence.wide 0 P full.toArray Q full=wpListIn Fence.wide 0 P full.toArray Q (l1++o::l2):=by rw [←Jh]
 rw [e]
 refine fw l1 _ a w (list_round (ro:=none) (by rintro ⟨_,_,h⟩;exact hQ ⟨_,_,h⟩) l1 h1 a w (ks (mc (fun a1 w1 ⟨l,hy,fn,tmps,x,bd,hr,pS⟩=>?_) fun _ _ _ h=>h) l1 a w h))
 have hw:Region.wanted o (yielded full.toArray a1.tmps)=true:=by unfold Region.wanted;rw [hg]
 unfold wpListIn
 rw [if_pos hw]
 refine ⟨fun _ _=>trivial,?_⟩
 have bT:(o.semAt Fence.wide.round a1.eval).run P w1= .ok (.round l fn tmps x bd) w1:=by
  rw [Oper.semAt_eq _ _ _ (by intro c e;rw [ho] at e;cases e)]
  have e:xs.map a1.eval=(xs.toList.map a1.eval).toArray:=by apply Array.ext';simp
  unfold execOp
  simp [ho,resolve,hy,Deferred.ofValue,invoke]
  rw [e];simpa using hr
 rw [bT]
 refine ⟨fun h=>by simp [Fence.wide] at h,RoundIn.mono pS fun e w2 ⟨t,he,ht⟩=>?_⟩
 subst he
 rw [hd]
 exact list_round (ro:=none) hQ l2 h2 _ _ ht
theorem It.yield {A:Nat->List AV} {N:Nat} {J:Nat->(Nat->Prop)->(Nat->Prop)->World->Prop} {X:(Nat->Prop)->(Nat->Prop)->World->Prop} {l i d:Nat} {xs:List Operand} {s1:AS} (hJ:∀i,kf (J i)) (hX:kf X) (hd:d<n)
  (hy:∀i,i<N-> ∀(O K:Nat->Prop) (w1:World) (vs:List Value),J i O K w1->(∀b,O b->K b)->(∀b,K b->b<w1.heap.size)->vs.length=(A i).length->(∀(j:Nat) v x,vs[j]?=some v->(A i)[j]?=some x->cz K w1 v x) ->
   pb P l vs w1 fun t w2=>Good w2∧w1.heap.size≤w2.heap.size∧(∀b,K b->w2.heap[b]?=w1.heap[b]?)∧(t=true->J (i+1) O K w2)∧(t=false->X O K w2))
  (h:It n (J i) s a w) (hi:i<N) (I1:gf s ((xs.map (bq s)).flatMap pd)=some s1) (w6:lX (xs.map (bq s1))=true) (hA:xs.map (bq s1)=A i) (T:Bool->World->Prop)
  (h1:∀w2,It n (J (i+1)) (lT s d (ao true)) (a.put (some d) (.bool true)) w2->T true w2) (h2:∀w2,It n X (lT s d (ao false)) (a.put (some d) (.bool false)) w2->T false w2) :
  pb P l (xs.map a.eval) w T:=by
 obtain ⟨wb,Z,φ,ms,k1,k2,k3,k4,k5⟩:=h
 obtain ⟨iM,gG⟩:=gb _ _ _ _ I1 k1
 have own:∀id g,φ id=some g->Z.S g∧g<w.heap.size:=fun id g hg=>⟨k1.new g (k1.cY id g hg).1.2,(k1.cY id g hg).2⟩
 have pS:=hy i hi (fun b=>l_ φ b∨b∈ms) (fun b=>(Z.S b∨b∈ms)∧b<w.heap.size) w (xs.map a.eval) k5 (fun b hb=>hb.elim (fun ⟨id,hid⟩=>⟨.inl (own id b hid).1,(own id b hid).2⟩) fun hb=>⟨.inr hb,(k4 b hb).1⟩) (fun b hb=>hb.2) (by rw [←hA];simp)
  (fun j v x hv hx=>(mW gG w6 j v x hv (by rw [hA];exact hx)).mono fun b hb=>⟨⟨.inl hb.2.2.2,hb.1⟩,rfl⟩)
 obtain ⟨fn,tmps,x,bd,hr,wM⟩:=pS
 refine ⟨fn,tmps,x,bd,hr,RoundIn.mono wM fun e w2 ⟨t,he,Tj,dv,hk,ht,hf⟩=>⟨t,he,?_⟩⟩
 let Z2:bn:=⟨fun b=>(Z.S b∧b<w.heap.size)∨w2.heap.size≤b,l_ φ,φ,Z.tq⟩
 have nv:aI Z2 w2 n [] s a w2 φ:=k1.rM dv (fun b hb cW=>hk b ⟨.inl hb,cW⟩) (fun b hb cW=>.inl ⟨hb,cW⟩) (fun b hb=>hb.elim .inr fun ⟨id,hid⟩=>.inl (own id b hid)) (fun id g hg=>⟨id,hg⟩) (fun id g hg=>.inr hg) rfl k1.ke Tj (fun b hb=>k1.tD hb)
 have hK:∀b,((Z2.S b∨b∈ms)∧b<w2.heap.size)->((Z.S b∨b∈ms)∧b<w.heap.size)∨w2.heap.size≤b:=fun b ⟨hb,cW⟩=>by
  rcases hb with (hb|hb)|hb
  ·exact .inl ⟨.inl hb.1,hb.2⟩
  ·exact .inr hb
  ·exact .inl ⟨.inr hb,(k4 b hb).1⟩
 have hm:∀r∈ms,r<w2.heap.size∧w2.heap[r]?=some (.deferred (some []))∧ ¬Z2.S r:=fun r hr=>by
  obtain ⟨u1,u2,u3⟩:=k4 r hr
  refine ⟨ag,(hk r ⟨.inr hr,u1⟩).trans u2,fun h=>?_⟩
  rcases h with h|h
  ·exact u3 h.1
  ·omega
 have dJ:Kt (fun b=>l_ φ b∨b∈ms) w2 w2:=⟨rfl,rfl,rfl,Nat.le_refl _,fun _ _ _=>rfl⟩
 cases t with
 | true=>exact h1 w2 ⟨w2,Z2,φ,ms,nv.put hd (.rep (.val _)),k2,k3,hm,hJ (i+1) _ _ _ _ _ _ (ht rfl) dJ (fun b hb=>.inl hb) hK⟩
 | false=>exact h2 w2 ⟨w2,Z2,φ,ms,nv.put hd (.rep (.val _)),k2,k3,hm,hX _ _ _ _ _ _ (hf rfl) dJ (fun b hb=>.inl hb) hK⟩
end
theorem ye.qA {P:Program} {f:FuncId} {fn:Func} {c:Code} {l8:List AV} {A:Nat->List AV} {N n:Nat} (hf:P.funcs[f]?=some fn) (hb:fn.body=some c) (hn:fn.ntmps=n) (I4:fn.results= #[]) (U3:l8.length+1≤n)
  (h:∀(l:Nat) (J:Nat->(Nat->Prop)->(Nat->Prop)->World->Prop) (X:(Nat->Prop)->(Nat->Prop)->World->Prop),(∀i,kf (J i))->kf X ->
   (∀i,i<N-> ∀(O K:Nat->Prop) (w1:World) (vs:List Value),J i O K w1->(∀b,O b->K b)->(∀b,K b->b<w1.heap.size)->vs.length=(A i).length->(∀(j:Nat) v x,vs[j]?=some v->(A i)[j]?=some x->cz K w1 v x) ->
    pb P l vs w1 fun t w2=>Good w2∧w1.heap.size≤w2.heap.size∧(∀b,K b->w2.heap[b]?=w1.heap[b]?)∧(t=true->J (i+1) O K w2)∧(t=false->X O K w2)) ->
   ∀(a:Act) (w:World),It n (J 0) ⟨lx 0 (AV.val (.func (.yield l) #[] #[])::l8),[]⟩ a w->c.wp P (fun e a' w'=>(e= .normal∨e= .ret)∧ ∃s',It n (J N) s' a' w'∨It n X s' a' w') a w):ye P f l8 A N:=by
 intro l w S cv J X ko hS fi Tv hJ hX hy h0
 refine callsIn_wide.1 (callsIn_of_wp_marks (F:=Fence.wide) (n:=0) hf hb trivial ?_)
 have gZ:∀(j:Nat) v x,(Value.func (.yield l) #[] #[]::cv)[j]?=some v->(AV.val (.func (.yield l) #[] #[])::l8)[j]?=some x->cz S w v x:=by
  intro j v x hv hx
  cases j with
  | zero=>simp at hv hx;subst hv;subst hx;exact .val _
  | succ j=>exact Tv j v x (by simpa using hv) (by simpa using hx)
 let Z:bn:=⟨fun b=>S b∨w.heap.size≤b,fun _=>False,fun _=>none,[]⟩
 have MO:aI Z w n [] ⟨lx 0 (AV.val (.func (.yield l) #[] #[])::l8),[]⟩ {tmps:=(Value.func (.yield l) #[] #[]::cv).toArray++Array.replicate (fn.ntmps-(Value.func (.yield l) #[] #[]::cv).toArray.size) undef,defers:=[]} w (fun _=>none):=by
  refine ⟨by simp;omega,rfl,⟨rfl,rfl,rfl,Nat.le_refl _,fun _ _ _=>rfl,ko,fun _ _ h=>h⟩,fun i av hi=>?_,fun id r hr=>(by cases hr),fun _ _=>rfl,fun _ _ _ h=>(by cases h),fun _ _ h=>(by cases h),fun _ _ h=>(by cases h),fun b hb=>Or.inr (hb.elim id fun h=>h.elim)⟩
  obtain ⟨k,rfl,hk⟩:=m5 _ 0 i av hi
  generalize E5:(Value.func (.yield l) #[] #[]::cv)=vs at *
  have Pa:vs.length=l8.length+1:=by rw [←E5];simp [fi]
  have iY:k<vs.length:=by have:=(List.getElem?_eq_some_iff.1 hk).1;simp at this;omega
  have hv:vs[k]?=some vs[k]:=List.getElem?_eq_getElem iY
  have e:(vs.toArray++Array.replicate (fn.ntmps-vs.toArray.size) undef).getD (0+k) undef=vs[k]:=by
   rw [Nat.zero_add,Array.getD_eq_getD_getElem?,Array.getElem?_append_left (by simpa using iY)]
   simp [iY]
  simp only [e]
  exact .rep ((gZ k vs[k] av hv hk).mono fun b hb=>⟨⟨hS b hb,by simp,fun _ h=>(by cases h),Or.inl hb⟩,rfl⟩)
 have hit:It n (J 0) ⟨lx 0 (AV.val (.func (.yield l) #[] #[])::l8),[]⟩ {tmps:=(Value.func (.yield l) #[] #[]::cv).toArray++Array.replicate (fn.ntmps-(Value.func (.yield l) #[] #[]::cv).toArray.size) undef,defers:=[]} w :=
  ⟨w,Z,fun _=>none,[],MO,rfl,List.nodup_nil,fun _ h=>(by cases h),hJ 0 _ _ _ _ _ _ h0 ⟨rfl,rfl,rfl,Nat.le_refl _,fun _ _ _=>rfl⟩ (fun b hb=>hb.elim (fun ⟨_,h⟩=>(by cases h)) fun h=>(by cases h)) fun b ⟨hb,cW⟩=>hb.elim (fun hb=>hb) fun h=>(by cases h)⟩
 refine wpIn_wide.2 (wp_mono (h l J X hJ hX hy _ w hit) fun e a' w' ⟨he,s',ub⟩=>?_)
 have fin:∀(J':(Nat->Prop)->(Nat->Prop)->World->Prop),kf J'->(∀O K fJ,J' O K fJ-> ∃O K,J N O K fJ∨X O K fJ)->It n J' s' a' w'->LeavesInM Fence.wide 0 P fn a'.tmps (fun e w'=>∃v O K,e= .returned v∧(J N O K w'∨X O K w')) a'.defers .returning w':=by
  intro J' Oj KF ⟨wb,Z1,φ,ms,k1,k2,k3,k4,k5⟩
  have N_:a'.defers=ms.map mark:=by rw [k1.ke,k2]
  rw [N_]
  refine m_ ms w' k3 (fun r hr=>(k4 r hr).2.1) (fun fJ h1 h2 h3 h4 h5=>?_)
  obtain ⟨O,K,ub⟩:=KF _ _ _ (Oj (fun b=>l_ φ b∨b∈ms) _ w' (fun b=>l_ φ b∨b∈ms) (fun b=>(Z1.S b∨b∈ms)∧b<w'.heap.size) fJ k5 ⟨h1,h2,h3,ag,fun b hb hn=>h5 b fun hm=>hn (.inr hm)⟩ (fun b hb=>.inl hb) fun b hb=>.inl hb)
  exact ⟨.tuple #[],by simp [results,I4],.tuple #[],O,K,rfl,ub⟩
 have T5:LeavesInM Fence.wide 0 P fn a'.tmps (fun e w'=>∃v O K,e= .returned v∧(J N O K w'∨X O K w')) a'.defers .returning w':=by
  rcases ub with ub|ub
  ·exact fin _ (hJ N) (fun O K fJ h=>⟨O,K,.inl h⟩) ub
  ·exact fin _ hX (fun O K fJ h=>⟨O,K,.inr h⟩) ub
 rcases he with rfl|rfl<;>exact T5
theorem bQ.Ma {s:AS} (id j new e:Nat) {r:Row} (hr:look s.H id=some r) (hp:r.pure=false) (hj:r.cells[j]?=some .nil) (hn:look s.H new=none):bQ s ⟨s.F,(new,⟨e,true,false,[]⟩)::(id,⟨r.e,false,r.full,r.cells.set j (.ref new)⟩)::cR s.H id⟩:=by
 intro S0 w0 n a w ⟨φ,hs⟩
 have cS:id≠new:=fun h=>by rw [h,hn] at hr;cases hr
 have bW:φ new=none:=hs.only new hn
 have l3:∀i,look ((new,(⟨e,true,false,[]⟩:Row))::(id,(⟨r.e,false,r.full,r.cells.set j (.ref new)⟩:Row))::cR s.H id) i=if new=i then some ⟨e,true,false,[]⟩ else if id=i then some ⟨r.e,false,r.full,r.cells.set j (.ref new)⟩ else look s.H i:=by
  intro i
  rw [aD,aD,bH]
  by_cases e1:new=i<;>by_cases e2:id=i<;>simp [e1,e2]
 have hI:∀i x,az s.H φ i=some x->az ((new,(⟨e,true,false,[]⟩:Row))::(id,(⟨r.e,false,r.full,r.cells.set j (.ref new)⟩:Row))::cR s.H id) φ i=some x:=by
  intro i x hx
  unfold az at hx ⊢
  rw [l3]
  by_cases e1:new=i
  ·subst e1;rw [hn] at hx;cases hx
  ·rw [if_neg e1]
   by_cases e2:id=i
   ·subst e2;rw [if_pos rfl];rw [hr] at hx;simpa using hx
   ·rw [if_neg e2];exact hx
 have mw:az ((new,(⟨e,true,false,[]⟩:Row))::(id,(⟨r.e,false,r.full,r.cells.set j (.ref new)⟩:Row))::cR s.H id) φ new=some (e,0,none):=by
  unfold az;rw [l3,if_pos rfl,bW];rfl
 have mono:∀v x,Den (az s.H φ) (aP S0 w φ []) w v x->Den (az ((new,(⟨e,true,false,[]⟩:Row))::(id,(⟨r.e,false,r.full,r.cells.set j (.ref new)⟩:Row))::cR s.H id) φ) (aP S0 w φ []) w v x:=fun v x h=>h.mono hI (fun b hb=>⟨hb,rfl⟩) (fun _ _ _ _ _=>rfl)
 refine ⟨φ,hs.j8,hs.ke,hs.da,fun i av hi=>mono _ _ (hs.cC i av hi),fun i q hq=>?_,fun i hi=>?_,hs.inj,hs.cY,hs.apart,hs.new⟩
 ·simp only [l3] at hq
  by_cases e1:new=i
  ·subst e1
   rw [if_pos rfl] at hq;injection hq with hq;subst hq
   unfold bJ;rw [bW]
  ·rw [if_neg e1] at hq
   by_cases e2:id=i
   ·subst e2
    rw [if_pos rfl] at hq;injection hq with hq;subst hq
    have aQ:=hs.rows id r hr
    unfold bJ at aQ ⊢
    cases hg:φ id with
    | none=>rw [hg] at aQ;simp only at aQ;rw [aQ] at hj;cases hj
    | some g =>
     rw [hg] at aQ
     obtain ⟨cur,te,fr,u1,u2,u3,u4,u5⟩:=aQ
     refine ⟨cur,te,fr,u1,u2,by simpa using u3,fun h=>by simpa using u4 h,fun k u x hu hx=>?_⟩
     unfold bh
     simp only at hx ⊢
     rw [List.getElem?_set] at hx
     by_cases hk:j=k
     ·subst hk
      have cW:j<r.cells.length:=(List.getElem?_eq_some_iff.1 hj).1
      simp [cW] at hx
      subst hx
      have:=u5 j u .nil hu hj
      unfold bh at this
      rw [hp] at this
      rw [uo this]
      exact .cm new e mw
     ·rw [if_neg hk] at hx
      have:=u5 k u x hu hx
      unfold bh at this
      rw [hp] at this
      exact mono u x this
   ·rw [if_neg e2] at hq
    have aQ:=hs.rows i q hq
    unfold bJ at aQ ⊢
    cases hg:φ i with
    | none=>rw [hg] at aQ;exact aQ
    | some g =>
     rw [hg] at aQ
     obtain ⟨cur,te,fr,u1,u2,u3,u4,u5⟩:=aQ
     refine ⟨cur,te,fr,u1,u2,u3,u4,fun k u x hu hx=>?_⟩
     have:=u5 k u x hu hx
     unfold bh at this ⊢
     cases I6:q.pure with
     | true=>rw [I6] at this;exact this
     | false=>rw [I6] at this;exact mono u x this
 ·simp only [l3] at hi
  by_cases e1:new=i
  ·rw [if_pos e1] at hi;cases hi
  ·rw [if_neg e1] at hi
   by_cases e2:id=i
   ·rw [if_pos e2] at hi;cases hi
   ·rw [if_neg e2] at hi;exact hs.only i hi
theorem wA:jQ []:=fun id r h=>by cases h
theorem eQ {id:Nat} {r:Row} {H:List (Nat×Row)} (h1:∀x∈r.cells,nk x=true) (h2:jQ H):jQ ((id,r)::H):=by
 intro i q hq j x hx
 rw [aD] at hq
 by_cases e:id=i
 ·rw [if_pos e] at hq;injection hq with hq;subst hq;exact h1 x (List.mem_of_getElem? hx)
 ·rw [if_neg e] at hq;exact h2 i q hq j x hx
theorem iW {l:List AV} (h:l.all nk=true):∀x∈l,nk x=true:=fun x hx=>List.all_eq_true.1 h x hx
theorem q_ (l:List UInt64):∀x∈ah l,nk x=true:=by
 intro x hx;simp only [ah,List.mem_map] at hx;obtain ⟨c,_,rfl⟩:=hx;rfl
def Lo:Code->Bool
 | .rangeFunc _ _ _ _=>true
 | _=>false
def Vr:Code->Operand
 | .rangeFunc g _ _ _=>g
 | _=>.tmp 0
def Sb:Code->Array Tmp
 | .rangeFunc _ ps _ _=>ps
 | _=> #[]
def Uo:Code->Code
 | .rangeFunc _ _ x _=>x
 | c=>c
def Up:Code->Code
 | .rangeFunc _ _ _ b=>b
 | c=>c
theorem bg.Nr {P:Program} {n:Nat} {c:Code} {Q:Exit->AS->Prop} {s:AS} (hc:Lo c=true) {f:Nat} {l8:List AV} (A:Nat->List AV) (N:Nat) (hit:ye P f l8 A N) (hE:gV P f=true) (LL:lu (Uo c)=true) (QR:lu (Up c)=true)
  (ρ :List (Nat×Nat)) (ND :nX ρ =true) (xs:List AV) (F:List (Nat×AV)) (I:List Value->Nat->List (Nat×Row)) (sN:AS)
  (hw:∀Z w0 a w φ,aI Z w0 n [] (Lc ρ s) a w φ-> ∃ kq vs,vs.length=xs.length∧aI Z w0 n [] ⟨F,I vs 0⟩ a w kq∧ ∀p∈vs.zip xs,cz (aP Z w kq []) w p.1 p.2) (hg:∀vs,vs.length=xs.length->bq ⟨F,I vs 0⟩ (Vr c)= .mI f l8) (Qq:∀i,(Sb c).toList.length=(A i).length) (Qt:((Sb c).toList.all fun p=>Nat.blt p n)=true)
  (hI:∀vs i,vs.length=xs.length->i≤N->jQ (I vs i)∧C4 (I vs i) F=true) (pS:∀vs i,vs.length=xs.length->i<N->bg P n (Uo c) (sK (bg P n (Up c) (RQ (vs.zip xs) Q ρ F (I vs (i+1)))) (fun _ _=>False)) (Ib (Sb c).toList (A i) ⟨F,I vs i⟩)) (fi:∀vs,vs.length=xs.length->En (vs.zip xs) ⟨F,I vs N⟩ sN) (NY:Q .normal (lS ρ sN)):bg P n c Q s:=by
 cases c with
 | rangeFunc g ps x b=>exact bg.range rfl A N hit hE LL QR ρ ND xs F I sN hw hg Qq Qt hI pS fi NY
 | _=>cases hc
section
variable {Z:bn} {w0 w:World} {n:Nat} {s:AS} {a:Act} {φ:Nat->Option Nat}
theorem aI.congr {O:List Nat} {F:List (Nat×AV)} {H H':List (Nat×Row)} (h:aI Z w0 n O ⟨F,H⟩ a w φ) (e:∀i,look H' i=look H i):aI Z w0 n O ⟨F,H'⟩ a w φ:=by
 have hI:az H' φ=az H φ:=by funext i;unfold az;rw [e]
 refine ⟨h.j8,h.ke,h.da,fun i av hi=>?_,fun i q hq=>?_,fun i hi=>?_,h.inj,h.cY,h.apart,h.new⟩
 ·simp only [hI];exact h.cC i av hi
 ·simp only [hI];exact h.rows i q (by rw [←e];exact hq)
 ·exact h.only i (by rw [←e];exact hi)
theorem aI.H9 (h:aI Z w0 n [] s a w φ) (id j:Nat) {r:Row} {y:AV} (hr:look s.H id=some r) (hp:r.pure=false)
  (hy:∀g cur te fr u x,φ id=some g->w.heap[g]?=some (.cells cur te fr)->cur[j]?=some u->r.cells[j]?=some x->Den (az s.H φ) (aP Z w φ []) w u x->Den (az s.H φ) (aP Z w φ []) w u y):aI Z w0 n [] ⟨s.F,(id,⟨r.e,false,r.full,r.cells.set j y⟩)::cR s.H id⟩ a w φ:=by
 have l3:∀i,look ((id,(⟨r.e,false,r.full,r.cells.set j y⟩:Row))::cR s.H id) i=if id=i then some ⟨r.e,false,r.full,r.cells.set j y⟩ else look s.H i:=by
  intro i
  rw [aD,bH]
  by_cases e:id=i<;>simp [e]
 have hI:az ((id,(⟨r.e,false,r.full,r.cells.set j y⟩:Row))::cR s.H id) φ=az s.H φ:=by
  funext i
  unfold az
  rw [l3]
  by_cases e:id=i
  ·subst e;rw [if_pos rfl,hr];simp
  ·rw [if_neg e]
 refine ⟨h.j8,h.ke,h.da,fun i av hi=>?_,fun i q hq=>?_,fun i hi=>?_,h.inj,h.cY,h.apart,h.new⟩
 ·simp only [hI];exact h.cC i av hi
 ·simp only [hI]
  simp only [l3] at hq
  by_cases e:id=i
  ·subst e
   rw [if_pos rfl] at hq;injection hq with hq;subst hq
   have aQ:=h.rows id _ hr
   unfold bJ at aQ ⊢
   cases bW:φ id with
   | none=>rw [bW] at aQ;simp only at aQ ⊢;rw [aQ];rfl
   | some g =>
    rw [bW] at aQ
    obtain ⟨cur,te,fr,hg,hf,hl,nr,hc⟩:=aQ
    refine ⟨cur,te,fr,hg,hf,by simpa using hl,fun h=>by simpa using nr h,fun k u x hu hx=>?_⟩
    unfold bh
    simp only at hx ⊢
    rw [List.getElem?_set] at hx
    by_cases hk:j=k
    ·subst hk
     rw [if_pos rfl] at hx
     split at hx
     ·rename_i cW
      injection hx with hx;subst hx
      have IX:r.cells[j]?=some r.cells[j]:=List.getElem?_eq_getElem cW
      have:=hc j u _ hu IX
      unfold bh at this;rw [hp] at this
      exact hy g cur te fr u _ bW hg hu IX this
     ·cases hx
    ·rw [if_neg hk] at hx
     have:=hc k u x hu hx
     unfold bh at this;rw [hp] at this
     exact this
  ·rw [if_neg e] at hq;exact h.rows i q hq
 ·simp only [l3] at hi
  by_cases e:id=i
  ·rw [if_pos e] at hi;cases hi
  ·rw [if_neg e] at hi;exact h.only i hi
theorem aI.open_ (h:aI Z w0 n [] s a w φ) (id j:Nat) {r:Row} {x:AV} (hr:look s.H id=some r) (hp:r.pure=false) (hj:r.cells[j]?=some x) (hx:iC x=true):∃v,aI Z w0 n [] ⟨s.F,(id,⟨r.e,false,r.full,r.cells.set j (.val v)⟩)::cR s.H id⟩ a w φ∧cz (aP Z w φ []) w v x:=by
 have aQ:=h.rows id _ hr
 unfold bJ at aQ
 cases bW:φ id with
 | none=>rw [bW] at aQ;simp only at aQ;rw [aQ] at hj;cases hj
 | some g =>
  rw [bW] at aQ
  obtain ⟨cur,te,fr,hg,hf,hl,nr,hc⟩:=aQ
  have cW:j<cur.size:=by have:=(List.getElem?_eq_some_iff.1 hj).1;omega
  have hu:cur[j]?=some cur[j]:=Array.getElem?_eq_getElem cW
  have hd:=hc j _ _ hu hj
  unfold bh at hd;rw [hp] at hd
  refine ⟨cur[j],h.H9 id j hr hp fun g' cur' Vm RX u x' h1 h2 h3 h4 h5=>?_,(e_ hd hx).1⟩
  rw [bW] at h1;injection h1 with h1;subst h1
  rw [hg] at h2;injection h2 with h2;injection h2 with h2;subst h2
  rw [hu] at h3;injection h3 with h3;subst h3
  exact .rep (.val _)
theorem aI.close_ (h:aI Z w0 n [] s a w φ) (id j:Nat) {r:Row} {x:AV} {v:Value} (hr:look s.H id=some r) (hp:r.pure=false) (hj:r.cells[j]?=some (.val v)) (hx:cz (aP Z w φ []) w v x):aI Z w0 n [] ⟨s.F,(id,⟨r.e,false,r.full,r.cells.set j x⟩)::cR s.H id⟩ a w φ:=by
 refine h.H9 id j hr hp fun g cur te fr u x' _ _ _ h4 h5=>?_
 rw [hj] at h4;injection h4 with h4;subst h4
 rw [bF h5]
 exact .rep hx
end
theorem bg.RY {P:Program} {n:Nat} {c:Code} {Q:Exit->AS->Prop} {s:AS} (s':AS) (h:s=s') (h2:bg P n c Q s'):bg P n c Q s:=h ▸ h2
end Go.Proofs.YtjgbhhnghedgdaaGreatDoor
