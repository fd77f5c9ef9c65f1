import Derived.Test.YtjgbhhnghedgdaaGreatDoorZsRI
import Derived.RangeFuncRecord
import Derived.OrdersIn
import Derived.TacticsIn
set_option linter.all false
namespace Go.Proofs.YtjgbhhnghedgdaaGreatDoor
open Go.RowKit
abbrev Wd (ro:Option Nat):Fence:={Fence.wide with round:=ro}
def jZ (o:Oper):Bool:=match o.op with| .defer _=>false|_=>true
def kN:Code->Bool
 | .skip=>true
 | .region _ ops _=>ops.toList.all jZ
 | .seq x y=>kN x && kN y
 | .cond _ x y=>kN x && kN y
 | .block _ c=>kN c
 | .loop c=>kN c
 | .exit _=>true
 | .ret=>true
 | _=>false
section
variable {P:Program} {Q:Exit->Act->World->Prop} {ro:Option Nat} {n:Nat}
theorem BJ {o:Oper} (h:jZ o=true) (c):o.op≠ .defer c:=by
 intro e;unfold jZ at h;rw [e] at h;cases h
theorem tO {o:Oper} {a:Act} {w:World} {K:Act->World->Prop} (ho:jZ o=true) (hQ:¬LetsOut Q) (h:o.wp P a w K Q):o.wpIn (Wd ro) n P a w K Q:=by
 refine ⟨fun _ _=>trivial,?_⟩
 rw [Oper.semAt_eq _ _ _ (BJ ho)]
 unfold Oper.wp at h
 generalize (execOp a.eval o).run P w=r at *
 cases r with
 | ok x w' =>
  cases x with
  | enter f args=>exact ⟨fun h=>by simp [Fence.wide] at h,(callsIn_wide (n:=n-1)).2 h⟩
  | row row args =>
   refine ⟨fun h=>by simp [Fence.wide] at h,fun c cs _=>?_⟩
   obtain ⟨v,fa,h1,h2⟩:=h c cs
   exact ⟨v,fa,h1,stepsIn_wide.2 h2⟩
  | round=>exact h.elim
  | _=>exact h
 | halt x w'=>cases x<;>exact h
theorem list_round {ops:Array Oper} (hQ:¬LetsOut Q):∀(m:List Oper),m.all jZ=true-> ∀(a:Act) (w:World),wpList P ops Q m a w->wpListIn (Wd ro) n P ops Q m a w
 | [],_,a,w,h=>h
 | o::m,hm,a,w,h=>by
  rw [List.all_cons,Bool.and_eq_true] at hm
  unfold wpList at h
  unfold wpListIn
  split at h
  ·rename_i hw
   rw [if_pos hw]
   rcases h with h|⟨-,h⟩
   ·have:=tO (ro:=ro) (n:=n) hm.1 hQ h
    refine ⟨this.1,?_⟩
    have h2:=this.2
    generalize (o.semAt (Wd ro).round a.eval).run P w=r at *
    cases r with
    | ok x w'=>cases x with
     | value v=>exact list_round hQ m hm.2 _ _ h2
     | skip=>exact list_round hQ m hm.2 _ _ h2
     | defer d=>exact list_round hQ m hm.2 _ _ h2
     | enter f args=>exact ⟨h2.1,(callsIn_wide (n:=n-1)).2 (Calls.mono ((callsIn_wide (n:=n-1)).1 h2.2) fun e fa he=>by cases e<;>first|exact list_round hQ m hm.2 _ _ he|exact he)⟩
     | row row args=>exact ⟨h2.1,RowsIn.mono h2.2 fun v fa he=>list_round hQ m hm.2 _ _ he⟩
     | round l' f tmps x b=>exact ⟨h2.1,RoundIn.mono h2.2 fun e fa he=>by cases e<;>first|exact list_round hQ m hm.2 _ _ he|exact he⟩
     | _=>exact h2
    | halt x w'=>cases x<;>exact h2
   ·exact absurd h hQ
  ·rename_i hw
   rw [if_neg hw]
   exact ⟨fun _ _=>trivial,list_round hQ m hm.2 _ _ h⟩
theorem yo {o:Oper} {a:Act} {w:World} {K K':Act->World->Prop} (hK:∀a w,K a w->K' a w) (h:o.wpIn (Wd ro) n P a w K Q):o.wpIn (Wd ro) n P a w K' Q:=by
 refine ⟨h.1,?_⟩
 have h2:=h.2
 generalize (o.semAt (Wd ro).round a.eval).run P w=r at *
 cases r with
 | ok x w'=>cases x with
  | value v=>exact hK _ _ h2
  | skip=>exact hK _ _ h2
  | defer d=>exact hK _ _ h2
  | enter f args=>exact ⟨h2.1,(callsIn_wide (n:=n-1)).2 (Calls.mono ((callsIn_wide (n:=n-1)).1 h2.2) fun e fa he=>by cases e<;>first|exact hK _ _ he|exact he)⟩
  | row row args=>exact ⟨h2.1,RowsIn.mono h2.2 fun v fa he=>hK _ _ he⟩
  | round l' f tmps x b=>exact ⟨h2.1,RoundIn.mono h2.2 fun e fa he=>by cases e<;>first|exact hK _ _ he|exact he⟩
  | _=>exact h2
 | halt x w'=>cases x<;>exact h2
theorem nV {md:Region.Mode} {ops:Array Oper} (hc:ops.toList.all jZ=true) (hQ:¬LetsOut Q):∀(fuel:Nat) (listed:Array Bool) (a:Act) (w:World),wpAny P md ops Q fuel listed a w->wpAnyIn (Wd ro) n P md ops Q fuel listed a w
 | 0,_,_,_,h=>h
 | fuel+1,listed,a,w,h=>⟨h.1,fun i hi=>by
   have h':=h.2 i hi
   unfold wpOp at h'
   unfold wpOpIn
   split
   ·rename_i ho;simp only [ho] at h';exact nV hc hQ fuel _ _ _ h'
   ·rename_i o ho
    simp only [ho] at h'
    have gu:jZ o=true:=List.all_eq_true.1 hc o (by
     have:=Array.mem_of_getElem? ho;simpa using this)
    split
    ·rename_i hw
     rw [if_pos hw] at h'
     rcases h' with h'|⟨-,h'⟩
     ·exact yo (nV hc hQ fuel _) (tO gu hQ h')
     ·exact absurd h' hQ
    ·rename_i hw
     rw [if_neg hw] at h'
     exact ⟨fun _ _=>trivial,nV hc hQ fuel _ _ _ h'⟩⟩
theorem EV {F:Fence} {c:Code} {a:Act} {w:World} (J:Nat->Act->World->Prop) (k0:Nat) (h0:J k0 a w)
  (round:∀k a w,J k a w->c.wpIn F n P (Exit.then (fun a' w'=>∃k',k'<k∧J k' a' w') Q) a w):(Code.loop c).wpIn F n P Q a w:=by
 have HS:∀a w,∃m,(∃k,J k a w)->J m a w∧ ∀k,J k a w->m≤k:=by
  intro a w
  by_cases h:∃k,J k a w
  ·obtain ⟨k,hk⟩:=h
   induction k using Nat.strongRecOn with
   | _ k ih =>
    by_cases hs:∃j,j<k∧J j a w
    ·obtain ⟨j,hj,hJ⟩:=hs;exact ih j hj hJ
    ·exact ⟨k,fun _=>⟨hk,fun j hJ=>Classical.byContradiction fun cW=>hs ⟨j,ah,hJ⟩⟩⟩
  ·exact ⟨0,fun h'=>absurd h' h⟩
 let μ :Act->World->Nat:=fun a w=>Classical.choose (HS a w)
 have SW :∀a w (h:∃k,J k a w),J (μ a w) a w∧ ∀k,J k a w-> μ a w≤k:=fun a w h=>Classical.choose_spec (HS a w) h
 refine wpIn_loop (fun a w=>∃k,J k a w) μ ⟨k0,h0⟩ fun a w h=>?_
 refine wpIn_mono (round _ a w (SW a w h).1) fun e a' w' hq=>?_
 cases e with
 | normal =>
  obtain ⟨k',hk,hJ⟩:=hq
  exact ⟨⟨k',hJ⟩,Nat.lt_of_le_of_lt ((SW a' w' ⟨k',hJ⟩).2 k' hJ) hk⟩
 | _=>exact hq
theorem ic:∀(c:Code) (Q:Exit->Act->World->Prop) (a:Act) (w:World),kN c=true-> ¬LetsOut Q->Bg P c Q a w->c.wpIn (Wd ro) n P Q a w
 | .skip,_,a,w,_,_,h=>wpIn_skip h
 | .region _ ops false,_,a,w,hc,hQ,h=>wpIn_region_list (list_round hQ _ hc _ _ h)
 | .region _ ops true,_,a,w,hc,hQ,h=>wpIn_region_any h.1 (nV hc hQ _ _ _ _ h.2)
 | .seq x y,Q,a,w,hc,hQ,h=>by
  simp only [kN,Bool.and_eq_true] at hc
  exact wpIn_seq (ic x _ a w hc.1 (by rintro ⟨a,w,h⟩;exact hQ ⟨a,w,h⟩) (dH x _ _ (lD (fun a w h=>ic y Q a w hc.2 hQ h) fun _ _ _ h=>h) a w h))
 | .cond c x y,Q,a,w,hc,hQ,⟨t,h1,h2,h3⟩=>by
  simp only [kN,Bool.and_eq_true] at hc
  exact wpIn_cond_split h1 (fun e=>ic x Q a w hc.1 hQ (h2 e)) (fun e=>ic y Q a w hc.2 hQ (h3 e))
 | .block id c,_,a,w,hc,hQ,h=>wpIn_block (ic c _ a w hc (by rintro ⟨a,w,h⟩;exact hQ ⟨a,w,h⟩) h)
 | .loop c,_,a,w,hc,hQ,⟨J,k0,h0,h⟩=>EV J k0 h0 fun k a w hJ=>ic c _ a w hc (by rintro ⟨a,w,h⟩;exact hQ ⟨a,w,h⟩) (h k a w hJ)
 | .exit id,_,a,w,_,_,h=>wpIn_exit h
 | .ret,_,a,w,_,_,h=>wpIn_ret h
 | .rangeFunc ..,_,_,_,hc,_,_=>by cases hc
 | .scope _,_,_,_,hc,_,_=>by cases hc
 | .label _,_,_,_,hc,_,_=>by cases hc
 | .goto _,_,_,_,hc,_,_=>by cases hc
 | .refuse _,_,_,_,hc,_,_=>by cases hc
end
section
variable {S0:bf} {w0 w:World} {n:Nat} {s:AS} {a:Act} {φ:Nat->Option Nat}
def y_ (x y:Nat) (φ:Nat->Option Nat):Nat->Option Nat:=fun i=>if i=y then φ x else if i=x then none else φ i
theorem aH.Dt (h:aH S0 w0 n [] s a w φ) (x y:Nat) (OT:y<1000000000000∨ ∀g,φ x=some g->S0.fix y=some g) (cK:x≠y) (hy:look s.H y=none):aH S0 w0 n [] (rename x y s) a w (y_ x y φ):=by
 let ck:Nat->Option Nat:=fun i=>if i=y then φ x else if i=x then none else φ i
 show aH S0 w0 n [] (rename x y s) a w ck
 have Q5:φ y=none:=h.only y hy
 have mi:∀i g,ck i=some g-> ∃j,φ j=some g∧(i=y->j=x)∧(i≠y->j=i):=by
  intro i g hi
  by_cases e:i=y
  ·have:φ x=some g:=by simpa [ck,e] using hi
   exact ⟨x,this,fun _=>rfl,fun h=>absurd e h⟩
  ·by_cases e2:i=x
   ·simp [ck,e2,cK] at hi
   ·have:φ i=some g:=by simpa [ck,e,e2] using hi
    exact ⟨i,this,fun h=>absurd h e,fun _=>rfl⟩
 have H5:∀b,aJ S0 w φ [] b->aJ S0 w ck [] b:=by
  intro b ⟨h1,h2,h3,h4⟩
  refine ⟨h1,h2,fun i hi=>?_,h4⟩
  obtain ⟨j,hj,-⟩:=mi i b hi
  exact h3 j hj
 have jQ:∀i,look (rename x y s).H i=(if i=y then look s.H x else if i=x then none else look s.H i).map (eC x y):=by
  intro i
  unfold rename
  rw [b7,m_ x y _ hy]
 have hI:∀i z,az s.H φ i=some z->az (rename x y s).H ck (if i=x then y else i)=some z:=by
  intro i z hi
  obtain ⟨e,m,b⟩:=z
  obtain ⟨r,hl,h1,h2,h3⟩:=aL hi
  by_cases e1:i=x
  ·subst e1
   rw [if_pos rfl,bn (r:=eC i y r) (by rw [jQ,if_pos rfl,hl];rfl),(cA i y r).1,(cA i y r).2.1,h1,h2]
   simp [ck,h3]
  ·have e2:i≠y:=fun e=>by subst e;rw [hy] at hl;cases hl
   rw [if_neg e1,bn (r:=eC x y r) (by rw [jQ,if_neg e2,if_neg e1,hl];rfl),(cA x y r).1,(cA x y r).2.1,h1,h2]
   simp [ck,e1,e2,h3]
 have qS:∀b,aJ S0 w φ [] b->aJ S0 w ck [] b∧w.heap[b]?=w.heap[b]?:=fun b h=>⟨H5 b h,rfl⟩
 have ok:jN (az s.H φ) (az (rename x y s).H ck) (aJ S0 w φ []) (aJ S0 w ck []) w (ky x y):=by
  refine ⟨fun v av hv h1 h2=>?_,fun _=>rfl,fun _=>rfl⟩
  have pick:∀i z,az s.H φ i=some z->(Nat.beq i x=true∧az (rename x y s).H ck y=some z)∨(Nat.beq i x=false∧az (rename x y s).H ck i=some z):=by
   intro i z hi
   have:=hI i z hi
   rcases bD i x with ⟨hb,e⟩|⟨hb,e⟩
   ·rw [if_pos e] at this;exact .inl ⟨hb,this⟩
   ·rw [if_neg e] at this;exact .inr ⟨hb,this⟩
  cases hv with
  | rep h=>cases h with
   | val v=>exact .rep (.val v)
   | nil=>exact .rep .nil
   | agg vs cs _ _=>exact absurd rfl (h1 cs)
   | br vs cs _ _=>exact absurd rfl (h2 cs)
   | arr vs cs hl h=>exact .rep ((cp.arr vs cs hl h).mono qS)
   | sl A n c e us row hl hn hc hm ha h=>exact .rep ((cp.sl A n c e us row hl hn hc hm ha h).mono qS)
   | o8 A n e us row hl hn hm ha h=>exact .rep ((cp.o8 A n e us row hl hn hm ha h).mono qS)
   | ptr ad us row off hl hs ha h=>exact .rep ((cp.ptr ad us row off hl hs ha h).mono qS)
   | lu f vs cs hl h=>exact .rep ((cp.lu f vs cs hl h).mono qS)
  | agg vs cs _ _=>exact absurd rfl (h1 cs)
  | br vs cs _ _=>exact absurd rfl (h2 cs)
  | ref i e m g l c hi hm hc hx hs=>rcases pick i _ hi with ⟨hb,i6⟩|⟨hb,i6⟩<;>simp only [ky,hb]<;>exact .ref _ e m g l c i6 hm hc hx hs
  | cw i e hi=>rcases pick i _ hi with ⟨hb,i6⟩|⟨hb,i6⟩<;>simp only [ky,hb]<;>exact .cw _ e i6
  | pre i k e m g l c hi hn hm hc hx hs=>rcases pick i _ hi with ⟨hb,i6⟩|⟨hb,i6⟩<;>simp only [ky,hb]<;>exact .pre _ k e m g l c i6 hn hm hc hx hs
  | df i e hi=>rcases pick i _ hi with ⟨hb,i6⟩|⟨hb,i6⟩<;>simp only [ky,hb]<;>exact .df _ e i6
  | jg i off k e m l c g A hi hn hm hc hx ha=>rcases pick i _ hi with ⟨hb,i6⟩|⟨hb,i6⟩<;>simp only [ky,hb]<;>exact .jg _ off k e m l c g A i6 hn hm hc hx ha
  | addr i off e m g hi=>rcases pick i _ hi with ⟨hb,i6⟩|⟨hb,i6⟩<;>simp only [ky,hb]<;>exact .addr _ off e m g i6
  | dead v=>exact .dead _
 have BG:∀z:AV,(∀cs,z≠ .agg cs)->EJ x y z=ky x y z:=by
  intro z hz
  cases z with
  | agg cs=>exact absurd rfl (hz cs)
  | _=>rfl
 have BF:∀z:AV,(∀cs,z≠ .br cs)->Mk x y z=EJ x y z:=by
  intro z hz
  cases z with
  | br cs=>exact absurd rfl (hz cs)
  | _=>rfl
 refine ⟨h.jF,h.jJ,h.cM,fun i av hi=>?_,fun i r hr=>?_,fun i hi=>?_,fun i j g hi hj=>?_,fun i g hi=>?_,fun i g hi=>by simp,h.new⟩
 ·unfold rename at hi
  rw [b7] at hi
  cases hl:look s.F i with
  | none=>rw [hl] at hi;cases hi
  | some z =>
   rw [hl] at hi;injection hi with hi;subst hi
   exact ok.two (h.ct i z hl) (fun _=>rfl) BG (fun _=>rfl) BF
 ·rw [jQ] at hr
  have:∃j q,look s.H j=some q∧ck i=φ j∧r=eC x y q:=by
   by_cases e:i=y
   ·rw [if_pos e] at hr
    cases hl:look s.H x with
    | none=>rw [hl] at hr;cases hr
    | some q=>rw [hl] at hr;injection hr with hr;exact ⟨x,q,hl,by simp [ck,e],hr.symm⟩
   ·rw [if_neg e] at hr
    by_cases e2:i=x
    ·rw [if_pos e2] at hr;cases hr
    ·rw [if_neg e2] at hr
     cases hl:look s.H i with
     | none=>rw [hl] at hr;cases hr
     | some q=>rw [hl] at hr;injection hr with hr;exact ⟨i,q,hl,by simp [ck,e,e2],hr.symm⟩
  obtain ⟨j,q,hq,My,rfl⟩:=this
  have aK:=h.rows j q hq
  rw [My]
  unfold bJ at aK ⊢
  cases hb:φ j with
  | none =>
   rw [hb] at aK
   have:=(cA x y q).2.1
   simp only at aK ⊢
   rw [aK] at this;exact List.length_eq_zero_iff.1 this
  | some g =>
   rw [hb] at aK
   obtain ⟨cur,te,fr,hg,hf,hlen,mD,hc⟩:=aK
   refine ⟨cur,te,fr,hg,hf,by rw [(cA x y q).2.1];exact hlen,by rw [(cA x y q).2.1,(cA x y q).2.2.2];exact mD,fun j u z hu hz=>?_⟩
   rw [(cA x y q).2.2.1]
   unfold a_
   cases hp:q.pure with
   | true =>
    have:eC x y q=q:=by unfold eC;rw [hp]
    rw [this] at hz
    have:=hc j u z hu hz
    unfold a_ at this;rw [hp] at this
    exact this.mono qS
   | false =>
    have:(eC x y q).cells=q.cells.map (ky x y):=by unfold eC;rw [hp]
    rw [this,List.getElem?_map] at hz
    cases hj:q.cells[j]? with
    | none=>rw [hj] at hz;cases hz
    | some z' =>
     rw [hj] at hz;injection hz with hz;subst hz
     have:=hc j u z' hu hj
     unfold a_ at this;rw [hp] at this
     exact ok.all this
 ·rw [jQ] at hi
  by_cases e:i=y
  ·rw [if_pos e] at hi
   cases hl:look s.H x with
   | none=>simp [ck,e,h.only x hl]
   | some q=>rw [hl] at hi;cases hi
  ·rw [if_neg e] at hi
   by_cases e2:i=x
   ·simp [ck,e2,cK]
   ·rw [if_neg e2] at hi
    cases hl:look s.H i with
    | none=>simp [ck,e,e2,h.only i hl]
    | some q=>rw [hl] at hi;cases hi
 ·obtain ⟨i',h1,h2,h3⟩:=mi i g hi
  obtain ⟨j',h4,h5,h6⟩:=mi j g hj
  have e:=h.inj i' j' g h1 h4
  by_cases ei:i=y<;>by_cases ej:j=y
  ·rw [ei,ej]
  ·have:=h2 ei;have:=h6 ej
   have:j=x:=ah
   subst this
   simp [ck,cK] at hj
  ·have:=h3 ei;have:=h5 ej
   have:i=x:=ah
   subst this
   simp [ck,cK] at hi
  ·have:=h3 ei;have:=h6 ej;omega
 ·obtain ⟨j,h1,h2,h3⟩:=mi i g hi
  have:=h.cL j g h1
  refine ⟨⟨?_,this.1.2⟩,this.2⟩
  by_cases e:i=y
  ·have hj:=h2 e
   subst hj
   rw [e]
   exact OT.imp (fun h=>h) fun h=>h g h1
  ·rw [←h3 e];exact this.1.1
end
section
variable {Z Z':bf} {w0 w w':World} {n:Nat} {O:List Nat} {s:AS} {a a':Act} {φ:Nat->Option Nat}
theorem aH.qw (h:aH Z w0 n O s a w φ) (dc:w.heap.size≤w'.heap.size) (hb:∀b,Z.S b->b<w.heap.size->w'.heap[b]?=w.heap[b]?) (hS:∀b,Z.S b->b<w.heap.size->Z'.S b) (lL:∀b,(w'.heap.size≤b∨Z'.X b)->Z'.S b) (hX:∀id g,φ id=some g->Z'.X g)
  (Kz:∀id g,φ id=some g->id<1000000000000∨Z'.fix id=some g) (ht:a'.tmps=a.tmps) (hd:a'.defers=Z'.rV) (UL:Good w') (UK:∀b,TB b-> ¬Z'.X b):aH Z' w' n O s a' w' φ:=by
 have hF:∀b,aJ Z w φ O b->aJ Z' w' φ O b∧w'.heap[b]?=w.heap[b]?:=fun b kE=>⟨⟨Nat.lt_of_lt_of_le kE.1 dc,kE.2.1,kE.2.2.1,hS b kE.2.2.2 kE.1⟩,hb b kE.2.2.2 kE.1⟩
 have bY:∀id g,φ id=some g->w'.heap[g]?=w.heap[g]?:=fun id g hg=>hb g (h.new g (h.cL id g hg).1.2) (h.cL id g hg).2
 have hL:∀id e m g,az s.H φ id=some (e,m,some g)->aS w' g=aS w g:=fun id e m g hi=>by
  obtain ⟨_,-,-,-,hg⟩:=aL hi
  unfold aS;rw [bY id g hg]
 refine ⟨by rw [ht];exact h.jF,hd,⟨rfl,rfl,rfl,Nat.le_refl _,fun _ _ _=>rfl,UL,UK⟩,fun i av hi=>?_,fun id r hr=>?_,h.only,h.inj,fun id g hg=>⟨⟨Kz id g hg,.inr (hX id g hg)⟩,Nat.lt_of_lt_of_le (h.cL id g hg).2 dc⟩,h.apart,lL⟩
 ·rw [ht];exact (h.ct i av hi).mono (fun _ _ h=>h) hF hL
 ·have aK:=h.rows id r hr
  unfold bJ at aK ⊢
  cases hg:φ id with
  | none=>rw [hg] at aK;exact aK
  | some g =>
   rw [hg] at aK
   obtain ⟨cur,te,fr,u1,u2,u3,u4,u5⟩:=aK
   refine ⟨cur,te,fr,(bY id g hg).trans u1,u2,u3,u4,fun j u x hu hx=>?_⟩
   have:=u5 j u x hu hx
   unfold a_ at this ⊢
   cases hp:r.pure with
   | true=>rw [hp] at this;exact this.mono hF
   | false=>rw [hp] at this;exact this.mono (fun _ _ h=>h) hF hL
end
def mu:AV->Bool
 | .val _=>true
 | .nil=>true
 | .ref _=>true
 | .pre _ _=>true
 | .jg _ _ _=>true
 | .addr _ _=>true
 | _=>false
def jr (H:List (Nat×Row)):Prop:=∀id r,look H id=some r-> ∀(j:Nat) x,r.cells[j]?=some x->mu x=true
theorem CH {I:Info} {S S':Nat->Prop} {w w':World} {v:Value} {x:AV} (h:Den I S w v x) (hc:mu x=true) (hL:∀id e m g,I id=some (e,m,some g)->aS w' g=aS w g):Den I S' w' v x:=by
 cases h with
 | rep h=>cases h with
  | val v=>exact .rep (.val v)
  | nil=>exact .rep .nil
  | _=>cases hc
 | agg=>cases hc
 | br=>cases hc
 | ref id e m g l c hi hm kR hx hs=>exact .ref id e m g l c hi hm kR hx ((hL _ _ _ _ hi).trans hs)
 | cw id e hi=>exact .cw id e hi
 | pre id n e m g l c hi hn hm kR hx hs=>exact .pre id n e m g l c hi hn hm kR hx ((hL _ _ _ _ hi).trans hs)
 | df id e hi=>exact .df id e hi
 | jg id off n e m l c g A hi hn hm kR hx ha=>exact .jg id off n e m l c g A hi hn hm kR hx ha
 | addr id off e m g hi=>exact .addr id off e m g hi
 | dead v=>exact .dead v
theorem Bu {S S':Nat->Prop} {w w':World} {v:Value} {x:AV} (h:cp S w v x) (hc:mu x=true):cp S' w' v x:=by
 cases h with
 | val v=>exact .val v
 | nil=>exact .nil
 | _=>cases hc
def nW (P:Program) (l:Nat) (vs:List Value) (w:World) (T:Bool->World->Prop):Prop :=
 ∃fn tmps TL bd,(Instr.yield l vs.toArray).run P w= .ok (.round l fn tmps TL bd) w∧RoundIn Fence.wide 0 P l fn tmps TL bd w fun e w'=>∃t,e= .returned (.bool t)∧T t w'
structure Jf (O:Nat->Prop) (w w':World):Prop where
 os:w'.os=w.os
 tape:w'.tape=w.tape
 output:w'.output=w.output
 size:w.heap.size≤w'.heap.size
 block:∀b,b<w.heap.size-> ¬O b->w'.heap[b]?=w.heap[b]?
def jM (J:(Nat->Prop)->(Nat->Prop)->World->Prop):Prop :=
 ∀O K w O' K' w',J O K w->Jf O w w'->(∀b,O' b->O b∨w.heap.size≤b)->(∀b,K' b->K b∨w.heap.size≤b)->J O' K' w'
def wJ (P:Program) (f:Nat) (lp:List AV) (A:Nat->List AV) (N:Nat):Prop :=
 ∀(l:Nat) (w:World) (S:Nat->Prop) (cv:List Value) (J:Nat->(Nat->Prop)->(Nat->Prop)->World->Prop) (X:(Nat->Prop)->(Nat->Prop)->World->Prop),
  Good w->(∀b,S b->b<w.heap.size)->cv.length=lp.length->(∀(j:Nat) v x,cv[j]?=some v->lp[j]?=some x->cp S w v x) ->
  (∀i,jM (J i))->jM X ->
  (∀i,i<N-> ∀(O K:Nat->Prop) (w1:World) (vs:List Value),J i O K w1->(∀b,O b->K b)->(∀b,K b->b<w1.heap.size)->vs.length=(A i).length->(∀(j:Nat) v x,vs[j]?=some v->(A i)[j]?=some x->cp K w1 v x) ->
   nW P l vs w1 fun t w2=>Good w2∧w1.heap.size≤w2.heap.size∧(∀b,K b->w2.heap[b]?=w1.heap[b]?)∧(t=true->J (i+1) O K w2)∧(t=false->X O K w2)) ->
  J 0 (fun _=>False) S w ->
  Calls P f (Value.func (.yield l) #[] #[]::cv).toArray w fun e w'=>∃v O K,e= .returned v∧(J N O K w'∨X O K w')
def QY (H:List (Nat×Row)):AV->Bool
 | .val _=>true
 | .nil=>true
 | .arr _=>true
 | .sl _ _=>true
 | .ptr _ _=>true
 | .lu _ _=>true
 | .agg cs=>dD cs
 | .dead=>true
 | .addr id _=>(match Nat.ble 1000000000000 id,look H id with|true,some r=>(match r.cells with| []=>false|_::_=>true)|_,_=>false)
 | _=>false
def Oo (F:List (Nat×AV)) (H:List (Nat×Row)):Prop:=∀i x,look F i=some x->QY H x=true
def BH (H:List (Nat×Row)):List (Nat×AV)->Bool
 | []=>true
 | (_,x)::F=>match QY H x with|true=>BH H F|false=>false
theorem pt {H:List (Nat×Row)}:∀ {F:List (Nat×AV)},BH H F=true->Oo F H
 | [],_,i,x,h=>by cases h
 | (k,y)::F,hb,i,x,h=>by
  simp only [BH] at hb
  split at hb
  ·rename_i hy
   rw [aB] at h
   by_cases e:k=i
   ·rw [if_pos e] at h;injection h with h;subst h;exact hy
   ·rw [if_neg e] at h;exact pt hb i x h
  ·cases hb
structure El (op:List (Value×AV)) (S0:bf) (w0:World) (n:Nat) (tm:Array Value) (fx:Nat->Option Nat) (r l:Nat) (we:World) (rc:Loop) (s:AS) (O K:Nat->Prop) (w:World):Prop where
 ex:∃(wb:World) (φ:Nat->Option Nat) (Z:bf),aH Z wb n [] s ⟨tm,[]⟩ wb φ∧Z.fix=fx∧we.heap.size≤wb.heap.size∧wb.heap.size≤w.heap.size∧(∀b,Z.S b->b<wb.heap.size->w.heap[b]?=wb.heap[b]?)∧(∀b,Z.S b->b<wb.heap.size->S0.S b) ∧
  (∀id g,φ id=some g->w0.heap.size≤g∨S0.X g)∧(∀b,O b->b<wb.heap.size-> ¬Z.S b)∧(∀b,K b-> ∀id,φ id≠some b)∧ ¬Z.S l∧ ¬Z.S r∧ ∀p∈op,cp (aJ Z wb φ []) wb p.1 p.2
 kept:Kept S0 w0 w
 base:w0.heap.size≤we.heap.size
 PM:∀b,O b->we.heap.size≤b
 hl:l<we.heap.size
 hr:r<we.heap.size
 Kl:¬K l
 GM:w.heap[l]?=some (.loop rc)
 Kb:∀b,w0.heap.size≤b->S0.S b
 NR:w0.heap.size≤l
 rl:r≠l
 Kr:¬K r
 jJ:w.heap[r]?=some (.deferred (some []))
section
variable {op:List (Value×AV)} {P:Program} {S0:bf} {w0:World} {n:Nat} {tm:Array Value} {fx:Nat->Option Nat} {r l:Nat} {we:World} {rc:Loop} {s:AS}
theorem El.Gj:jM (El op S0 w0 n tm fx r l we rc s):=by
 intro O K w O' K' w' h st hO hK
 obtain ⟨wb,φ,Z,h1,h2,h3,h4,h5,h6,h7,h8,h9,Jw,H6,Nc⟩:=h.ex
 have hle:we.heap.size≤w.heap.size:=Nat.le_trans h3 h4
 refine ⟨⟨wb,φ,Z,h1,h2,h3,Nat.le_trans h4 st.size,fun b hb cW=>(st.block b ah fun ho=>h8 b ho cW hb).trans (h5 b hb cW),h6,h7,fun b hb cW=>?_,fun b hb id hid=>?_,Jw,H6,Nc⟩,?_,h.base,fun b hb=>?_,h.hl,h.hr,fun hb=>?_,?_,?_,?_,?_,?_,?_⟩
 ·rcases hO b hb with hb|hb
  ·exact h8 b hb cW
  ·omega
 ·rcases hK b hb with hb|hb
  ·exact h9 b hb id hid
  ·have:=(h1.cL id b hid).2;omega
 ·exact ⟨st.os.trans h.kept.os,st.tape.trans h.kept.tape,st.output.trans h.kept.output,Nat.le_trans h.kept.size st.size,fun k hk hx=>(st.block k (Nat.lt_of_lt_of_le hk h.kept.size) fun ho=>by have:=h.PM k ho;have:=h.base;omega).trans (h.kept.block k hk hx),h.kept.g0,h.kept.gx⟩
 ·rcases hO b hb with hb|hb
  ·exact h.PM b hb
  ·omega
 ·rcases hK l hb with hb|hb
  ·exact h.Kl hb
  ·have:=h.hl;omega
 ·exact (st.block l (by have:=h.hl;omega) fun ho=>by have:=h.PM l ho;have:=h.hl;omega).trans h.GM
 ·exact h.Kb
 ·exact h.NR
 ·exact h.rl
 ·intro hb
  rcases hK r hb with hb|hb
  ·exact h.Kr hb
  ·have:=h.hr;omega
 ·exact (st.block r (by have:=h.hr;omega) fun ho=>by have:=h.PM r ho;have:=h.hr;omega).trans h.jJ
def GU:List Nat->List AV->AS->AS
 | p::ps,x::xs,s=>GU ps xs (k9 s p x)
 | _,_,s=>s
theorem vX {Z:bf} {w:World} {φ:Nat->Option Nat}:∀(ps:List Nat) (vs:List Value) (xs:List AV) (s:AS) (a:Act),aH Z w0 n [] s a w φ->vs.length=xs.length->(∀p∈ps,p<n) ->
  (∀(j:Nat) v x,vs[j]?=some v->xs[j]?=some x->Den (az s.H φ) (aJ Z w φ []) w v x)->aH Z w0 n [] (GU ps xs s) ⟨(ps.zip vs).foldl (fun t p=>t.setIfInBounds p.1 p.2) a.tmps,a.defers⟩ w φ
 | [],vs,xs,s,a,h,_,_,_=>by
  cases xs<;>exact h
 | p::ps,[],xs,s,a,h,hl,_,_=>by
  cases xs with
  | nil=>exact h
  | cons=>simp at hl
 | p::ps,v::vs,[],s,a,h,hl,_,_=>by simp at hl
 | p::ps,v::vs,x::xs,s,a,h,hl,hp,hd=>by
  have h1:=h.put (hp p (by simp)) (hd 0 v x rfl rfl)
  exact vX ps vs xs (k9 s p x) (a.put (some p) v) h1 (by simpa using hl) (fun q hq=>hp q (by simp [hq])) fun j u y hu hy=>hd (j+1) u y (by simpa using hu) (by simpa using hy)
theorem Hc {F:List (Nat×AV)} {H X:List (Nat×Row)} {O K:Nat->Prop} {w1 w3 QR:World} {S3:bf} {a3:Act} {vb:Nat->Option Nat} {o7:Loop} {φ:Nat->Option Nat} {wb:World} {Z:bf}
  (hM:El op S0 w0 n tm fx r l we rc ⟨F,H⟩ O K w1) (Oe:∀b,O b->K b) (hK:∀b,K b->b<w1.heap.size)
  (h1:aH Z wb n [] ⟨F,H⟩ ⟨tm,[]⟩ wb φ) (h2:Z.fix=fx) (h3:we.heap.size≤wb.heap.size) (h4:wb.heap.size≤w1.heap.size) (h5:∀b,Z.S b->b<wb.heap.size->w1.heap[b]?=wb.heap[b]?) (h6:∀b,Z.S b->b<wb.heap.size->S0.S b)
  (h7:∀id g,φ id=some g->w0.heap.size≤g∨S0.X g) (h8:∀b,O b->b<wb.heap.size-> ¬Z.S b) (h9:∀b,K b-> ∀id,φ id≠some b) (Jw:¬Z.S l) (H6:¬Z.S r) (Nc:∀p∈op,cp (aJ Z wb φ []) wb p.1 p.2)
  (E5:aH S3 QR n [] ⟨[],X⟩ a3 w3 vb) (Kz:S3.fix=fx) (Od:∀id g,vb id=some g->w1.heap.size≤g∨lx φ g) (RF:¬S3.S l) (Un:¬S3.S r)
  (HK:w3.os=w1.os) (ug:w3.tape=w1.tape) (uh:w3.output=w1.output) (dc:w1.heap.size≤w3.heap.size) (Ah:∀b,b<w1.heap.size-> ¬lx φ b->b≠l->w3.heap[b]?=w1.heap[b]?)
  (hX:jr X) (hF:Oo F H) (Sg:Oo F X) :
  El op S0 w0 n tm fx r l we o7 ⟨F,X⟩ O K (w3.putObj l (.loop o7))∧(∀b,K b->(w3.putObj l (.loop o7)).heap[b]?=w1.heap[b]?):=by
 have LC:l<w3.heap.size:=by have:=hM.hl;omega
 have BU:∀b,b≠l->(w3.putObj l (.loop o7)).heap[b]?=w3.heap[b]?:=fun b hb=>World.putObj_heap_other hb
 have DO:∀b,b<w1.heap.size-> ¬lx φ b->b≠l->(w3.putObj l (.loop o7)).heap[b]?=w1.heap[b]?:=fun b hb hn cK=>(BU b cK).trans (Ah b hb hn cK)
 have own:∀id g,φ id=some g->Z.S g∧g<wb.heap.size:=fun id g hg=>⟨h1.new g (h1.cL id g hg).1.2,(h1.cL id g hg).2⟩
 have Mp:∀id g,vb id=some g->S3.S g∧g<w3.heap.size:=fun id g hg=>⟨E5.new g (E5.cL id g hg).1.2,(E5.cL id g hg).2⟩
 have Q0:∀id g,vb id=some g->g≠l:=fun id g hg e=>RF (e ▸ (Mp id g hg).1)
 have Vb:∀id e m g,az X vb id=some (e,m,some g)->aS (w3.putObj l (.loop o7)) g=aS w3 g:=fun id e m g hi=>by
  obtain ⟨_,-,-,-,hg⟩:=aL hi
  unfold aS;rw [BU g (Q0 id g hg)]
 let Z4:bf:=⟨fun b=>(Z.S b∧b<wb.heap.size)∨lx vb b∨(w3.putObj l (.loop o7)).heap.size≤b,lx vb,fx,[]⟩
 have Kp:(w3.putObj l (.loop o7)).heap.size=w3.heap.size:=World.putObj_size
 have fb:Kept S0 w0 (w3.putObj l (.loop o7)):=by
  refine ⟨HK.trans hM.kept.os,ug.trans hM.kept.tape,uh.trans hM.kept.output,by rw [Kp];exact Nat.le_trans hM.kept.size dc,fun k hk hx=>?_,hM.kept.g0,hM.kept.gx⟩
  have UD:k<w1.heap.size:=Nat.lt_of_lt_of_le hk hM.kept.size
  refine (DO k UD (fun ⟨id,hid⟩=>?_) (fun e=>?_)).trans (hM.kept.block k hk hx)
  ·rcases h7 id k hid with h|h
   ·omega
   ·exact hx h
  ·have:=hM.NR;omega
 have SV:∀b,lx vb b->b<wb.heap.size->Z.S b:=fun b ⟨id,hid⟩ cW=>by
  rcases Od id b hid with h|⟨j,hj⟩
  ·omega
  ·exact (own j b hj).1
 have uk:∀b,aJ Z wb φ [] b->aJ Z4 (w3.putObj l (.loop o7)) vb [] b∧(w3.putObj l (.loop o7)).heap[b]?=wb.heap[b]?:=by
  intro b ⟨f1,f2,f3,f4⟩
  have cK:b≠l:=fun e=>Jw (e ▸ f4)
  have hn:¬lx φ b:=fun ⟨id,hid⟩=>f3 id hid
  refine ⟨⟨by rw [Kp];omega,by simp,fun id hid=>?_,.inl ⟨f4,f1⟩⟩,(DO b ah hn cK).trans (h5 b f4 f1)⟩
  rcases Od id b hid with h|h
  ·omega
  ·exact hn h
 have fS:aH Z4 (w3.putObj l (.loop o7)) n [] ⟨F,X⟩ ⟨tm,[]⟩ (w3.putObj l (.loop o7)) vb:=by
  refine ⟨h1.jF,rfl,⟨rfl,rfl,rfl,Nat.le_refl _,fun _ _ _=>rfl,fb.mm,fun b hb=>E5.se hb⟩,fun i av hi=>?_,fun id q hq=>?_,E5.only,E5.inj,fun id g hg=>⟨⟨?_,.inr ⟨id,hg⟩⟩,by rw [Kp];exact (Mp id g hg).2⟩,fun _ _ _ h=>(by cases h),fun b hb=>?_⟩
  ·
   have dz:Den (az H φ) (aJ Z wb φ []) wb (tm.getD i undef) av:=h1.ct i av hi
   show Den (az X vb) (aJ Z4 (w3.putObj l (.loop o7)) vb []) (w3.putObj l (.loop o7)) (tm.getD i undef) av
   generalize tm.getD i undef=tv at dz ⊢
   have DQ:=hF i av hi
   have HQ:=Sg i av hi
   have qj:cp (aJ Z wb φ []) wb tv av->Den (az X vb) (aJ Z4 (w3.putObj l (.loop o7)) vb []) (w3.putObj l (.loop o7)) tv av:=fun h=>.rep (h.mono uk)
   cases av with
   | val=>exact qj (by cases dz with|rep h=>exact h)
   | nil=>exact qj (by cases dz with|rep h=>exact h)
   | arr=>exact qj (by cases dz with|rep h=>exact h)
   | sl=>exact qj (by cases dz with|rep h=>exact h)
   | ptr=>exact qj (by cases dz with|rep h=>exact h)
   | lu=>exact qj (by cases dz with|rep h=>exact h)
   | dead=>exact .dead _
   | agg cs =>
    obtain ⟨vs,hv,qP,hd⟩:=j8 dz
    rw [hv]
    exact .rep ((cp.agg vs cs qP fun j v c hv hc=>(dY (hd j v c hv hc) (ik DQ hc)).1).mono uk)
   | addr id off =>
    simp only [QY] at HQ
    split at HQ
    ·rename_i q hb lg
     split at HQ
     ·cases HQ
     ·rename_i x0 xs wm
      have u_:=Nat.le_of_ble_eq_true hb
      cases dz with
      | rep h=>cases h
      | addr _ _ e m g hi =>
       obtain ⟨_,-,-,-,hg⟩:=aL hi
       have UN:fx id=some g:=by
        rcases (h1.cL id g hg).1.1 with h|h
        ·omega
        ·rw [←h2];exact h
       have aK:=E5.rows id q lg
       unfold bJ at aK
       cases RN:vb id with
       | none=>rw [RN] at aK;simp only at aK;rw [wm] at aK;cases aK
       | some g4 =>
        have:fx id=some g4:=by
         rcases (E5.cL id g4 RN).1.1 with h|h
         ·omega
         ·rw [←Kz];exact h
        rw [UN] at this;injection this with this;subst this
        exact .addr id off q.e q.cells.length g (by unfold az;rw [lg,RN];rfl)
    ·cases HQ
   | _=>cases DQ
  ·
   have aK:=E5.rows id q hq
   unfold bJ at aK ⊢
   cases hg:vb id with
   | none=>rw [hg] at aK;exact aK
   | some g =>
    rw [hg] at aK
    obtain ⟨cur,te,fr,u1,u2,u3,u4,u5⟩:=aK
    refine ⟨cur,te,fr,(BU g (Q0 id g hg)).trans u1,u2,u3,u4,fun j u x hu hx=>?_⟩
    have:=u5 j u x hu hx
    have hc:=hX id q hq j x hx
    unfold a_ at this ⊢
    cases hp:q.pure with
    | true=>rw [hp] at this;exact Bu this hc
    | false=>rw [hp] at this;exact CH this hc Vb
  ·rcases (E5.cL id g hg).1.1 with h|h
   ·exact .inl h
   ·right;show fx id=some g;rw [←Kz];exact h
  ·rcases hb with h|h
   ·exact .inr (.inr h)
   ·exact .inr (.inl h)
 refine ⟨⟨⟨w3.putObj l (.loop o7),vb,Z4,fS,rfl,by rw [Kp];omega,Nat.le_refl _,fun _ _ _=>rfl,fun b hb cW=>?_,fun id g hg=>?_,fun b hb cW hS=>?_,fun b hb id hid=>?_,fun hS=>?_,fun hS=>?_,fun p hp=>(Nc p hp).mono uk⟩,?_,hM.base,hM.PM,hM.hl,hM.hr,hM.Kl,World.putObj_heap_same LC,hM.Kb,hM.NR,hM.rl,hM.Kr,?_⟩,fun b hb=>?_⟩
 ·rcases hb with h|⟨id,hid⟩|h
  ·exact h6 b h.1 h.2
  ·rcases Od id b hid with h|⟨j,hj⟩
   ·
    have:=hM.base;exact hM.Kb b ah
   ·exact h6 b (own j b hj).1 (own j b hj).2
  ·omega
 ·rcases Od id g hg with h|⟨j,hj⟩
  ·left;have:=hM.base;omega
  ·exact h7 j g hj
 ·rcases hS with h|h|h
  ·exact h8 b hb h.2 h.1
  ·obtain ⟨id,hid⟩:=h
   rcases Od id b hid with h|⟨j,hj⟩
   ·have:=hK b (Oe b hb);omega
   ·exact h8 b hb (own j b hj).2 (own j b hj).1
  ·have:=hK b (Oe b hb);omega
 ·rcases Od id b hid with h|⟨j,hj⟩
  ·have:=hK b hb;omega
  ·exact h9 b hb j hj
 ·rcases hS with h|⟨id,hid⟩|h
  ·exact Jw h.1
  ·exact Q0 id l hid rfl
  ·omega
 ·rcases hS with h|⟨id,hid⟩|h
  ·exact H6 h.1
  ·exact Un (Mp id r hid).1
  ·have:=hM.hr;omega
 ·exact fb
 ·have cK:r≠l:=hM.rl
  refine (DO r (by have:=hM.hr;omega) (fun ⟨id,hid⟩=>H6 (own id r hid).1) cK).trans hM.jJ
 ·refine DO b (hK b hb) (fun ⟨id,hid⟩=>h9 b hb id hid) fun e=>hM.Kl (e ▸ hb)
end
def Mo:Code->Option (Operand×Array Tmp×Code×Code)
 | .rangeFunc g ps x b=>some (g,ps,x,b)
 | _=>none
def J4:List (Nat×Nat)->AS->AS
 | [],s=>s
 | (x,y):: ρ,s=>J4 ρ (rename x y (bX y s))
def k8:List (Nat×Nat)->AS->AS
 | [],s=>s
 | (x,y):: ρ,s=>k8 ρ (rename y x (bX x s))
def mZ:List (Nat×Nat)->Bool
 | []=>true
 | (x,y):: ρ =>match Nat.ble x 999999999999,Nat.ble 1000000000000 y with|true,true=>mZ ρ |_,_=>false
section
variable {n:Nat} {a:Act} {w w0:World}
theorem GZ:∀(ρ :List (Nat×Nat)) (s:AS) (Z:bf) (φ:Nat->Option Nat),mZ ρ =true->aH Z w0 n [] s a w φ-> ∃fx ck,aH ⟨Z.S,Z.X,fx,Z.rV⟩ w0 n [] (J4 ρ s) a w ck∧(∀i,i ∉ ρ.map (·.2)->fx i=Z.fix i)∧(∀id g,ck id=some g->lx φ g)
 | [],s,Z,φ,_,h=>⟨Z.fix,φ,h,fun _ _=>rfl,fun id g hg=>⟨id,hg⟩⟩
 | (x,y):: ρ,s,Z,φ,hp,h=>by
  simp only [mZ] at hp
  split at hp
  ·rename_i hx hy
   have hx:=Nat.le_of_ble_eq_true hx
   have hy:=Nat.le_of_ble_eq_true hy
   have h1:=h.l3 y
   let Z2:bf:=⟨Z.S,Z.X,fun i=>if i=y then erase φ y x else Z.fix i,Z.rV⟩
   have h2:aH Z2 w0 n [] (bX y s) a w (erase φ y):=⟨h1.jF,h1.jJ,⟨h1.cM.os,h1.cM.tape,h1.cM.output,h1.cM.size,h1.cM.block,h1.cM.g0,h1.cM.gx⟩,h1.ct,h1.rows,h1.only,h1.inj,fun id g hg=>⟨⟨(h1.cL id g hg).1.1.imp (fun h=>h) fun hf=>by
     show (if id=y then erase φ y x else Z.fix id)=some g
     have cK:id≠y:=fun e=>by subst e;unfold erase at hg;rw [if_pos rfl] at hg;cases hg
     rw [if_neg cK];exact hf,(h1.cL id g hg).1.2⟩,(h1.cL id g hg).2⟩,h1.apart,h1.new⟩
   have h3:=h2.Dt x y (.inr fun g hg=>by show (if y=y then erase φ y x else Z.fix y)=some g;rw [if_pos rfl];exact hg) ah (cZ y)
   obtain ⟨fx,ck,h4,h5,h6⟩:=GZ ρ _ Z2 _ hp h3
   refine ⟨fx,ck,h4,fun i hi=>?_,fun id g hg=>?_⟩
   ·simp only [List.map_cons,List.mem_cons,not_or] at hi
    rw [h5 i hi.2]
    show (if i=y then erase φ y x else Z.fix i)=Z.fix i
    rw [if_neg hi.1]
   ·obtain ⟨j,hj⟩:=h6 id g hg
    unfold y_ erase at hj
    split at hj
    ·split at hj
     ·cases hj
     ·exact ⟨_,hj⟩
    ·split at hj
     ·cases hj
     ·exact ⟨_,hj⟩
  ·cases hp
theorem yz {Z:bf}:∀(ρ :List (Nat×Nat)) (s:AS) (φ:Nat->Option Nat),mZ ρ =true->aH Z w0 n [] s a w φ-> ∃ ck,aH Z w0 n [] (k8 ρ s) a w ck∧(∀id g,ck id=some g->lx φ g)∧(∀id,1000000000000≤id->id∈ ρ.map (·.2)∨φ id=none->ck id=none)
 | [],s,φ,_,h=>⟨φ,h,fun id g hg=>⟨id,hg⟩,fun id _ hid=>hid.resolve_left (by simp)⟩
 | (x,y):: ρ,s,φ,hp,h=>by
  simp only [mZ] at hp
  split at hp
  ·rename_i hx hy
   have hx:=Nat.le_of_ble_eq_true hx
   have hy:=Nat.le_of_ble_eq_true hy
   have h1:=h.l3 x
   have h3:=h1.Dt y x (.inl ah) ah (cZ x)
   obtain ⟨ck,h4,h5,h6⟩:=yz ρ _ _ hp h3
   refine ⟨ck,h4,fun id g hg=>?_,fun id hid sH=>h6 id hid ?_⟩
   ·obtain ⟨j,hj⟩:=h5 id g hg
    unfold y_ erase at hj
    split at hj
    ·split at hj
     ·cases hj
     ·exact ⟨_,hj⟩
    ·split at hj
     ·cases hj
     ·exact ⟨_,hj⟩
   ·have key:(id=y∨φ id=none)->y_ y x (erase φ x) id=none:=by
     intro sH
     unfold y_ erase
     rw [if_neg ah]
     rcases sH with e|e
     ·rw [if_pos e]
     ·split
      ·rfl
      ·rw [if_neg ah];exact e
    rcases sH with sH|sH
    ·simp only [List.map_cons,List.mem_cons] at sH
     rcases sH with sH|sH
     ·exact .inr (key (.inl sH))
     ·exact .inl sH
    ·exact .inr (key (.inr sH))
  ·cases hp
end
def C5 (op:List (Value×AV)) (s s1:AS):Prop:=∀Z w0 n a w φ,aH Z w0 n [] s a w φ->(∀p∈op,cp (aJ Z w φ []) w p.1 p.2)->aH Z w0 n [] s1 a w φ
def RQ (op:List (Value×AV)) (Q:Exit->AS->Prop) (ρ :List (Nat×Nat)) (F:List (Nat×AV)) (H:List (Nat×Row)):Exit->AS->Prop
 | .normal,s'=>bN s' ⟨[],H⟩
 | .exit id,s'=>∃X s1,jr X∧BH X F=true∧bN s' ⟨[],X⟩∧C5 op ⟨F,X⟩ s1∧Q (.exit id) (k8 ρ s1)
 | .ret,s'=>∃X s1,jr X∧BH X F=true∧bN s' ⟨[],X⟩∧C5 op ⟨F,X⟩ s1∧Q .ret (k8 ρ s1)
 | _,_=>False
def Jg (op:List (Value×AV)) (Q:Exit->AS->Prop) (ρ :List (Nat×Nat)) (s:AS) (c:Code):Prop:=∃s1,C5 op s s1∧((∃id,c= .exit id∧Q (.exit id) (k8 ρ s1))∨(c= .ret∧Q .ret (k8 ρ s1)))
section
variable {op:List (Value×AV)} {P:Program} {S0:bf} {w0:World} {n:Nat} {tm:Array Value} {fx:Nat->Option Nat} {r l:Nat} {we:World} {Q:Exit->AS->Prop} {ρ :List (Nat×Nat)}
theorem ER {fn:FuncId} {ps:Array Tmp} {x bd:Code} {F:List (Nat×AV)} {H H':List (Nat×Row)} {As:List AV} {O K:Nat->Prop} {w1:World} {vs:List Value}
  (hM:El op S0 w0 n tm fx r l we {state:=.ready,pending:=none,fn:=fn,tmps:=tm,params:=ps,assign:=x,body:=bd,defers:=r} ⟨F,H⟩ O K w1) (Oe:∀b,O b->K b) (hK:∀b,K b->b<w1.heap.size)
  (hl:vs.length=As.length) (hd:∀(j:Nat) v x,vs[j]?=some v->As[j]?=some x->cp K w1 v x) (Pf:ps.toList.length=As.length) (Ph:∀p∈ps.toList,p<n) (KE:kN x=true) (PC:kN bd=true)
  (hA:a7 P n x (rv (a7 P n bd (RQ op Q ρ F H')) (fun _ _=>False)) (GU ps.toList As ⟨F,H⟩)) (Vc:jr H') (hF:Oo F H) (Vf:Oo F H') :
  nW P l vs w1 fun t w2=>Good w2∧w1.heap.size≤w2.heap.size∧(∀b,K b->w2.heap[b]?=w1.heap[b]?) ∧
   (t=true->El op S0 w0 n tm fx r l we {state:=.ready,pending:=none,fn:=fn,tmps:=tm,params:=ps,assign:=x,body:=bd,defers:=r} ⟨F,H'⟩ O K w2) ∧
   (t=false-> ∃X c,El op S0 w0 n tm fx r l we {state:=.done,pending:=some c,fn:=fn,tmps:=tm,params:=ps,assign:=x,body:=bd,defers:=r} ⟨F,X⟩ O K w2∧Jg op Q ρ ⟨F,X⟩ c):=by
 obtain ⟨wb,φ,Z,h1,h2,h3,h4,h5,h6,h7,h8,h9,Jw,H6,Nc⟩:=hM.ex
 have own:∀id g,φ id=some g->Z.S g∧g<wb.heap.size:=fun id g hg=>⟨h1.new g (h1.cL id g hg).1.2,(h1.cL id g hg).2⟩
 have LC:l<w1.heap.size:=by have:=hM.hl;omega
 have DR:¬lx φ l:=fun ⟨id,hid⟩=>Jw (own id l hid).1
 have Te:¬lx φ r:=fun ⟨id,hid⟩=>H6 (own id r hid).1
 refine ⟨_,_,_,_,run_yield hM.GM (by simp [hl,←Pf]),?_⟩
 refine roundIn_of_wpIn trivial ?_
 let Z1:bf:=⟨fun b=>(Z.S b∧b<wb.heap.size)∨w1.heap.size≤b∨K b,lx φ,fx,[]⟩
 have FU:¬Z1.S l:=fun h=>by
  rcases h with h|h|h
  ·exact Jw h.1
  ·omega
  ·exact hM.Kl h
 have Pa:¬Z1.S r:=fun h=>by
  rcases h with h|h|h
  ·exact H6 h.1
  ·have:=hM.hr;omega
  ·exact hM.Kr h
 have Pk:∀b,(w1.heap.size≤b∨lx φ b)->Z1.S b:=fun b hb=>hb.elim (fun h=>.inr (.inl h)) fun ⟨id,hid⟩=>.inl (own id b hid)
 have s1:aH Z1 w1 n [] ⟨F,H⟩ ⟨tm,[]⟩ w1 φ:=h1.qw h4 (fun b hb cW=>h5 b hb cW) (fun b hb cW=>.inl ⟨hb,cW⟩) Pk (fun id g hg=>⟨id,hg⟩) (fun id g hg=>by
  rcases (h1.cL id g hg).1.1 with h|h
  ·exact .inl h
  ·right;show fx id=some g;rw [←h2];exact h) rfl rfl hM.kept.mm (fun b hb=>h1.se hb)
 have s2:=vX ps.toList vs As ⟨F,H⟩ ⟨tm,[]⟩ s1 hl Ph fun j v x hv hx=>.rep ((hd j v x hv hx).mono fun b hb=>⟨⟨hK b hb,by simp,h9 b hb,.inr (.inr hb)⟩,rfl⟩)
 have e0:((ps.zip vs.toArray).foldl (fun (t:Array Value) (p:Tmp×Value)=>t.setIfInBounds p.1 p.2) tm)=((ps.toList.zip vs).foldl (fun t p=>t.setIfInBounds p.1 p.2) tm):=by
  rw [←Array.foldl_toList];simp
 have hx:=hA Z1 w1 _ w1 ⟨φ,s2⟩
 have e1:({tmps:=((ps.zip vs.toArray).foldl (fun (t:Array Value) (p:Tmp×Value)=>t.setIfInBounds p.1 p.2) tm),defers:=[]}:Act)=⟨(ps.toList.zip vs).foldl (fun t p=>t.setIfInBounds p.1 p.2) tm,[]⟩:=by rw [e0]
 show x.wpIn (Fence.wide.inRound l) 0 P _ ({tmps:=((ps.zip vs.toArray).foldl (fun (t:Array Value) (p:Tmp×Value)=>t.setIfInBounds p.1 p.2) tm),defers:=[]}:Act) w1
 rw [e1]
 refine ic (ro:=some l) x _ _ _ KE (by rintro ⟨_,_,h⟩;exact h) (dH x _ _ (fun e a1 Lk ⟨s',hq,bU⟩=>?_) _ _ hx)
 cases e with
 | normal =>
  obtain ⟨S1,VH,ms,hE,iy,gI⟩:=bU
  have k1:=hE.kept.trans gI.cM hE.X
  have O_:=(k1.block l LC DR).trans hM.GM
  refine ⟨_,run_beginRound O_ rfl,?_⟩
  generalize NV:Lk.putObj l _=w2
  have E3:w2.heap.size=Lk.heap.size:=by rw [←NV];exact World.putObj_size
  have FT:∀b,b≠l->w2.heap[b]?=Lk.heap[b]?:=fun b hb=>by rw [←NV];exact World.putObj_heap_other hb
  have O9:w2.heap[l]?=some (.loop {state:=.busy,pending:=none,fn:=fn,tmps:=tm,params:=ps,assign:=x,body:=bd,defers:=r}):=by rw [←NV];exact World.putObj_heap_same (Nat.lt_of_lt_of_le LC k1.size)
  have OH:∀id g,iy id=some g->S1.S g∧g<Lk.heap.size:=fun id g hg=>⟨gI.new g (gI.cL id g hg).1.2,(gI.cL id g hg).2⟩
  have M6:∀b,S1.S b->b≠l:=fun b hb e=>FU (hE.sub l (e ▸ hb))
  have Oz:∀id g,iy id=some g->w1.heap.size≤g∨lx φ g:=fun id g hg=>by
   rcases (gI.cL id g hg).1.2 with h|h
   ·exact .inl (Nat.le_trans hE.kept.size h)
   ·exact hE.X g h
  let Z2:bf:=⟨fun b=>(S1.S b∧b<Lk.heap.size)∨w2.heap.size≤b,lx iy,fx,a1.defers⟩
  have s3:aH Z2 w2 n [] s' a1 w2 iy:=gI.qw ah (fun b hb _=>FT b (M6 b hb)) (fun b hb cW=>.inl ⟨hb,cW⟩) (fun b hb=>hb.elim .inr fun ⟨id,hid⟩=>.inl (OH id b hid)) (fun id g hg=>⟨id,hg⟩) (fun id g hg=>by
   rcases (gI.cL id g hg).1.1 with h|h
   ·exact .inl h
   ·right;show fx id=some g;rw [hE.fix] at h;exact h) rfl rfl (gI.cM.mm.aa fun b hb=>FT b fun e=>hM.kept.se (.inl hM.NR) (e ▸ hb)) (fun b hb=>gI.se hb)
  have hb:=hq Z2 w2 a1 w2 ⟨iy,s3⟩
  refine ic (ro:=some l) bd _ _ _ PC (by rintro ⟨_,_,h⟩;exact h) (dH bd _ _ (fun e a3 w3 ⟨TU,Qq,Qn⟩=>?_) _ _ hb)
  obtain ⟨S3,QR,VQ,Nb,wK,Qn⟩:=Qn
  have k3:=Nb.kept.trans Qn.cM Nb.X
  have Rv:¬lx iy l:=fun ⟨id,hid⟩=>M6 l (OH id l hid).1 rfl
  have HI:=(k3.block l (by rw [E3];exact Nat.lt_of_lt_of_le LC k1.size) Rv).trans O9
  have Kq:w1.heap.size≤w3.heap.size:=Nat.le_trans k1.size (by rw [←E3];exact k3.size)
  have Ah:∀b,b<w1.heap.size-> ¬lx φ b->b≠l->w3.heap[b]?=w1.heap[b]?:=fun b cW hn cK =>
   (k3.block b (by rw [E3];exact Nat.lt_of_lt_of_le cW k1.size) fun ⟨id,hid⟩=>(Oz id b hid).elim (fun h=>ah) hn).trans ((FT b cK).trans (k1.block b cW hn))
  have HK:w2.os=Lk.os∧w2.tape=Lk.tape∧w2.output=Lk.output:=by rw [←NV];exact ⟨rfl,rfl,rfl⟩
  have R8:¬S3.S l:=fun h=>(Nb.sub l h).elim (fun h=>M6 l h.1 rfl) fun h=>by have:=k1.size;omega
  have R7:¬S3.S r:=fun h=>(Nb.sub r h).elim (fun h=>Pa (hE.sub r h.1)) fun h=>by have:=k1.size;have:=hM.hr;omega
  have next:∀(X:List (Nat×Row)) (o7:Loop),bN TU ⟨[],X⟩->jr X->Oo F X->El op S0 w0 n tm fx r l we o7 ⟨F,X⟩ O K (w3.putObj l (.loop o7))∧(∀b,K b->(w3.putObj l (.loop o7)).heap[b]?=w1.heap[b]?):=by
   intro X o7 hw hX Sg
   obtain ⟨vb,E5⟩:=hw S3 QR n a3 w3 ⟨wK,Qn⟩
   exact Hc hM Oe hK h1 h2 h3 h4 h5 h6 h7 h8 h9 Jw H6 Nc E5 Nb.fix (fun id g hg=>by
    rcases (E5.cL id g hg).1.2 with h|h
    ·left;have:=Nb.kept.size;have:=k1.size;omega
    ·rcases Nb.X g h with h|⟨j,hj⟩
     ·left;have:=k1.size;omega
     ·exact Oz j g hj) R8 R7 (k3.os.trans (HK.1.trans k1.os)) (k3.tape.trans (HK.2.1.trans k1.tape)) (k3.output.trans (HK.2.2.trans k1.output)) Kq Ah hX hF Sg
  cases e with
  | normal =>
   obtain ⟨g1,g2⟩:=next H' {state:=.ready,pending:=none,fn:=fn,tmps:=tm,params:=ps,assign:=x,body:=bd,defers:=r} Qq Vc Vf
   exact ⟨_,_,run_endRound none HI,true,rfl,g1.kept.mm,by rw [World.putObj_size];exact Kq,g2,fun _=>g1,fun h=>(by cases h)⟩
  | exit id =>
   obtain ⟨X,s1,q1,q2,q3,q5,q4⟩:=Qq
   obtain ⟨g1,g2⟩:=next X {state:=.done,pending:=some (.exit id),fn:=fn,tmps:=tm,params:=ps,assign:=x,body:=bd,defers:=r} q3 q1 (pt q2)
   exact ⟨_,_,run_endRound (some (.exit id)) HI,false,rfl,g1.kept.mm,by rw [World.putObj_size];exact Kq,g2,fun h=>(by cases h),fun _=>⟨X,.exit id,g1,s1,q5,.inl ⟨id,rfl,q4⟩⟩⟩
  | ret =>
   obtain ⟨X,s1,q1,q2,q3,q5,q4⟩:=Qq
   obtain ⟨g1,g2⟩:=next X {state:=.done,pending:=some .ret,fn:=fn,tmps:=tm,params:=ps,assign:=x,body:=bd,defers:=r} q3 q1 (pt q2)
   exact ⟨_,_,run_endRound (some .ret) HI,false,rfl,g1.kept.mm,by rw [World.putObj_size];exact Kq,g2,fun h=>(by cases h),fun _=>⟨X,.ret,g1,s1,q5,.inr ⟨rfl,q4⟩⟩⟩
  | _=>exact Qq.elim
 | _=>exact hq.elim
theorem DA {rc:Loop} {s s1:AS} {O K:Nat->Prop} {w':World} {a a':Act} (hM:El op S0 w0 n a.tmps fx r l we rc s O K w') (Mz :mZ ρ =true) (UO:∀i,i ∉ ρ.map (·.2)->fx i=S0.fix i) (Rp:w0.heap.size≤r) (ht:a'.tmps=a.tmps) (hd:a'.defers=mark r::S0.rV) (gw:C5 op s s1) (o7:Loop) :
  mL S0 w0 n (k8 ρ s1) a' (w'.putObj l (.loop o7)):=by
 obtain ⟨wb,φ,Z,h1,h2,h3,h4,h5,h6,h7,h8,h9,Jw,H6,Nc⟩:=hM.ex
 obtain ⟨ck,u1,u2,u3⟩:=yz ρ _ _ Mz (gw _ _ _ _ _ _ h1 Nc)
 have LC:l<w'.heap.size:=by have:=hM.hl;omega
 have dc:(w'.putObj l (.loop o7)).heap.size=w'.heap.size:=World.putObj_size
 have ho:∀b,b≠l->(w'.putObj l (.loop o7)).heap[b]?=w'.heap[b]?:=fun b hb=>World.putObj_heap_other hb
 have own:∀id g,ck id=some g->Z.S g∧g<wb.heap.size:=fun id g hg=>⟨u1.new g (u1.cL id g hg).1.2,(u1.cL id g hg).2⟩
 let S1:bf:=⟨fun b=>(Z.S b∧b<wb.heap.size)∨w'.heap.size≤b,lx ck,S0.fix,mark r::S0.rV⟩
 have hs:aH S1 (w'.putObj l (.loop o7)) n [] (k8 ρ s1) a' (w'.putObj l (.loop o7)) ck:=u1.qw (by rw [dc];exact h4) (fun b hb cW=>(ho b fun e=>Jw (e ▸ hb)).trans (h5 b hb cW)) (fun b hb cW=>.inl ⟨hb,cW⟩) (fun b hb=>by
   rcases hb with h|⟨id,hid⟩
   ·right;rw [dc] at h;exact h
   ·exact .inl (own id b hid)) (fun id g hg=>⟨id,hg⟩) (fun id g hg=>by
  rcases Nat.lt_or_ge id 1000000000000 with h|h
  ·exact .inl h
  ·right
   rcases (u1.cL id g hg).1.1 with h'|h'
   ·omega
   ·show S0.fix id=some g
    have gu:id ∉ ρ.map (·.2):=fun hm=>(by rw [u3 id h (.inl hm)] at hg;cases hg)
    rw [←UO id gu,←h2];exact h') ht hd (hM.kept.mm.aa fun b hb=>ho b fun e=>hM.kept.se (.inl hM.NR) (e ▸ hb)) (fun b hb=>u1.se hb)
 refine ⟨S1,w'.putObj l (.loop o7),[r],⟨⟨hM.kept.os,hM.kept.tape,hM.kept.output,by rw [dc];exact hM.kept.size,fun k hk hx=>(ho k fun e=>by have:=hM.NR;omega).trans (hM.kept.block k hk hx),hM.kept.g0,hM.kept.gx⟩,fun b hb=>?_,fun b ⟨id,hid⟩=>?_,rfl,rfl,by simp,fun r' gZ=>?_⟩,ck,hs⟩
 ·rcases hb with h|h
  ·exact h6 b h.1 h.2
  ·exact hM.Kb b (Nat.le_trans hM.kept.size h)
 ·obtain ⟨j,hj⟩:=u2 id b hid
  exact h7 j b hj
 ·obtain rfl:r'=r:=by simpa using gZ
  refine ⟨Rp,by rw [dc];have:=hM.hr;omega,(ho _ hM.rl).trans hM.jJ,fun h=>?_,fun ⟨id,hid⟩=>H6 (own id _ hid).1⟩
  rcases h with h|h
  ·exact H6 h.1
  ·have:=hM.hr;omega
theorem a7.range {c:Code} {s:AS} {g:Operand} {ps:Array Tmp} {x bd:Code} (hc:Mo c=some (g,ps,x,bd)) {f:Nat} {lp:List AV} (A:Nat->List AV) (N:Nat) (hit:wJ P f lp A N) (hE:gU P f=true) (KE:kN x=true) (PC:kN bd=true)
  (ρ :List (Nat×Nat)) (Mz :mZ ρ =true) (xs:List AV) (F:List (Nat×AV)) (I:List Value->Nat->List (Nat×Row)) (sN:AS)
  (hw:∀Z w0 a w φ,aH Z w0 n [] (J4 ρ s) a w φ-> ∃ jT vs,vs.length=xs.length∧aH Z w0 n [] ⟨F,I vs 0⟩ a w jT∧ ∀p∈vs.zip xs,cp (aJ Z w jT []) w p.1 p.2) (hg:∀vs,vs.length=xs.length->bj ⟨F,I vs 0⟩ g= .lu f lp) (Pf:∀i,ps.toList.length=(A i).length) (Ph:(ps.toList.all fun p=>Nat.blt p n)=true)
  (hI:∀vs i,vs.length=xs.length->i≤N->jr (I vs i)∧BH (I vs i) F=true) (oN:∀vs i,vs.length=xs.length->i<N->a7 P n x (rv (a7 P n bd (RQ (vs.zip xs) Q ρ F (I vs (i+1)))) (fun _ _=>False)) (GU ps.toList (A i) ⟨F,I vs i⟩)) (gw:∀vs,vs.length=xs.length->C5 (vs.zip xs) ⟨F,I vs N⟩ sN) (MT:Q .normal (k8 ρ sN)):a7 P n c Q s:=by
 cases c with
 | rangeFunc g' VP x' Wi =>
  cases hc
  intro S0 w0 a w ⟨φ,hs⟩
  show (Code.rangeFunc g ps x bd).wp P _ a w
  refine wpIn_wide.1 (wpIn_rangeFunc (n:=0) fun fn _=>?_)
  obtain ⟨fx,iy,Ru,Qt,-⟩:=GZ ρ s S0 φ Mz hs
  obtain ⟨jT,us,z8,mI,u7⟩:=hw _ _ _ _ _ Ru
  have dg:=mI.bj g
  rw [hg us z8] at dg
  obtain ⟨cv,hv,FU,BW⟩:=Ds dg
  generalize NU:(w.alloc (.deferred (some []))).alloc (.loop {state:=.ready,pending:=none,fn:=fn,tmps:=a.tmps,params:=ps,assign:=x,body:=bd,defers:=w.heap.size})=we
  have dc:we.heap.size=w.heap.size+2:=by rw [←NU];simp
  have hold:∀b,b<w.heap.size->we.heap[b]?=w.heap[b]?:=fun b hb=>by
   rw [←NU,Below.heap_alloc _ _ _ (by simp;omega),Below.heap_alloc _ _ _ hb]
  have Te:we.heap[w.heap.size]?=some (.deferred (some [])):=by rw [←NU,Below.heap_alloc _ _ _ (by simp)];exact World.alloc_heap_new w _
  have DR:we.heap[w.heap.size+1]?=some (.loop {state:=.ready,pending:=none,fn:=fn,tmps:=a.tmps,params:=ps,assign:=x,body:=bd,defers:=w.heap.size}):=by
   rw [←NU]
   have:=World.alloc_heap_new (w.alloc (.deferred (some []))) (.loop {state:=.ready,pending:=none,fn:=fn,tmps:=a.tmps,params:=ps,assign:=x,body:=bd,defers:=w.heap.size})
   rw [World.size_alloc] at this;exact this
  have Rb:we.os=w.os∧we.tape=w.tape∧we.output=w.output:=by rw [←NU];exact ⟨rfl,rfl,rfl⟩
  refine ⟨w.heap.size+1,[mark w.heap.size],we,{target:=.fn (.func f) cv.toArray,args:= #[.func (.yield (w.heap.size+1)) #[] #[]]},we,f,(Value.func (.yield (w.heap.size+1)) #[] #[]::cv).toArray,we,?_,?_,fun _ _=>trivial,?_,fun h=>by simp [Fence.wide] at h,?_⟩
  ·rw [←NU];exact run_enterLoop_outer fn a.tmps ps x bd
  ·have ec:a.eval (.const (Value.func (.yield (w.heap.size+1)) #[] #[]))=Value.func (.yield (w.heap.size+1)) #[] #[]:=rfl
   unfold resolve;simp [hv,ec,Deferred.ofValue]
  ·have e:(Value.func (.yield (w.heap.size+1)) #[] #[]::cv).toArray= #[Value.func (.yield (w.heap.size+1)) #[] #[]]++cv.toArray:=by apply Array.ext';simp
   rw [e]
   exact oL hE _ _
  ·refine callsIn_wide.2 ?_
   have u9:w0.heap.size≤w.heap.size:=mI.cM.size
   have QX:∀id g,jT id=some g->S0.S g∧g<w.heap.size:=fun id g hg=>⟨mI.new g (mI.cL id g hg).1.2,(mI.cL id g hg).2⟩
   let Z:bf:=⟨fun b=>(S0.S b∧b<w.heap.size)∨we.heap.size≤b,lx jT,fx,[]⟩
   have hZ:aH Z we n [] ⟨F,I us 0⟩ ⟨a.tmps,[]⟩ we jT:=mI.qw ah (fun b _ cW=>hold b cW) (fun b hb cW=>.inl ⟨hb,cW⟩) (fun b hb=>hb.elim .inr fun ⟨id,hid⟩=>.inl (QX id b hid)) (fun id g hg=>⟨id,hg⟩) (fun id g hg=>(mI.cL id g hg).1.1) rfl rfl (mI.cM.mm.aa fun b hb=>hold b (mI.cM.mm.lt hb)) (fun b hb=>mI.se hb)
   have U_:El (us.zip xs) S0 w0 n a.tmps fx w.heap.size (w.heap.size+1) we {state:=.ready,pending:=none,fn:=fn,tmps:=a.tmps,params:=ps,assign:=x,body:=bd,defers:=w.heap.size} ⟨F,I us 0⟩ (fun _=>False) (aJ ⟨S0.S,S0.X,fx,S0.rV⟩ w jT []) we:=by
    refine ⟨⟨we,jT,Z,hZ,rfl,Nat.le_refl _,Nat.le_refl _,fun _ _ _=>rfl,fun b hb cW=>?_,fun id g hg=>(mI.cL id g hg).1.2,fun _ h=>h.elim,fun b hb=>hb.2.2.1,fun h=>?_,fun h=>?_,fun p hp=>(u7 p hp).mono fun b hb=>⟨⟨by rw [dc];have:=hb.1;omega,by simp,hb.2.2.1,.inl ⟨hb.2.2.2,hb.1⟩⟩,hold b hb.1⟩⟩,?_,ah,fun _ h=>h.elim,ah,ah,fun h=>?_,DR,fun b hb=>mI.new b (.inl hb),ah,ah,fun h=>?_,Te⟩
    ·rcases hb with h|h
     ·exact h.1
     ·omega
    ·rcases h with h|h<;>omega
    ·rcases h with h|h<;>omega
    ·exact ⟨Rb.1.trans mI.cM.os,Rb.2.1.trans mI.cM.tape,Rb.2.2.trans mI.cM.output,ah,fun k hk hx=>(hold k ah).trans (mI.cM.block k hk hx),mI.cM.g0,mI.cM.gx⟩
    ·have:=h.1;omega
    ·have:=h.1;omega
   have mE:=hit (w.heap.size+1) we (aJ ⟨S0.S,S0.X,fx,S0.rV⟩ w jT []) cv
    (fun i=>El (us.zip xs) S0 w0 n a.tmps fx w.heap.size (w.heap.size+1) we {state:=.ready,pending:=none,fn:=fn,tmps:=a.tmps,params:=ps,assign:=x,body:=bd,defers:=w.heap.size} ⟨F,I us i⟩)
    (fun O K w'=>∃X c,El (us.zip xs) S0 w0 n a.tmps fx w.heap.size (w.heap.size+1) we {state:=.done,pending:=some c,fn:=fn,tmps:=a.tmps,params:=ps,assign:=x,body:=bd,defers:=w.heap.size} ⟨F,X⟩ O K w'∧Jg (us.zip xs) Q ρ ⟨F,X⟩ c)
    hZ.cM.mm (fun b hb=>by have:=hb.1;omega) FU (fun j v c hv hc=>(BW j v c hv hc).mono fun b hb=>⟨hb,hold b hb.1⟩) (fun i=>El.Gj)
    (fun O K w' O' K' fa ⟨X,c,hX,hc⟩ st h1 h2=>⟨X,c,El.Gj O K w' O' K' fa hX st h1 h2,hc⟩)
    (fun i hi O K w1 vs hJ Oe hK hl hd=>ER hJ Oe hK hl hd (Pf i) (fun p hp=>Nat.le_of_ble_eq_true (List.all_eq_true.1 Ph p hp)) KE PC (oN us i z8 hi) (hI us (i+1) z8 hi).1 (pt (hI us i z8 (Nat.le_of_lt hi)).2) (pt (hI us (i+1) z8 hi).2)) U_
   refine mE.mono fun e w' ⟨v,O,K,he,sH⟩=>?_
   subst he
   rcases sH with hM|⟨X,c,hM,s1,Tt,hj⟩
   ·exact ⟨_,_,run_endLoop hM.GM (by simp),_,MT,DA (a:=a) (a':={a with defers:=[mark w.heap.size]++a.defers}) hM Mz Qt u9 rfl (by show mark w.heap.size::a.defers=_;rw [hs.jJ]) (gw us z8) _⟩
   ·refine ⟨_,_,run_endLoop hM.GM (by simp),?_⟩
    have lh:=DA (a:=a) (a':={a with defers:=[mark w.heap.size]++a.defers}) hM Mz Qt u9 rfl (by show mark w.heap.size::a.defers=_;rw [hs.jJ]) Tt
    rcases hj with ⟨id,rfl,hq⟩|⟨rfl,hq⟩
    ·exact wpIn_exit ⟨_,hq,lh _⟩
    ·exact wpIn_ret ⟨_,hq,lh _⟩
 | _=>cases hc
end
def It (n:Nat) (J:(Nat->Prop)->(Nat->Prop)->World->Prop) (s:AS) (a:Act) (w:World):Prop :=
 ∃(wb:World) (Z:bf) (φ:Nat->Option Nat) (ms:List Nat),aH Z wb n [] s a w φ∧Z.rV=ms.map mark∧ms.Nodup∧(∀r∈ms,r<w.heap.size∧w.heap[r]?=some (.deferred (some []))∧ ¬Z.S r)∧J (fun b=>lx φ b∨b∈ms) (fun b=>(Z.S b∨b∈ms)∧b<w.heap.size) w
section
variable {P:Program} {n:Nat} {J:(Nat->Prop)->(Nat->Prop)->World->Prop} {s s':AS} {a:Act} {w:World} {Q:Exit->Act->World->Prop}
theorem It.begin (h:It n J s a w) (hJ:jM J):∃Z:bf,ib Z w n s a w∧ ∀(s':AS) (a':Act) (w':World),mL Z w n s' a' w'->It n J s' a' w':=by
 obtain ⟨wb,Z,φ,ms,h1,h2,h3,h4,h5⟩:=h
 have own:∀id g,φ id=some g->Z.S g∧g<w.heap.size:=fun id g hg=>⟨h1.new g (h1.cL id g hg).1.2,(h1.cL id g hg).2⟩
 let Z':bf:=⟨fun b=>(Z.S b∧b<w.heap.size)∨w.heap.size≤b,lx φ,φ,Z.rV⟩
 have hs:aH Z' w n [] s a w φ:=h1.qw (Nat.le_refl _) (fun _ _ _=>rfl) (fun b hb cW=>.inl ⟨hb,cW⟩) (fun b hb=>hb.elim .inr fun ⟨id,hid⟩=>.inl (own id b hid)) (fun id g hg=>⟨id,hg⟩) (fun id g hg=>.inr hg) rfl h1.jJ h1.cM.mm (fun b hb=>h1.se hb)
 refine ⟨Z',⟨φ,hs⟩,fun s' a' w' ⟨S1,w1,Qd,hE,ck,bU⟩=>?_⟩
 have k:=hE.kept.trans bU.cM hE.X
 have Uu:∀r∈ms,¬lx φ r:=fun r hr ⟨id,hid⟩=>(h4 r hr).2.2 (own id r hid).1
 refine ⟨w1,S1,ck,Qd++ms,bU,by rw [hE.rV,List.map_append];exact congrArg _ h2,?_,fun r hr=>?_,hJ _ _ _ _ _ _ h5 ⟨k.os,k.tape,k.output,k.size,fun b hb hn=>k.block b hb fun h=>hn (.inl h)⟩ (fun b hb=>?_) fun b hb=>?_⟩
 ·rw [List.nodup_append]
  refine ⟨hE.nodup,h3,fun r hr r' gZ e=>?_⟩
  subst e
  have:=(hE.marks r hr).1
  have:=(h4 r gZ).1
  omega
 ·rcases List.mem_append.1 hr with hr|hr
  ·obtain ⟨u1,u2,u3,u4,u5⟩:=hE.marks r hr
   exact ⟨Nat.lt_of_lt_of_le u2 bU.cM.size,(bU.cM.block r u2 u5).trans u3,u4⟩
  ·obtain ⟨u1,u2,u3⟩:=h4 r hr
   refine ⟨Nat.lt_of_lt_of_le u1 k.size,(k.block r u1 (Uu r hr)).trans u2,fun h=>?_⟩
   rcases hE.sub r h with h|h
   ·exact u3 h.1
   ·omega
 ·rcases hb with ⟨id,hid⟩|hb
  ·rcases (bU.cL id b hid).1.2 with h|h
   ·right;have:=hE.kept.size;omega
   ·exact (hE.X b h).elim .inr fun h=>.inl (.inl h)
  ·rcases List.mem_append.1 hb with hb|hb
   ·exact .inr (hE.marks b hb).1
   ·exact .inl (.inr hb)
 ·obtain ⟨hb,cW⟩:=hb
  rcases hb with hb|hb
  ·rcases hE.sub b hb with h|h
   ·exact .inl ⟨.inl h.1,h.2⟩
   ·exact .inr h
  ·rcases List.mem_append.1 hb with hb|hb
   ·exact .inr (hE.marks b hb).1
   ·exact .inl ⟨.inr hb,(h4 b hb).1⟩
theorem It.SH {c:Code} {Qs:Exit->AS->Prop} (h:It n J s a w) (hJ:jM J) (hc:a7 P n c Qs s):Bg P c (fun e a' w'=>∃s',Qs e s'∧It n J s' a' w') a w:=by
 obtain ⟨Z,hs,Al⟩:=h.begin hJ
 exact dH _ _ _ (fun e a' w' ⟨s',hq,bU⟩=>⟨s',hq,Al s' a' w' bU⟩) _ _ (hc Z w a w hs)
theorem It.ow (h:It n J s a w) (hJ:jM J) (hw:bN s s'):It n J s' a w:=by
 obtain ⟨Z,hs,Al⟩:=h.begin hJ
 exact Al _ _ _ (hw _ _ _ _ _ hs).one
theorem It.ops {ops:List Oper} {hs:List (Nat×Hint)} {l:List Oper} {i:Nat} {C:List Prop} (h:It n J s a w) (hJ:jM J) (he:jS P n ops hs l i s=some (s',C)) (hC:bu C) (hQ:∀a' w',It n J s' a' w'->Q .normal a' w'):wpList P ops.toArray Q l a w:=by
 obtain ⟨Z,hs,Al⟩:=h.begin hJ
 exact jD (S0:=Z) (w0:=w) _ _ _ _ _ he hC a w hs fun a' w' bU=>hQ a' w' (Al _ _ _ bU.one)
theorem eM {F:Fence} {m:Nat} {ops:Array Oper}:∀(l1 l2:List Oper) (a:Act) (w:World),wpListIn F m P ops (Exit.then (wpListIn F m P ops Q l2) Q) l1 a w->wpListIn F m P ops Q (l1++l2) a w
 | [],l2,a,w,h=>h
 | o::l1,l2,a,w,h=>by
  rw [List.cons_append]
  unfold wpListIn at h ⊢
  split at h
  ·rename_i hw
   rw [if_pos hw]
   refine ⟨h.1,?_⟩
   have h2:=h.2
   generalize (o.semAt F.round a.eval).run P w=r at *
   cases r with
   | ok x w'=>cases x with
    | value v=>exact eM l1 l2 _ _ h2
    | skip=>exact eM l1 l2 _ _ h2
    | defer d=>exact eM l1 l2 _ _ h2
    | enter f args=>exact ⟨h2.1,CallsIn.mono h2.2 fun e fa he=>by cases e<;>first|exact eM l1 l2 _ _ he|exact he⟩
    | row row args=>exact ⟨h2.1,RowsIn.mono h2.2 fun v fa he=>eM l1 l2 _ _ he⟩
    | round l' f tmps x b=>exact ⟨h2.1,RoundIn.mono h2.2 fun e fa he=>by cases e<;>first|exact eM l1 l2 _ _ he|exact he⟩
    | _=>exact h2
   | halt x w'=>cases x<;>exact h2
  ·rename_i hw
   rw [if_neg hw]
   exact ⟨h.1,eM l1 l2 _ _ h.2⟩
theorem F9 {id d:Nat} {l1 l2:List Oper} {o:Oper} {y:Operand} {xs:Array Operand} {ts:Array TypeId} {full:List Oper} (HZ:full=l1++o::l2) (ho:o.op= .call ⟨.value y,xs,ts⟩) (hg:o.guard=none) (hd:o.dst=some d) (hQ:¬LetsOut Q) (h1:l1.all jZ=true) (h2:l2.all jZ=true)
  (h:wpList P full.toArray (Exit.then (fun a1 w1=>∃l,a1.eval y= .func (.yield l) #[] #[]∧nW P l (xs.toList.map a1.eval) w1 fun t w2=>wpList P full.toArray Q l2 (a1.put (some d) (.bool t)) w2) Q) l1 a w):(Code.region id full.toArray false).wp P Q a w:=by
 refine (wpIn_wide (n:=0)).1 (wpIn_region_lit ?_)
 have e:wpListIn Fence.wide 0 P full.toArray Q full=wpListIn Fence.wide 0 P full.toArray Q (l1++o::l2):=by rw [←HZ]
 rw [e]
 refine eM l1 _ a w (list_round (ro:=none) (by rintro ⟨_,_,h⟩;exact hQ ⟨_,_,h⟩) l1 h1 a w (jU (lD (fun a1 w1 ⟨l,hy,fn,tmps,x,bd,hr,oN⟩=>?_) fun _ _ _ h=>h) l1 a w h))
 have hw:Region.wanted o (yielded full.toArray a1.tmps)=true:=by unfold Region.wanted;rw [hg]
 unfold wpListIn
 rw [if_pos hw]
 refine ⟨fun _ _=>trivial,?_⟩
 have bZ:(o.semAt Fence.wide.round a1.eval).run P w1= .ok (.round l fn tmps x bd) w1:=by
  rw [Oper.semAt_eq _ _ _ (by intro c e;rw [ho] at e;cases e)]
  have e:xs.map a1.eval=(xs.toList.map a1.eval).toArray:=by apply Array.ext';simp
  unfold execOp
  simp [ho,resolve,hy,Deferred.ofValue,invoke]
  rw [e];simpa using hr
 rw [bZ]
 refine ⟨fun h=>by simp [Fence.wide] at h,RoundIn.mono oN fun e w2 ⟨t,he,ht⟩=>?_⟩
 subst he
 rw [hd]
 exact list_round (ro:=none) hQ l2 h2 _ _ ht
theorem It.yield {A:Nat->List AV} {N:Nat} {J:Nat->(Nat->Prop)->(Nat->Prop)->World->Prop} {X:(Nat->Prop)->(Nat->Prop)->World->Prop} {l i d:Nat} {xs:List Operand} {s1:AS} (hJ:∀i,jM (J i)) (hX:jM X) (hd:d<n)
  (hy:∀i,i<N-> ∀(O K:Nat->Prop) (w1:World) (vs:List Value),J i O K w1->(∀b,O b->K b)->(∀b,K b->b<w1.heap.size)->vs.length=(A i).length->(∀(j:Nat) v x,vs[j]?=some v->(A i)[j]?=some x->cp K w1 v x) ->
   nW P l vs w1 fun t w2=>Good w2∧w1.heap.size≤w2.heap.size∧(∀b,K b->w2.heap[b]?=w1.heap[b]?)∧(t=true->J (i+1) O K w2)∧(t=false->X O K w2))
  (h:It n (J i) s a w) (hi:i<N) (HE:fB s ((xs.map (bj s)).flatMap n0)=some s1) (vl:lb (xs.map (bj s1))=true) (hA:xs.map (bj s1)=A i) (T:Bool->World->Prop)
  (h1:∀w2,It n (J (i+1)) (k9 s d (ao true)) (a.put (some d) (.bool true)) w2->T true w2) (h2:∀w2,It n X (k9 s d (ao false)) (a.put (some d) (.bool false)) w2->T false w2) :
  nW P l (xs.map a.eval) w T:=by
 obtain ⟨wb,Z,φ,ms,k1,k2,k3,k4,k5⟩:=h
 obtain ⟨iy,gI⟩:=fA _ _ _ _ HE k1
 have own:∀id g,φ id=some g->Z.S g∧g<w.heap.size:=fun id g hg=>⟨k1.new g (k1.cL id g hg).1.2,(k1.cL id g hg).2⟩
 have oN:=hy i hi (fun b=>lx φ b∨b∈ms) (fun b=>(Z.S b∨b∈ms)∧b<w.heap.size) w (xs.map a.eval) k5 (fun b hb=>hb.elim (fun ⟨id,hid⟩=>⟨.inl (own id b hid).1,(own id b hid).2⟩) fun hb=>⟨.inr hb,(k4 b hb).1⟩) (fun b hb=>hb.2) (by rw [←hA];simp)
  (fun j v x hv hx=>(l4 gI vl j v x hv (by rw [hA];exact hx)).mono fun b hb=>⟨⟨.inl hb.2.2.2,hb.1⟩,rfl⟩)
 obtain ⟨fn,tmps,x,bd,hr,u9⟩:=oN
 refine ⟨fn,tmps,x,bd,hr,RoundIn.mono u9 fun e w2 ⟨t,he,RM,dc,hk,ht,hf⟩=>⟨t,he,?_⟩⟩
 let Z2:bf:=⟨fun b=>(Z.S b∧b<w.heap.size)∨w2.heap.size≤b,lx φ,φ,Z.rV⟩
 have mI:aH Z2 w2 n [] s a w2 φ:=k1.qw dc (fun b hb cW=>hk b ⟨.inl hb,cW⟩) (fun b hb cW=>.inl ⟨hb,cW⟩) (fun b hb=>hb.elim .inr fun ⟨id,hid⟩=>.inl (own id b hid)) (fun id g hg=>⟨id,hg⟩) (fun id g hg=>.inr hg) rfl k1.jJ RM (fun b hb=>k1.se hb)
 have hK:∀b,((Z2.S b∨b∈ms)∧b<w2.heap.size)->((Z.S b∨b∈ms)∧b<w.heap.size)∨w2.heap.size≤b:=fun b ⟨hb,cW⟩=>by
  rcases hb with (hb|hb)|hb
  ·exact .inl ⟨.inl hb.1,hb.2⟩
  ·exact .inr hb
  ·exact .inl ⟨.inr hb,(k4 b hb).1⟩
 have hm:∀r∈ms,r<w2.heap.size∧w2.heap[r]?=some (.deferred (some []))∧ ¬Z2.S r:=fun r hr=>by
  obtain ⟨u1,u2,u3⟩:=k4 r hr
  refine ⟨ah,(hk r ⟨.inr hr,u1⟩).trans u2,fun h=>?_⟩
  rcases h with h|h
  ·exact u3 h.1
  ·omega
 have dI:Jf (fun b=>lx φ b∨b∈ms) w2 w2:=⟨rfl,rfl,rfl,Nat.le_refl _,fun _ _ _=>rfl⟩
 cases t with
 | true=>exact h1 w2 ⟨w2,Z2,φ,ms,mI.put hd (.rep (.val _)),k2,k3,hm,hJ (i+1) _ _ _ _ _ _ (ht rfl) dI (fun b hb=>.inl hb) hK⟩
 | false=>exact h2 w2 ⟨w2,Z2,φ,ms,mI.put hd (.rep (.val _)),k2,k3,hm,hX _ _ _ _ _ _ (hf rfl) dI (fun b hb=>.inl hb) hK⟩
end
theorem wJ.pv {P:Program} {f:FuncId} {fn:Func} {c:Code} {lp:List AV} {A:Nat->List AV} {N n:Nat} (hf:P.funcs[f]?=some fn) (hb:fn.body=some c) (hn:fn.ntmps=n) (HH:fn.results= #[]) (Ts:lp.length+1≤n)
  (h:∀(l:Nat) (J:Nat->(Nat->Prop)->(Nat->Prop)->World->Prop) (X:(Nat->Prop)->(Nat->Prop)->World->Prop),(∀i,jM (J i))->jM X ->
   (∀i,i<N-> ∀(O K:Nat->Prop) (w1:World) (vs:List Value),J i O K w1->(∀b,O b->K b)->(∀b,K b->b<w1.heap.size)->vs.length=(A i).length->(∀(j:Nat) v x,vs[j]?=some v->(A i)[j]?=some x->cp K w1 v x) ->
    nW P l vs w1 fun t w2=>Good w2∧w1.heap.size≤w2.heap.size∧(∀b,K b->w2.heap[b]?=w1.heap[b]?)∧(t=true->J (i+1) O K w2)∧(t=false->X O K w2)) ->
   ∀(a:Act) (w:World),It n (J 0) ⟨kO 0 (AV.val (.func (.yield l) #[] #[])::lp),[]⟩ a w->c.wp P (fun e a' w'=>(e= .normal∨e= .ret)∧ ∃s',It n (J N) s' a' w'∨It n X s' a' w') a w):wJ P f lp A N:=by
 intro l w S cv J X jR hS gw UX hJ hX hy h0
 refine callsIn_wide.1 (callsIn_of_wp_marks (F:=Fence.wide) (n:=0) hf hb trivial ?_)
 have iq:∀(j:Nat) v x,(Value.func (.yield l) #[] #[]::cv)[j]?=some v->(AV.val (.func (.yield l) #[] #[])::lp)[j]?=some x->cp S w v x:=by
  intro j v x hv hx
  cases j with
  | zero=>simp at hv hx;subst hv;subst hx;exact .val _
  | succ j=>exact UX j v x (by simpa using hv) (by simpa using hx)
 let Z:bf:=⟨fun b=>S b∨w.heap.size≤b,fun _=>False,fun _=>none,[]⟩
 have Jv:aH Z w n [] ⟨kO 0 (AV.val (.func (.yield l) #[] #[])::lp),[]⟩ {tmps:=(Value.func (.yield l) #[] #[]::cv).toArray++Array.replicate (fn.ntmps-(Value.func (.yield l) #[] #[]::cv).toArray.size) undef,defers:=[]} w (fun _=>none):=by
  refine ⟨by simp;omega,rfl,⟨rfl,rfl,rfl,Nat.le_refl _,fun _ _ _=>rfl,jR,fun _ _ h=>h⟩,fun i av hi=>?_,fun id r hr=>(by cases hr),fun _ _=>rfl,fun _ _ _ h=>(by cases h),fun _ _ h=>(by cases h),fun _ _ h=>(by cases h),fun b hb=>Or.inr (hb.elim id fun h=>h.elim)⟩
  obtain ⟨k,rfl,hk⟩:=mb _ 0 i av hi
  generalize DM:(Value.func (.yield l) #[] #[]::cv)=vs at *
  have NY:vs.length=lp.length+1:=by rw [←DM];simp [gw]
  have iw:k<vs.length:=by have:=(List.getElem?_eq_some_iff.1 hk).1;simp at this;omega
  have hv:vs[k]?=some vs[k]:=List.getElem?_eq_getElem iw
  have e:(vs.toArray++Array.replicate (fn.ntmps-vs.toArray.size) undef).getD (0+k) undef=vs[k]:=by
   rw [Nat.zero_add,Array.getD_eq_getD_getElem?,Array.getElem?_append_left (by simpa using iw)]
   simp [iw]
  simp only [e]
  exact .rep ((iq k vs[k] av hv hk).mono fun b hb=>⟨⟨hS b hb,by simp,fun _ h=>(by cases h),Or.inl hb⟩,rfl⟩)
 have hit:It n (J 0) ⟨kO 0 (AV.val (.func (.yield l) #[] #[])::lp),[]⟩ {tmps:=(Value.func (.yield l) #[] #[]::cv).toArray++Array.replicate (fn.ntmps-(Value.func (.yield l) #[] #[]::cv).toArray.size) undef,defers:=[]} w :=
  ⟨w,Z,fun _=>none,[],Jv,rfl,List.nodup_nil,fun _ h=>(by cases h),hJ 0 _ _ _ _ _ _ h0 ⟨rfl,rfl,rfl,Nat.le_refl _,fun _ _ _=>rfl⟩ (fun b hb=>hb.elim (fun ⟨_,h⟩=>(by cases h)) fun h=>(by cases h)) fun b ⟨hb,cW⟩=>hb.elim (fun hb=>hb) fun h=>(by cases h)⟩
 refine wpIn_wide.2 (wp_mono (h l J X hJ hX hy _ w hit) fun e a' w' ⟨he,s',sH⟩=>?_)
 have fin:∀(J':(Nat->Prop)->(Nat->Prop)->World->Prop),jM J'->(∀O K fa,J' O K fa-> ∃O K,J N O K fa∨X O K fa)->It n J' s' a' w'->LeavesInM Fence.wide 0 P fn a'.tmps (fun e w'=>∃v O K,e= .returned v∧(J N O K w'∨X O K w')) a'.defers .returning w':=by
  intro J' M8 Jp ⟨wb,Z1,φ,ms,k1,k2,k3,k4,k5⟩
  have M0:a'.defers=ms.map mark:=by rw [k1.jJ,k2]
  rw [M0]
  refine mf ms w' k3 (fun r hr=>(k4 r hr).2.1) (fun fa h1 h2 h3 h4 h5=>?_)
  obtain ⟨O,K,sH⟩:=Jp _ _ _ (M8 (fun b=>lx φ b∨b∈ms) _ w' (fun b=>lx φ b∨b∈ms) (fun b=>(Z1.S b∨b∈ms)∧b<w'.heap.size) fa k5 ⟨h1,h2,h3,ah,fun b hb hn=>h5 b fun hm=>hn (.inr hm)⟩ (fun b hb=>.inl hb) fun b hb=>.inl hb)
  exact ⟨.tuple #[],by simp [results,HH],.tuple #[],O,K,rfl,sH⟩
 have Sp:LeavesInM Fence.wide 0 P fn a'.tmps (fun e w'=>∃v O K,e= .returned v∧(J N O K w'∨X O K w')) a'.defers .returning w':=by
  rcases sH with sH|sH
  ·exact fin _ (hJ N) (fun O K fa h=>⟨O,K,.inl h⟩) sH
  ·exact fin _ hX (fun O K fa h=>⟨O,K,.inr h⟩) sH
 rcases he with rfl|rfl<;>exact Sp
theorem bN.K7 {s:AS} (id j new e:Nat) {r:Row} (hr:look s.H id=some r) (hp:r.pure=false) (hj:r.cells[j]?=some .nil) (hn:look s.H new=none):bN s ⟨s.F,(new,⟨e,true,false,[]⟩)::(id,⟨r.e,false,r.full,r.cells.set j (.ref new)⟩)::cF s.H id⟩:=by
 intro S0 w0 n a w ⟨φ,hs⟩
 have cK:id≠new:=fun h=>by rw [h,hn] at hr;cases hr
 have bY:φ new=none:=hs.only new hn
 have lg:∀i,look ((new,(⟨e,true,false,[]⟩:Row))::(id,(⟨r.e,false,r.full,r.cells.set j (.ref new)⟩:Row))::cF s.H id) i=if new=i then some ⟨e,true,false,[]⟩ else if id=i then some ⟨r.e,false,r.full,r.cells.set j (.ref new)⟩ else look s.H i:=by
  intro i
  rw [aB,aB,bC]
  by_cases e1:new=i<;>by_cases e2:id=i<;>simp [e1,e2]
 have hI:∀i x,az s.H φ i=some x->az ((new,(⟨e,true,false,[]⟩:Row))::(id,(⟨r.e,false,r.full,r.cells.set j (.ref new)⟩:Row))::cF s.H id) φ i=some x:=by
  intro i x hx
  unfold az at hx ⊢
  rw [lg]
  by_cases e1:new=i
  ·subst e1;rw [hn] at hx;cases hx
  ·rw [if_neg e1]
   by_cases e2:id=i
   ·subst e2;rw [if_pos rfl];rw [hr] at hx;simpa using hx
   ·rw [if_neg e2];exact hx
 have lL:az ((new,(⟨e,true,false,[]⟩:Row))::(id,(⟨r.e,false,r.full,r.cells.set j (.ref new)⟩:Row))::cF s.H id) φ new=some (e,0,none):=by
  unfold az;rw [lg,if_pos rfl,bY];rfl
 have mono:∀v x,Den (az s.H φ) (aJ S0 w φ []) w v x->Den (az ((new,(⟨e,true,false,[]⟩:Row))::(id,(⟨r.e,false,r.full,r.cells.set j (.ref new)⟩:Row))::cF s.H id) φ) (aJ S0 w φ []) w v x:=fun v x h=>h.mono hI (fun b hb=>⟨hb,rfl⟩) (fun _ _ _ _ _=>rfl)
 refine ⟨φ,hs.jF,hs.jJ,hs.cM,fun i av hi=>mono _ _ (hs.ct i av hi),fun i q hq=>?_,fun i hi=>?_,hs.inj,hs.cL,hs.apart,hs.new⟩
 ·simp only [lg] at hq
  by_cases e1:new=i
  ·subst e1
   rw [if_pos rfl] at hq;injection hq with hq;subst hq
   unfold bJ;rw [bY]
  ·rw [if_neg e1] at hq
   by_cases e2:id=i
   ·subst e2
    rw [if_pos rfl] at hq;injection hq with hq;subst hq
    have aK:=hs.rows id r hr
    unfold bJ at aK ⊢
    cases hg:φ id with
    | none=>rw [hg] at aK;simp only at aK;rw [aK] at hj;cases hj
    | some g =>
     rw [hg] at aK
     obtain ⟨cur,te,fr,u1,u2,u3,u4,u5⟩:=aK
     refine ⟨cur,te,fr,u1,u2,by simpa using u3,fun h=>by simpa using u4 h,fun k u x hu hx=>?_⟩
     unfold a_
     simp only at hx ⊢
     rw [List.getElem?_set] at hx
     by_cases hk:j=k
     ·subst hk
      have cW:j<r.cells.length:=(List.getElem?_eq_some_iff.1 hj).1
      simp [cW] at hx
      subst hx
      have:=u5 j u .nil hu hj
      unfold a_ at this
      rw [hp] at this
      rw [sR this]
      exact .cw new e lL
     ·rw [if_neg hk] at hx
      have:=u5 k u x hu hx
      unfold a_ at this
      rw [hp] at this
      exact mono u x this
   ·rw [if_neg e2] at hq
    have aK:=hs.rows i q hq
    unfold bJ at aK ⊢
    cases hg:φ i with
    | none=>rw [hg] at aK;exact aK
    | some g =>
     rw [hg] at aK
     obtain ⟨cur,te,fr,u1,u2,u3,u4,u5⟩:=aK
     refine ⟨cur,te,fr,u1,u2,u3,u4,fun k u x hu hx=>?_⟩
     have:=u5 k u x hu hx
     unfold a_ at this ⊢
     cases HJ:q.pure with
     | true=>rw [HJ] at this;exact this
     | false=>rw [HJ] at this;exact mono u x this
 ·simp only [lg] at hi
  by_cases e1:new=i
  ·rw [if_pos e1] at hi;cases hi
  ·rw [if_neg e1] at hi
   by_cases e2:id=i
   ·rw [if_pos e2] at hi;cases hi
   ·rw [if_neg e2] at hi;exact hs.only i hi
theorem uU:jr []:=fun id r h=>by cases h
theorem dP {id:Nat} {r:Row} {H:List (Nat×Row)} (h1:∀x∈r.cells,mu x=true) (h2:jr H):jr ((id,r)::H):=by
 intro i q hq j x hx
 rw [aB] at hq
 by_cases e:id=i
 ·rw [if_pos e] at hq;injection hq with hq;subst hq;exact h1 x (List.mem_of_getElem? hx)
 ·rw [if_neg e] at hq;exact h2 i q hq j x hx
theorem iu {l:List AV} (h:l.all mu=true):∀x∈l,mu x=true:=fun x hx=>List.all_eq_true.1 h x hx
theorem p8 (l:List UInt64):∀x∈aj l,mu x=true:=by
 intro x hx;simp only [aj,List.mem_map] at hx;obtain ⟨c,_,rfl⟩:=hx;rfl
def Kk:Code->Bool
 | .rangeFunc _ _ _ _=>true
 | _=>false
def TW:Code->Operand
 | .rangeFunc g _ _ _=>g
 | _=>.tmp 0
def QT:Code->Array Tmp
 | .rangeFunc _ ps _ _=>ps
 | _=> #[]
def SI:Code->Code
 | .rangeFunc _ _ x _=>x
 | c=>c
def SJ:Code->Code
 | .rangeFunc _ _ _ b=>b
 | c=>c
theorem a7.Mn {P:Program} {n:Nat} {c:Code} {Q:Exit->AS->Prop} {s:AS} (hc:Kk c=true) {f:Nat} {lp:List AV} (A:Nat->List AV) (N:Nat) (hit:wJ P f lp A N) (hE:gU P f=true) (KE:kN (SI c)=true) (PC:kN (SJ c)=true)
  (ρ :List (Nat×Nat)) (Mz :mZ ρ =true) (xs:List AV) (F:List (Nat×AV)) (I:List Value->Nat->List (Nat×Row)) (sN:AS)
  (hw:∀Z w0 a w φ,aH Z w0 n [] (J4 ρ s) a w φ-> ∃ jT vs,vs.length=xs.length∧aH Z w0 n [] ⟨F,I vs 0⟩ a w jT∧ ∀p∈vs.zip xs,cp (aJ Z w jT []) w p.1 p.2) (hg:∀vs,vs.length=xs.length->bj ⟨F,I vs 0⟩ (TW c)= .lu f lp) (Pf:∀i,(QT c).toList.length=(A i).length) (Ph:((QT c).toList.all fun p=>Nat.blt p n)=true)
  (hI:∀vs i,vs.length=xs.length->i≤N->jr (I vs i)∧BH (I vs i) F=true) (oN:∀vs i,vs.length=xs.length->i<N->a7 P n (SI c) (rv (a7 P n (SJ c) (RQ (vs.zip xs) Q ρ F (I vs (i+1)))) (fun _ _=>False)) (GU (QT c).toList (A i) ⟨F,I vs i⟩)) (gw:∀vs,vs.length=xs.length->C5 (vs.zip xs) ⟨F,I vs N⟩ sN) (MT:Q .normal (k8 ρ sN)):a7 P n c Q s:=by
 cases c with
 | rangeFunc g ps x b=>exact a7.range rfl A N hit hE KE PC ρ Mz xs F I sN hw hg Pf Ph hI oN gw MT
 | _=>cases hc
section
variable {Z:bf} {w0 w:World} {n:Nat} {s:AS} {a:Act} {φ:Nat->Option Nat}
theorem aH.congr {O:List Nat} {F:List (Nat×AV)} {H H':List (Nat×Row)} (h:aH Z w0 n O ⟨F,H⟩ a w φ) (e:∀i,look H' i=look H i):aH Z w0 n O ⟨F,H'⟩ a w φ:=by
 have hI:az H' φ=az H φ:=by funext i;unfold az;rw [e]
 refine ⟨h.jF,h.jJ,h.cM,fun i av hi=>?_,fun i q hq=>?_,fun i hi=>?_,h.inj,h.cL,h.apart,h.new⟩
 ·simp only [hI];exact h.ct i av hi
 ·simp only [hI];exact h.rows i q (by rw [←e];exact hq)
 ·exact h.only i (by rw [←e];exact hi)
theorem aH.GL (h:aH Z w0 n [] s a w φ) (id j:Nat) {r:Row} {y:AV} (hr:look s.H id=some r) (hp:r.pure=false)
  (hy:∀g cur te fr u x,φ id=some g->w.heap[g]?=some (.cells cur te fr)->cur[j]?=some u->r.cells[j]?=some x->Den (az s.H φ) (aJ Z w φ []) w u x->Den (az s.H φ) (aJ Z w φ []) w u y):aH Z w0 n [] ⟨s.F,(id,⟨r.e,false,r.full,r.cells.set j y⟩)::cF s.H id⟩ a w φ:=by
 have lg:∀i,look ((id,(⟨r.e,false,r.full,r.cells.set j y⟩:Row))::cF s.H id) i=if id=i then some ⟨r.e,false,r.full,r.cells.set j y⟩ else look s.H i:=by
  intro i
  rw [aB,bC]
  by_cases e:id=i<;>simp [e]
 have hI:az ((id,(⟨r.e,false,r.full,r.cells.set j y⟩:Row))::cF s.H id) φ=az s.H φ:=by
  funext i
  unfold az
  rw [lg]
  by_cases e:id=i
  ·subst e;rw [if_pos rfl,hr];simp
  ·rw [if_neg e]
 refine ⟨h.jF,h.jJ,h.cM,fun i av hi=>?_,fun i q hq=>?_,fun i hi=>?_,h.inj,h.cL,h.apart,h.new⟩
 ·simp only [hI];exact h.ct i av hi
 ·simp only [hI]
  simp only [lg] at hq
  by_cases e:id=i
  ·subst e
   rw [if_pos rfl] at hq;injection hq with hq;subst hq
   have aK:=h.rows id _ hr
   unfold bJ at aK ⊢
   cases bY:φ id with
   | none=>rw [bY] at aK;simp only at aK ⊢;rw [aK];rfl
   | some g =>
    rw [bY] at aK
    obtain ⟨cur,te,fr,hg,hf,hl,mD,hc⟩:=aK
    refine ⟨cur,te,fr,hg,hf,by simpa using hl,fun h=>by simpa using mD h,fun k u x hu hx=>?_⟩
    unfold a_
    simp only at hx ⊢
    rw [List.getElem?_set] at hx
    by_cases hk:j=k
    ·subst hk
     rw [if_pos rfl] at hx
     split at hx
     ·rename_i cW
      injection hx with hx;subst hx
      have Hy:r.cells[j]?=some r.cells[j]:=List.getElem?_eq_getElem cW
      have:=hc j u _ hu Hy
      unfold a_ at this;rw [hp] at this
      exact hy g cur te fr u _ bY hg hu Hy this
     ·cases hx
    ·rw [if_neg hk] at hx
     have:=hc k u x hu hx
     unfold a_ at this;rw [hp] at this
     exact this
  ·rw [if_neg e] at hq;exact h.rows i q hq
 ·simp only [lg] at hi
  by_cases e:id=i
  ·rw [if_pos e] at hi;cases hi
  ·rw [if_neg e] at hi;exact h.only i hi
theorem aH.open_ (h:aH Z w0 n [] s a w φ) (id j:Nat) {r:Row} {x:AV} (hr:look s.H id=some r) (hp:r.pure=false) (hj:r.cells[j]?=some x) (hx:gV x=true):∃v,aH Z w0 n [] ⟨s.F,(id,⟨r.e,false,r.full,r.cells.set j (.val v)⟩)::cF s.H id⟩ a w φ∧cp (aJ Z w φ []) w v x:=by
 have aK:=h.rows id _ hr
 unfold bJ at aK
 cases bY:φ id with
 | none=>rw [bY] at aK;simp only at aK;rw [aK] at hj;cases hj
 | some g =>
  rw [bY] at aK
  obtain ⟨cur,te,fr,hg,hf,hl,mD,hc⟩:=aK
  have cW:j<cur.size:=by have:=(List.getElem?_eq_some_iff.1 hj).1;omega
  have hu:cur[j]?=some cur[j]:=Array.getElem?_eq_getElem cW
  have hd:=hc j _ _ hu hj
  unfold a_ at hd;rw [hp] at hd
  refine ⟨cur[j],h.GL id j hr hp fun g' cur' TR QG u x' h1 h2 h3 h4 h5=>?_,(dY hd hx).1⟩
  rw [bY] at h1;injection h1 with h1;subst h1
  rw [hg] at h2;injection h2 with h2;injection h2 with h2;subst h2
  rw [hu] at h3;injection h3 with h3;subst h3
  exact .rep (.val _)
theorem aH.close_ (h:aH Z w0 n [] s a w φ) (id j:Nat) {r:Row} {x:AV} {v:Value} (hr:look s.H id=some r) (hp:r.pure=false) (hj:r.cells[j]?=some (.val v)) (hx:cp (aJ Z w φ []) w v x):aH Z w0 n [] ⟨s.F,(id,⟨r.e,false,r.full,r.cells.set j x⟩)::cF s.H id⟩ a w φ:=by
 refine h.GL id j hr hp fun g cur te fr u x' _ _ _ h4 h5=>?_
 rw [hj] at h4;injection h4 with h4;subst h4
 rw [bE h5]
 exact .rep hx
end
theorem a7.QH {P:Program} {n:Nat} {c:Code} {Q:Exit->AS->Prop} {s:AS} (s':AS) (h:s=s') (h2:a7 P n c Q s'):a7 P n c Q s:=h ▸ h2
end Go.Proofs.YtjgbhhnghedgdaaGreatDoor
