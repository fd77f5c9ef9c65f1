import Derived.Test.YtjgbhhnghedgdaaGreatDoorZbRI
import Derived.RangeFuncRecord
import Derived.OrdersIn
import Derived.TacticsIn
set_option linter.all false
namespace Go.Proofs.YtjgbhhnghedgdaaGreatDoor
open Go.RowKit
abbrev Wd (ro:Option Nat):Fence:={Fence.wide with round:=ro}
def ke (o:Oper):Bool:=match o.op with| .defer _=>false|_=>true
def kW:Code->Bool
 | .skip=>true
 | .region _ ops _=>ops.toList.all ke
 | .seq x y=>kW x && kW y
 | .cond _ x y=>kW x && kW y
 | .block _ c=>kW c
 | .loop c=>kW c
 | .exit _=>true
 | .ret=>true
 | _=>false
section
variable {P:Program} {Q:Exit->Act->World->Prop} {ro:Option Nat} {n:Nat}
theorem B_ {o:Oper} (h:ke o=true) (c):o.op≠ .defer c:=by
 intro e;unfold ke at h;rw [e] at h;cases h
theorem uc {o:Oper} {a:Act} {w:World} {K:Act->World->Prop} (ho:ke o=true) (hQ:¬LetsOut Q) (h:o.wp P a w K Q):o.wpIn (Wd ro) n P a w K Q:=by
 refine ⟨fun _ _=>trivial,?_⟩
 rw [Oper.semAt_eq _ _ _ (B_ ho)]
 unfold Oper.wp at h
 generalize (execOp a.eval o).run P w=r at *
 cases r with
 | ok x w' =>
  cases x with
  | enter f args=>exact ⟨fun h=>by simp [Fence.wide] at h,(callsIn_wide (n:=n-1)).2 h⟩
  | row row args =>
   refine ⟨fun h=>by simp [Fence.wide] at h,fun c cs _=>?_⟩
   obtain ⟨v,fw,h1,h2⟩:=h c cs
   exact ⟨v,fw,h1,stepsIn_wide.2 h2⟩
  | round=>exact h.elim
  | _=>exact h
 | halt x w'=>cases x<;>exact h
theorem list_round {ops:Array Oper} (hQ:¬LetsOut Q):∀(m:List Oper),m.all ke=true-> ∀(a:Act) (w:World),wpList P ops Q m a w->wpListIn (Wd ro) n P ops Q m a w
 | [],_,a,w,h=>h
 | o::m,hm,a,w,h=>by
  rw [List.all_cons,Bool.and_eq_true] at hm
  unfold wpList at h
  unfold wpListIn
  split at h
  ·rename_i hw
   rw [if_pos hw]
   rcases h with h|⟨-,h⟩
   ·have:=uc (ro:=ro) (n:=n) hm.1 hQ h
    refine ⟨this.1,?_⟩
    have h2:=this.2
    generalize (o.semAt (Wd ro).round a.eval).run P w=r at *
    cases r with
    | ok x w'=>cases x with
     | value v=>exact list_round hQ m hm.2 _ _ h2
     | skip=>exact list_round hQ m hm.2 _ _ h2
     | defer d=>exact list_round hQ m hm.2 _ _ h2
     | enter f args=>exact ⟨h2.1,(callsIn_wide (n:=n-1)).2 (Calls.mono ((callsIn_wide (n:=n-1)).1 h2.2) fun e fw he=>by cases e<;>first|exact list_round hQ m hm.2 _ _ he|exact he)⟩
     | row row args=>exact ⟨h2.1,RowsIn.mono h2.2 fun v fw he=>list_round hQ m hm.2 _ _ he⟩
     | round l' f tmps x b=>exact ⟨h2.1,RoundIn.mono h2.2 fun e fw he=>by cases e<;>first|exact list_round hQ m hm.2 _ _ he|exact he⟩
     | _=>exact h2
    | halt x w'=>cases x<;>exact h2
   ·exact absurd h hQ
  ·rename_i hw
   rw [if_neg hw]
   exact ⟨fun _ _=>trivial,list_round hQ m hm.2 _ _ h⟩
theorem za {o:Oper} {a:Act} {w:World} {K K':Act->World->Prop} (hK:∀a w,K a w->K' a w) (h:o.wpIn (Wd ro) n P a w K Q):o.wpIn (Wd ro) n P a w K' Q:=by
 refine ⟨h.1,?_⟩
 have h2:=h.2
 generalize (o.semAt (Wd ro).round a.eval).run P w=r at *
 cases r with
 | ok x w'=>cases x with
  | value v=>exact hK _ _ h2
  | skip=>exact hK _ _ h2
  | defer d=>exact hK _ _ h2
  | enter f args=>exact ⟨h2.1,(callsIn_wide (n:=n-1)).2 (Calls.mono ((callsIn_wide (n:=n-1)).1 h2.2) fun e fw he=>by cases e<;>first|exact hK _ _ he|exact he)⟩
  | row row args=>exact ⟨h2.1,RowsIn.mono h2.2 fun v fw he=>hK _ _ he⟩
  | round l' f tmps x b=>exact ⟨h2.1,RoundIn.mono h2.2 fun e fw he=>by cases e<;>first|exact hK _ _ he|exact he⟩
  | _=>exact h2
 | halt x w'=>cases x<;>exact h2
theorem ou {md:Region.Mode} {ops:Array Oper} (hc:ops.toList.all ke=true) (hQ:¬LetsOut Q):∀(fuel:Nat) (listed:Array Bool) (a:Act) (w:World),wpAny P md ops Q fuel listed a w->wpAnyIn (Wd ro) n P md ops Q fuel listed a w
 | 0,_,_,_,h=>h
 | fuel+1,listed,a,w,h=>⟨h.1,fun i hi=>by
   have h':=h.2 i hi
   unfold wpOp at h'
   unfold wpOpIn
   split
   ·rename_i ho;simp only [ho] at h';exact ou hc hQ fuel _ _ _ h'
   ·rename_i o ho
    simp only [ho] at h'
    have gh:ke o=true:=List.all_eq_true.1 hc o (by
     have:=Array.mem_of_getElem? ho;simpa using this)
    split
    ·rename_i hw
     rw [if_pos hw] at h'
     rcases h' with h'|⟨-,h'⟩
     ·exact za (ou hc hQ fuel _) (uc gh hQ h')
     ·exact absurd h' hQ
    ·rename_i hw
     rw [if_neg hw] at h'
     exact ⟨fun _ _=>trivial,ou hc hQ fuel _ _ _ h'⟩⟩
theorem Fm {F:Fence} {c:Code} {a:Act} {w:World} (J:Nat->Act->World->Prop) (k0:Nat) (h0:J k0 a w)
  (round:∀k a w,J k a w->c.wpIn F n P (Exit.then (fun a' w'=>∃k',k'<k∧J k' a' w') Q) a w):(Code.loop c).wpIn F n P Q a w:=by
 have Ij:∀a w,∃m,(∃k,J k a w)->J m a w∧ ∀k,J k a w->m≤k:=by
  intro a w
  by_cases h:∃k,J k a w
  ·obtain ⟨k,hk⟩:=h
   induction k using Nat.strongRecOn with
   | _ k ih =>
    by_cases hs:∃j,j<k∧J j a w
    ·obtain ⟨j,hj,hJ⟩:=hs;exact ih j hj hJ
    ·exact ⟨k,fun _=>⟨hk,fun j hJ=>Classical.byContradiction fun dj=>hs ⟨j,aj,hJ⟩⟩⟩
  ·exact ⟨0,fun h'=>absurd h' h⟩
 let μ :Act->World->Nat:=fun a w=>Classical.choose (Ij a w)
 have SZ :∀a w (h:∃k,J k a w),J (μ a w) a w∧ ∀k,J k a w-> μ a w≤k:=fun a w h=>Classical.choose_spec (Ij a w) h
 refine wpIn_loop (fun a w=>∃k,J k a w) μ ⟨k0,h0⟩ fun a w h=>?_
 refine wpIn_mono (round _ a w (SZ a w h).1) fun e a' w' hq=>?_
 cases e with
 | normal =>
  obtain ⟨k',hk,hJ⟩:=hq
  exact ⟨⟨k',hJ⟩,Nat.lt_of_le_of_lt ((SZ a' w' ⟨k',hJ⟩).2 k' hJ) hk⟩
 | _=>exact hq
theorem iw:∀(c:Code) (Q:Exit->Act->World->Prop) (a:Act) (w:World),kW c=true-> ¬LetsOut Q->BF P c Q a w->c.wpIn (Wd ro) n P Q a w
 | .skip,_,a,w,_,_,h=>wpIn_skip h
 | .region _ ops false,_,a,w,hc,hQ,h=>wpIn_region_list (list_round hQ _ hc _ _ h)
 | .region _ ops true,_,a,w,hc,hQ,h=>wpIn_region_any h.1 (ou hc hQ _ _ _ _ h.2)
 | .seq x y,Q,a,w,hc,hQ,h=>by
  simp only [kW,Bool.and_eq_true] at hc
  exact wpIn_seq (iw x _ a w hc.1 (by rintro ⟨a,w,h⟩;exact hQ ⟨a,w,h⟩) (eh x _ _ (lQ (fun a w h=>iw y Q a w hc.2 hQ h) fun _ _ _ h=>h) a w h))
 | .cond c x y,Q,a,w,hc,hQ,⟨t,h1,h2,h3⟩=>by
  simp only [kW,Bool.and_eq_true] at hc
  exact wpIn_cond_split h1 (fun e=>iw x Q a w hc.1 hQ (h2 e)) (fun e=>iw y Q a w hc.2 hQ (h3 e))
 | .block id c,_,a,w,hc,hQ,h=>wpIn_block (iw c _ a w hc (by rintro ⟨a,w,h⟩;exact hQ ⟨a,w,h⟩) h)
 | .loop c,_,a,w,hc,hQ,⟨J,k0,h0,h⟩=>Fm J k0 h0 fun k a w hJ=>iw c _ a w hc (by rintro ⟨a,w,h⟩;exact hQ ⟨a,w,h⟩) (h k a w hJ)
 | .exit id,_,a,w,_,_,h=>wpIn_exit h
 | .ret,_,a,w,_,_,h=>wpIn_ret h
 | .rangeFunc ..,_,_,_,hc,_,_=>by cases hc
 | .scope _,_,_,_,hc,_,_=>by cases hc
 | .label _,_,_,_,hc,_,_=>by cases hc
 | .goto _,_,_,_,hc,_,_=>by cases hc
 | .refuse _,_,_,_,hc,_,_=>by cases hc
end
section
variable {S0:bo} {w0 w:World} {n:Nat} {s:AS} {a:Act} {φ:Nat->Option Nat}
def zH (x y:Nat) (φ:Nat->Option Nat):Nat->Option Nat:=fun i=>if i=y then φ x else if i=x then none else φ i
theorem aJ.DY (h:aJ S0 w0 n [] s a w φ) (x y:Nat) (O4:y<1000000000000∨ ∀g,φ x=some g->S0.fix y=some g) (cX:x≠y) (hy:look s.H y=none):aJ S0 w0 n [] (rename x y s) a w (zH x y φ):=by
 let cE:Nat->Option Nat:=fun i=>if i=y then φ x else if i=x then none else φ i
 show aJ S0 w0 n [] (rename x y s) a w cE
 have Rb:φ y=none:=h.only y hy
 have mE:∀i g,cE i=some g-> ∃j,φ j=some g∧(i=y->j=x)∧(i≠y->j=i):=by
  intro i g hi
  by_cases e:i=y
  ·have:φ x=some g:=by simpa [cE,e] using hi
   exact ⟨x,this,fun _=>rfl,fun h=>absurd e h⟩
  ·by_cases e2:i=x
   ·simp [cE,e2,cX] at hi
   ·have:φ i=some g:=by simpa [cE,e,e2] using hi
    exact ⟨i,this,fun h=>absurd h e,fun _=>rfl⟩
 have Ix:∀b,aM S0 w φ [] b->aM S0 w cE [] b:=by
  intro b ⟨h1,h2,h3,h4⟩
  refine ⟨h1,h2,fun i hi=>?_,h4⟩
  obtain ⟨j,hj,-⟩:=mE i b hi
  exact h3 j hj
 have jZ:∀i,look (rename x y s).H i=(if i=y then look s.H x else if i=x then none else look s.H i).map (eX x y):=by
  intro i
  unfold rename
  rw [cz,nz x y _ hy]
 have hI:∀i z,az s.H φ i=some z->az (rename x y s).H cE (if i=x then y else i)=some z:=by
  intro i z hi
  obtain ⟨e,m,b⟩:=z
  obtain ⟨r,hl,h1,h2,h3⟩:=aQ hi
  by_cases e1:i=x
  ·subst e1
   rw [if_pos rfl,bu (r:=eX i y r) (by rw [jZ,if_pos rfl,hl];rfl),(cK i y r).1,(cK i y r).2.1,h1,h2]
   simp [cE,h3]
  ·have e2:i≠y:=fun e=>by subst e;rw [hy] at hl;cases hl
   rw [if_neg e1,bu (r:=eX x y r) (by rw [jZ,if_neg e2,if_neg e1,hl];rfl),(cK x y r).1,(cK x y r).2.1,h1,h2]
   simp [cE,e1,e2,h3]
 have sJ:∀b,aM S0 w φ [] b->aM S0 w cE [] b∧w.heap[b]?=w.heap[b]?:=fun b h=>⟨Ix b h,rfl⟩
 have ok:jV (az s.H φ) (az (rename x y s).H cE) (aM S0 w φ []) (aM S0 w cE []) w (kG x y):=by
  refine ⟨fun v av hv h1 h2=>?_,fun _=>rfl,fun _=>rfl⟩
  have pick:∀i z,az s.H φ i=some z->(Nat.beq i x=true∧az (rename x y s).H cE y=some z)∨(Nat.beq i x=false∧az (rename x y s).H cE i=some z):=by
   intro i z hi
   have:=hI i z hi
   rcases bJ i x with ⟨hb,e⟩|⟨hb,e⟩
   ·rw [if_pos e] at this;exact .inl ⟨hb,this⟩
   ·rw [if_neg e] at this;exact .inr ⟨hb,this⟩
  cases hv with
  | rep h=>cases h with
   | val v=>exact .rep (.val v)
   | nil=>exact .rep .nil
   | agg vs cs _ _=>exact absurd rfl (h1 cs)
   | bt vs cs _ _=>exact absurd rfl (h2 cs)
   | arr vs cs hl h=>exact .rep ((cB.arr vs cs hl h).mono sJ)
   | sl A n c e us row hl hn hc hm ha h=>exact .rep ((cB.sl A n c e us row hl hn hc hm ha h).mono sJ)
   | pf A n e us row hl hn hm ha h=>exact .rep ((cB.pf A n e us row hl hn hm ha h).mono sJ)
   | ptr ad us row off hl hs ha h=>exact .rep ((cB.ptr ad us row off hl hs ha h).mono sJ)
   | lK f vs cs hl h=>exact .rep ((cB.lK f vs cs hl h).mono sJ)
  | agg vs cs _ _=>exact absurd rfl (h1 cs)
  | bt vs cs _ _=>exact absurd rfl (h2 cs)
  | ref i e m g l c hi hm hc hx hs=>rcases pick i _ hi with ⟨hb,jk⟩|⟨hb,jk⟩<;>simp only [kG,hb]<;>exact .ref _ e m g l c jk hm hc hx hs
  | cH i e hi=>rcases pick i _ hi with ⟨hb,jk⟩|⟨hb,jk⟩<;>simp only [kG,hb]<;>exact .cH _ e jk
  | pre i k e m g l c hi hn hm hc hx hs=>rcases pick i _ hi with ⟨hb,jk⟩|⟨hb,jk⟩<;>simp only [kG,hb]<;>exact .pre _ k e m g l c jk hn hm hc hx hs
  | dF i e hi=>rcases pick i _ hi with ⟨hb,jk⟩|⟨hb,jk⟩<;>simp only [kG,hb]<;>exact .dF _ e jk
  | jr i off k e m l c g A hi hn hm hc hx ha=>rcases pick i _ hi with ⟨hb,jk⟩|⟨hb,jk⟩<;>simp only [kG,hb]<;>exact .jr _ off k e m l c g A jk hn hm hc hx ha
  | addr i off e m g hi=>rcases pick i _ hi with ⟨hb,jk⟩|⟨hb,jk⟩<;>simp only [kG,hb]<;>exact .addr _ off e m g jk
  | dead v=>exact .dead _
 have B7:∀z:AV,(∀cs,z≠ .agg cs)->E_ x y z=kG x y z:=by
  intro z hz
  cases z with
  | agg cs=>exact absurd rfl (hz cs)
  | _=>rfl
 have B6:∀z:AV,(∀cs,z≠ .bt cs)->Mv x y z=E_ x y z:=by
  intro z hz
  cases z with
  | bt cs=>exact absurd rfl (hz cs)
  | _=>rfl
 refine ⟨h.jQ,h.jT,h.cZ,fun i av hi=>?_,fun i r hr=>?_,fun i hi=>?_,fun i j g hi hj=>?_,fun i g hi=>?_,fun i g hi=>by simp,h.new⟩
 ·unfold rename at hi
  rw [cz] at hi
  cases hl:look s.F i with
  | none=>rw [hl] at hi;cases hi
  | some z =>
   rw [hl] at hi;injection hi with hi;subst hi
   exact ok.two (h.cG i z hl) (fun _=>rfl) B7 (fun _=>rfl) B6
 ·rw [jZ] at hr
  have:∃j q,look s.H j=some q∧cE i=φ j∧r=eX x y q:=by
   by_cases e:i=y
   ·rw [if_pos e] at hr
    cases hl:look s.H x with
    | none=>rw [hl] at hr;cases hr
    | some q=>rw [hl] at hr;injection hr with hr;exact ⟨x,q,hl,by simp [cE,e],hr.symm⟩
   ·rw [if_neg e] at hr
    by_cases e2:i=x
    ·rw [if_pos e2] at hr;cases hr
    ·rw [if_neg e2] at hr
     cases hl:look s.H i with
     | none=>rw [hl] at hr;cases hr
     | some q=>rw [hl] at hr;injection hr with hr;exact ⟨i,q,hl,by simp [cE,e,e2],hr.symm⟩
  obtain ⟨j,q,hq,MG,rfl⟩:=this
  have aN:=h.rows j q hq
  rw [MG]
  unfold bN at aN ⊢
  cases hb:φ j with
  | none =>
   rw [hb] at aN
   have:=(cK x y q).2.1
   simp only at aN ⊢
   rw [aN] at this;exact List.length_eq_zero_iff.1 this
  | some g =>
   rw [hb] at aN
   obtain ⟨cur,te,fr,hg,hf,hlen,mT,hc⟩:=aN
   refine ⟨cur,te,fr,hg,hf,by rw [(cK x y q).2.1];exact hlen,by rw [(cK x y q).2.1,(cK x y q).2.2.2];exact mT,fun j u z hu hz=>?_⟩
   rw [(cK x y q).2.2.1]
   unfold bj
   cases hp:q.pure with
   | true =>
    have:eX x y q=q:=by unfold eX;rw [hp]
    rw [this] at hz
    have:=hc j u z hu hz
    unfold bj at this;rw [hp] at this
    exact this.mono sJ
   | false =>
    have:(eX x y q).cells=q.cells.map (kG x y):=by unfold eX;rw [hp]
    rw [this,List.getElem?_map] at hz
    cases hj:q.cells[j]? with
    | none=>rw [hj] at hz;cases hz
    | some z' =>
     rw [hj] at hz;injection hz with hz;subst hz
     have:=hc j u z' hu hj
     unfold bj at this;rw [hp] at this
     exact ok.all this
 ·rw [jZ] at hi
  by_cases e:i=y
  ·rw [if_pos e] at hi
   cases hl:look s.H x with
   | none=>simp [cE,e,h.only x hl]
   | some q=>rw [hl] at hi;cases hi
  ·rw [if_neg e] at hi
   by_cases e2:i=x
   ·simp [cE,e2,cX]
   ·rw [if_neg e2] at hi
    cases hl:look s.H i with
    | none=>simp [cE,e,e2,h.only i hl]
    | some q=>rw [hl] at hi;cases hi
 ·obtain ⟨i',h1,h2,h3⟩:=mE i g hi
  obtain ⟨j',h4,h5,h6⟩:=mE j g hj
  have e:=h.inj i' j' g h1 h4
  by_cases ei:i=y<;>by_cases ej:j=y
  ·rw [ei,ej]
  ·have:=h2 ei;have:=h6 ej
   have:j=x:=aj
   subst this
   simp [cE,cX] at hj
  ·have:=h3 ei;have:=h5 ej
   have:i=x:=aj
   subst this
   simp [cE,cX] at hi
  ·have:=h3 ei;have:=h6 ej;omega
 ·obtain ⟨j,h1,h2,h3⟩:=mE i g hi
  have:=h.cY j g h1
  refine ⟨⟨?_,this.1.2⟩,this.2⟩
  by_cases e:i=y
  ·have hj:=h2 e
   subst hj
   rw [e]
   exact O4.imp (fun h=>h) fun h=>h g h1
  ·rw [←h3 e];exact this.1.1
end
section
variable {Z Z':bo} {w0 w w':World} {n:Nat} {O:List Nat} {s:AS} {a a':Act} {φ:Nat->Option Nat}
theorem aJ.qQ (h:aJ Z w0 n O s a w φ) (dC:w.heap.size≤w'.heap.size) (hb:∀b,Z.S b->b<w.heap.size->w'.heap[b]?=w.heap[b]?) (hS:∀b,Z.S b->b<w.heap.size->Z'.S b) (l0:∀b,(w'.heap.size≤b∨Z'.X b)->Z'.S b) (hX:∀id g,φ id=some g->Z'.X g)
  (KR:∀id g,φ id=some g->id<1000000000000∨Z'.fix id=some g) (ht:a'.tmps=a.tmps) (hd:a'.defers=Z'.si) (UI:Good w') (UH:∀b,TB b-> ¬Z'.X b):aJ Z' w' n O s a' w' φ:=by
 have hF:∀b,aM Z w φ O b->aM Z' w' φ O b∧w'.heap[b]?=w.heap[b]?:=fun b kO=>⟨⟨Nat.lt_of_lt_of_le kO.1 dC,kO.2.1,kO.2.2.1,hS b kO.2.2.2 kO.1⟩,hb b kO.2.2.2 kO.1⟩
 have cm:∀id g,φ id=some g->w'.heap[g]?=w.heap[g]?:=fun id g hg=>hb g (h.new g (h.cY id g hg).1.2) (h.cY id g hg).2
 have hL:∀id e m g,az s.H φ id=some (e,m,some g)->aV w' g=aV w g:=fun id e m g hi=>by
  obtain ⟨_,-,-,-,hg⟩:=aQ hi
  unfold aV;rw [cm id g hg]
 refine ⟨by rw [ht];exact h.jQ,hd,⟨rfl,rfl,rfl,Nat.le_refl _,fun _ _ _=>rfl,UI,UH⟩,fun i av hi=>?_,fun id r hr=>?_,h.only,h.inj,fun id g hg=>⟨⟨KR id g hg,.inr (hX id g hg)⟩,Nat.lt_of_lt_of_le (h.cY id g hg).2 dC⟩,h.apart,l0⟩
 ·rw [ht];exact (h.cG i av hi).mono (fun _ _ h=>h) hF hL
 ·have aN:=h.rows id r hr
  unfold bN at aN ⊢
  cases hg:φ id with
  | none=>rw [hg] at aN;exact aN
  | some g =>
   rw [hg] at aN
   obtain ⟨cur,te,fr,u1,u2,u3,u4,u5⟩:=aN
   refine ⟨cur,te,fr,(cm id g hg).trans u1,u2,u3,u4,fun j u x hu hx=>?_⟩
   have:=u5 j u x hu hx
   unfold bj at this ⊢
   cases hp:r.pure with
   | true=>rw [hp] at this;exact this.mono hF
   | false=>rw [hp] at this;exact this.mono (fun _ _ h=>h) hF hL
end
def mK:AV->Bool
 | .val _=>true
 | .nil=>true
 | .ref _=>true
 | .pre _ _=>true
 | .jr _ _ _=>true
 | .addr _ _=>true
 | _=>false
def jC (H:List (Nat×Row)):Prop:=∀id r,look H id=some r-> ∀(j:Nat) x,r.cells[j]?=some x->mK x=true
theorem Dg {I:Info} {S S':Nat->Prop} {w w':World} {v:Value} {x:AV} (h:Den I S w v x) (hc:mK x=true) (hL:∀id e m g,I id=some (e,m,some g)->aV w' g=aV w g):Den I S' w' v x:=by
 cases h with
 | rep h=>cases h with
  | val v=>exact .rep (.val v)
  | nil=>exact .rep .nil
  | _=>cases hc
 | agg=>cases hc
 | bt=>cases hc
 | ref id e m g l c hi hm k7 hx hs=>exact .ref id e m g l c hi hm k7 hx ((hL _ _ _ _ hi).trans hs)
 | cH id e hi=>exact .cH id e hi
 | pre id n e m g l c hi hn hm k7 hx hs=>exact .pre id n e m g l c hi hn hm k7 hx ((hL _ _ _ _ hi).trans hs)
 | dF id e hi=>exact .dF id e hi
 | jr id off n e m l c g A hi hn hm k7 hx ha=>exact .jr id off n e m l c g A hi hn hm k7 hx ha
 | addr id off e m g hi=>exact .addr id off e m g hi
 | dead v=>exact .dead v
theorem BT {S S':Nat->Prop} {w w':World} {v:Value} {x:AV} (h:cB S w v x) (hc:mK x=true):cB S' w' v x:=by
 cases h with
 | val v=>exact .val v
 | nil=>exact .nil
 | _=>cases hc
def ov (P:Program) (l:Nat) (vs:List Value) (w:World) (T:Bool->World->Prop):Prop :=
 ∃fn tmps TQ bd,(Instr.yield l vs.toArray).run P w= .ok (.round l fn tmps TQ bd) w∧RoundIn Fence.wide 0 P l fn tmps TQ bd w fun e w'=>∃t,e= .returned (.bool t)∧T t w'
structure JC (O:Nat->Prop) (w w':World):Prop where
 os:w'.os=w.os
 tape:w'.tape=w.tape
 output:w'.output=w.output
 size:w.heap.size≤w'.heap.size
 block:∀b,b<w.heap.size-> ¬O b->w'.heap[b]?=w.heap[b]?
def jU (J:(Nat->Prop)->(Nat->Prop)->World->Prop):Prop :=
 ∀O K w O' K' w',J O K w->JC O w w'->(∀b,O' b->O b∨w.heap.size≤b)->(∀b,K' b->K b∨w.heap.size≤b)->J O' K' w'
def w6 (P:Program) (f:Nat) (lH:List AV) (A:Nat->List AV) (N:Nat):Prop :=
 ∀(l:Nat) (w:World) (S:Nat->Prop) (cv:List Value) (J:Nat->(Nat->Prop)->(Nat->Prop)->World->Prop) (X:(Nat->Prop)->(Nat->Prop)->World->Prop),
  Good w->(∀b,S b->b<w.heap.size)->cv.length=lH.length->(∀(j:Nat) v x,cv[j]?=some v->lH[j]?=some x->cB S w v x) ->
  (∀i,jU (J i))->jU X ->
  (∀i,i<N-> ∀(O K:Nat->Prop) (w1:World) (vs:List Value),J i O K w1->(∀b,O b->K b)->(∀b,K b->b<w1.heap.size)->vs.length=(A i).length->(∀(j:Nat) v x,vs[j]?=some v->(A i)[j]?=some x->cB K w1 v x) ->
   ov P l vs w1 fun t w2=>Good w2∧w1.heap.size≤w2.heap.size∧(∀b,K b->w2.heap[b]?=w1.heap[b]?)∧(t=true->J (i+1) O K w2)∧(t=false->X O K w2)) ->
  J 0 (fun _=>False) S w ->
  Calls P f (Value.func (.yield l) #[] #[]::cv).toArray w fun e w'=>∃v O K,e= .returned v∧(J N O K w'∨X O K w')
def Q4 (H:List (Nat×Row)):AV->Bool
 | .val _=>true
 | .nil=>true
 | .arr _=>true
 | .sl _ _=>true
 | .ptr _ _=>true
 | .lK _ _=>true
 | .agg cs=>d_ cs
 | .dead=>true
 | .addr id _=>(match Nat.ble 1000000000000 id,look H id with|true,some r=>(match r.cells with| []=>false|_::_=>true)|_,_=>false)
 | _=>false
def Oz (F:List (Nat×AV)) (H:List (Nat×Row)):Prop:=∀i x,look F i=some x->Q4 H x=true
def B8 (H:List (Nat×Row)):List (Nat×AV)->Bool
 | []=>true
 | (_,x)::F=>match Q4 H x with|true=>B8 H F|false=>false
theorem pT {H:List (Nat×Row)}:∀ {F:List (Nat×AV)},B8 H F=true->Oz F H
 | [],_,i,x,h=>by cases h
 | (k,y)::F,hb,i,x,h=>by
  simp only [B8] at hb
  split at hb
  ·rename_i hy
   rw [aD] at h
   by_cases e:k=i
   ·rw [if_pos e] at h;injection h with h;subst h;exact hy
   ·rw [if_neg e] at h;exact pT hb i x h
  ·cases hb
structure ER (op:List (Value×AV)) (S0:bo) (w0:World) (n:Nat) (tm:Array Value) (fx:Nat->Option Nat) (r l:Nat) (we:World) (rc:Loop) (s:AS) (O K:Nat->Prop) (w:World):Prop where
 ex:∃(wb:World) (φ:Nat->Option Nat) (Z:bo),aJ Z wb n [] s ⟨tm,[]⟩ wb φ∧Z.fix=fx∧we.heap.size≤wb.heap.size∧wb.heap.size≤w.heap.size∧(∀b,Z.S b->b<wb.heap.size->w.heap[b]?=wb.heap[b]?)∧(∀b,Z.S b->b<wb.heap.size->S0.S b) ∧
  (∀id g,φ id=some g->w0.heap.size≤g∨S0.X g)∧(∀b,O b->b<wb.heap.size-> ¬Z.S b)∧(∀b,K b-> ∀id,φ id≠some b)∧ ¬Z.S l∧ ¬Z.S r∧ ∀p∈op,cB (aM Z wb φ []) wb p.1 p.2
 kept:Kept S0 w0 w
 base:w0.heap.size≤we.heap.size
 P4:∀b,O b->we.heap.size≤b
 hl:l<we.heap.size
 hr:r<we.heap.size
 Kl:¬K l
 Hk:w.heap[l]?=some (.loop rc)
 Kv:∀b,w0.heap.size≤b->S0.S b
 N6:w0.heap.size≤l
 rl:r≠l
 Kr:¬K r
 jT:w.heap[r]?=some (.deferred (some []))
section
variable {op:List (Value×AV)} {P:Program} {S0:bo} {w0:World} {n:Nat} {tm:Array Value} {fx:Nat->Option Nat} {r l:Nat} {we:World} {rc:Loop} {s:AS}
theorem ER.GV:jU (ER op S0 w0 n tm fx r l we rc s):=by
 intro O K w O' K' w' h st hO hK
 obtain ⟨wb,φ,Z,h1,h2,h3,h4,h5,h6,h7,h8,h9,JS,Iy,Nk⟩:=h.ex
 have hle:we.heap.size≤w.heap.size:=Nat.le_trans h3 h4
 refine ⟨⟨wb,φ,Z,h1,h2,h3,Nat.le_trans h4 st.size,fun b hb dj=>(st.block b aj fun ho=>h8 b ho dj hb).trans (h5 b hb dj),h6,h7,fun b hb dj=>?_,fun b hb id hid=>?_,JS,Iy,Nk⟩,?_,h.base,fun b hb=>?_,h.hl,h.hr,fun hb=>?_,?_,?_,?_,?_,?_,?_⟩
 ·rcases hO b hb with hb|hb
  ·exact h8 b hb dj
  ·omega
 ·rcases hK b hb with hb|hb
  ·exact h9 b hb id hid
  ·have:=(h1.cY id b hid).2;omega
 ·exact ⟨st.os.trans h.kept.os,st.tape.trans h.kept.tape,st.output.trans h.kept.output,Nat.le_trans h.kept.size st.size,fun k hk hx=>(st.block k (Nat.lt_of_lt_of_le hk h.kept.size) fun ho=>by have:=h.P4 k ho;have:=h.base;omega).trans (h.kept.block k hk hx),h.kept.g0,h.kept.gx⟩
 ·rcases hO b hb with hb|hb
  ·exact h.P4 b hb
  ·omega
 ·rcases hK l hb with hb|hb
  ·exact h.Kl hb
  ·have:=h.hl;omega
 ·exact (st.block l (by have:=h.hl;omega) fun ho=>by have:=h.P4 l ho;have:=h.hl;omega).trans h.Hk
 ·exact h.Kv
 ·exact h.N6
 ·exact h.rl
 ·intro hb
  rcases hK r hb with hb|hb
  ·exact h.Kr hb
  ·have:=h.hr;omega
 ·exact (st.block r (by have:=h.hr;omega) fun ho=>by have:=h.P4 r ho;have:=h.hr;omega).trans h.jT
def Hp:List Nat->List AV->AS->AS
 | p::ps,x::xs,s=>Hp ps xs (lr s p x)
 | _,_,s=>s
theorem wA {Z:bo} {w:World} {φ:Nat->Option Nat}:∀(ps:List Nat) (vs:List Value) (xs:List AV) (s:AS) (a:Act),aJ Z w0 n [] s a w φ->vs.length=xs.length->(∀p∈ps,p<n) ->
  (∀(j:Nat) v x,vs[j]?=some v->xs[j]?=some x->Den (az s.H φ) (aM Z w φ []) w v x)->aJ Z w0 n [] (Hp ps xs s) ⟨(ps.zip vs).foldl (fun t p=>t.setIfInBounds p.1 p.2) a.tmps,a.defers⟩ w φ
 | [],vs,xs,s,a,h,_,_,_=>by
  cases xs<;>exact h
 | p::ps,[],xs,s,a,h,hl,_,_=>by
  cases xs with
  | nil=>exact h
  | cons=>simp at hl
 | p::ps,v::vs,[],s,a,h,hl,_,_=>by simp at hl
 | p::ps,v::vs,x::xs,s,a,h,hl,hp,hd=>by
  have h1:=h.put (hp p (by simp)) (hd 0 v x rfl rfl)
  exact wA ps vs xs (lr s p x) (a.put (some p) v) h1 (by simpa using hl) (fun q hq=>hp q (by simp [hq])) fun j u y hu hy=>hd (j+1) u y (by simpa using hu) (by simpa using hy)
theorem HF {F:List (Nat×AV)} {H X:List (Nat×Row)} {O K:Nat->Prop} {w1 w3 QX:World} {S3:bo} {a3:Act} {vu:Nat->Option Nat} {pC:Loop} {φ:Nat->Option Nat} {wb:World} {Z:bo}
  (hM:ER op S0 w0 n tm fx r l we rc ⟨F,H⟩ O K w1) (On:∀b,O b->K b) (hK:∀b,K b->b<w1.heap.size)
  (h1:aJ Z wb n [] ⟨F,H⟩ ⟨tm,[]⟩ wb φ) (h2:Z.fix=fx) (h3:we.heap.size≤wb.heap.size) (h4:wb.heap.size≤w1.heap.size) (h5:∀b,Z.S b->b<wb.heap.size->w1.heap[b]?=wb.heap[b]?) (h6:∀b,Z.S b->b<wb.heap.size->S0.S b)
  (h7:∀id g,φ id=some g->w0.heap.size≤g∨S0.X g) (h8:∀b,O b->b<wb.heap.size-> ¬Z.S b) (h9:∀b,K b-> ∀id,φ id≠some b) (JS:¬Z.S l) (Iy:¬Z.S r) (Nk:∀p∈op,cB (aM Z wb φ []) wb p.1 p.2)
  (Fz:aJ S3 QX n [] ⟨[],X⟩ a3 w3 vu) (KR:S3.fix=fx) (Om:∀id g,vu id=some g->w1.heap.size≤g∨lL φ g) (RL:¬S3.S l) (Up:¬S3.S r)
  (Ia:w3.os=w1.os) (uB:w3.tape=w1.tape) (uC:w3.output=w1.output) (dC:w1.heap.size≤w3.heap.size) (AH:∀b,b<w1.heap.size-> ¬lL φ b->b≠l->w3.heap[b]?=w1.heap[b]?)
  (hX:jC X) (hF:Oz F H) (Sl:Oz F X) :
  ER op S0 w0 n tm fx r l we pC ⟨F,X⟩ O K (w3.putObj l (.loop pC))∧(∀b,K b->(w3.putObj l (.loop pC)).heap[b]?=w1.heap[b]?):=by
 have LR:l<w3.heap.size:=by have:=hM.hl;omega
 have Co:∀b,b≠l->(w3.putObj l (.loop pC)).heap[b]?=w3.heap[b]?:=fun b hb=>World.putObj_heap_other hb
 have El:∀b,b<w1.heap.size-> ¬lL φ b->b≠l->(w3.putObj l (.loop pC)).heap[b]?=w1.heap[b]?:=fun b hb hn cX=>(Co b cX).trans (AH b hb hn cX)
 have own:∀id g,φ id=some g->Z.S g∧g<wb.heap.size:=fun id g hg=>⟨h1.new g (h1.cY id g hg).1.2,(h1.cY id g hg).2⟩
 have MA:∀id g,vu id=some g->S3.S g∧g<w3.heap.size:=fun id g hg=>⟨Fz.new g (Fz.cY id g hg).1.2,(Fz.cY id g hg).2⟩
 have Q7:∀id g,vu id=some g->g≠l:=fun id g hg e=>RL (e ▸ (MA id g hg).1)
 have U_:∀id e m g,az X vu id=some (e,m,some g)->aV (w3.putObj l (.loop pC)) g=aV w3 g:=fun id e m g hi=>by
  obtain ⟨_,-,-,-,hg⟩:=aQ hi
  unfold aV;rw [Co g (Q7 id g hg)]
 let Z4:bo:=⟨fun b=>(Z.S b∧b<wb.heap.size)∨lL vu b∨(w3.putObj l (.loop pC)).heap.size≤b,lL vu,fx,[]⟩
 have KJ:(w3.putObj l (.loop pC)).heap.size=w3.heap.size:=World.putObj_size
 have fy:Kept S0 w0 (w3.putObj l (.loop pC)):=by
  refine ⟨Ia.trans hM.kept.os,uB.trans hM.kept.tape,uC.trans hM.kept.output,by rw [KJ];exact Nat.le_trans hM.kept.size dC,fun k hk hx=>?_,hM.kept.g0,hM.kept.gx⟩
  have UC:k<w1.heap.size:=Nat.lt_of_lt_of_le hk hM.kept.size
  refine (El k UC (fun ⟨id,hid⟩=>?_) (fun e=>?_)).trans (hM.kept.block k hk hx)
  ·rcases h7 id k hid with h|h
   ·omega
   ·exact hx h
  ·have:=hM.N6;omega
 have SY:∀b,lL vu b->b<wb.heap.size->Z.S b:=fun b ⟨id,hid⟩ dj=>by
  rcases Om id b hid with h|⟨j,hj⟩
  ·omega
  ·exact (own j b hj).1
 have uF:∀b,aM Z wb φ [] b->aM Z4 (w3.putObj l (.loop pC)) vu [] b∧(w3.putObj l (.loop pC)).heap[b]?=wb.heap[b]?:=by
  intro b ⟨f1,f2,f3,f4⟩
  have cX:b≠l:=fun e=>JS (e ▸ f4)
  have hn:¬lL φ b:=fun ⟨id,hid⟩=>f3 id hid
  refine ⟨⟨by rw [KJ];omega,by simp,fun id hid=>?_,.inl ⟨f4,f1⟩⟩,(El b aj hn cX).trans (h5 b f4 f1)⟩
  rcases Om id b hid with h|h
  ·omega
  ·exact hn h
 have gb:aJ Z4 (w3.putObj l (.loop pC)) n [] ⟨F,X⟩ ⟨tm,[]⟩ (w3.putObj l (.loop pC)) vu:=by
  refine ⟨h1.jQ,rfl,⟨rfl,rfl,rfl,Nat.le_refl _,fun _ _ _=>rfl,fy.mH,fun b hb=>Fz.sD hb⟩,fun i av hi=>?_,fun id q hq=>?_,Fz.only,Fz.inj,fun id g hg=>⟨⟨?_,.inr ⟨id,hg⟩⟩,by rw [KJ];exact (MA id g hg).2⟩,fun _ _ _ h=>(by cases h),fun b hb=>?_⟩
  ·
   have dV:Den (az H φ) (aM Z wb φ []) wb (tm.getD i undef) av:=h1.cG i av hi
   show Den (az X vu) (aM Z4 (w3.putObj l (.loop pC)) vu []) (w3.putObj l (.loop pC)) (tm.getD i undef) av
   generalize tm.getD i undef=tv at dV ⊢
   have Eo:=hF i av hi
   have Ig:=Sl i av hi
   have qE:cB (aM Z wb φ []) wb tv av->Den (az X vu) (aM Z4 (w3.putObj l (.loop pC)) vu []) (w3.putObj l (.loop pC)) tv av:=fun h=>.rep (h.mono uF)
   cases av with
   | val=>exact qE (by cases dV with|rep h=>exact h)
   | nil=>exact qE (by cases dV with|rep h=>exact h)
   | arr=>exact qE (by cases dV with|rep h=>exact h)
   | sl=>exact qE (by cases dV with|rep h=>exact h)
   | ptr=>exact qE (by cases dV with|rep h=>exact h)
   | lK=>exact qE (by cases dV with|rep h=>exact h)
   | dead=>exact .dead _
   | agg cs =>
    obtain ⟨vs,hv,rh,hd⟩:=kj dV
    rw [hv]
    exact .rep ((cB.agg vs cs rh fun j v c hv hc=>(eK (hd j v c hv hc) (iA Eo hc)).1).mono uF)
   | addr id off =>
    simp only [Q4] at Ig
    split at Ig
    ·rename_i q hb lD
     split at Ig
     ·cases Ig
     ·rename_i x0 xs wL
      have uI:=Nat.le_of_ble_eq_true hb
      cases dV with
      | rep h=>cases h
      | addr _ _ e m g hi =>
       obtain ⟨_,-,-,-,hg⟩:=aQ hi
       have UK:fx id=some g:=by
        rcases (h1.cY id g hg).1.1 with h|h
        ·omega
        ·rw [←h2];exact h
       have aN:=Fz.rows id q lD
       unfold bN at aN
       cases RU:vu id with
       | none=>rw [RU] at aN;simp only at aN;rw [wL] at aN;cases aN
       | some g4 =>
        have:fx id=some g4:=by
         rcases (Fz.cY id g4 RU).1.1 with h|h
         ·omega
         ·rw [←KR];exact h
        rw [UK] at this;injection this with this;subst this
        exact .addr id off q.e q.cells.length g (by unfold az;rw [lD,RU];rfl)
    ·cases Ig
   | _=>cases Eo
  ·
   have aN:=Fz.rows id q hq
   unfold bN at aN ⊢
   cases hg:vu id with
   | none=>rw [hg] at aN;exact aN
   | some g =>
    rw [hg] at aN
    obtain ⟨cur,te,fr,u1,u2,u3,u4,u5⟩:=aN
    refine ⟨cur,te,fr,(Co g (Q7 id g hg)).trans u1,u2,u3,u4,fun j u x hu hx=>?_⟩
    have:=u5 j u x hu hx
    have hc:=hX id q hq j x hx
    unfold bj at this ⊢
    cases hp:q.pure with
    | true=>rw [hp] at this;exact BT this hc
    | false=>rw [hp] at this;exact Dg this hc U_
  ·rcases (Fz.cY id g hg).1.1 with h|h
   ·exact .inl h
   ·right;show fx id=some g;rw [←KR];exact h
  ·rcases hb with h|h
   ·exact .inr (.inr h)
   ·exact .inr (.inl h)
 refine ⟨⟨⟨w3.putObj l (.loop pC),vu,Z4,gb,rfl,by rw [KJ];omega,Nat.le_refl _,fun _ _ _=>rfl,fun b hb dj=>?_,fun id g hg=>?_,fun b hb dj hS=>?_,fun b hb id hid=>?_,fun hS=>?_,fun hS=>?_,fun p hp=>(Nk p hp).mono uF⟩,?_,hM.base,hM.P4,hM.hl,hM.hr,hM.Kl,World.putObj_heap_same LR,hM.Kv,hM.N6,hM.rl,hM.Kr,?_⟩,fun b hb=>?_⟩
 ·rcases hb with h|⟨id,hid⟩|h
  ·exact h6 b h.1 h.2
  ·rcases Om id b hid with h|⟨j,hj⟩
   ·
    have:=hM.base;exact hM.Kv b aj
   ·exact h6 b (own j b hj).1 (own j b hj).2
  ·omega
 ·rcases Om id g hg with h|⟨j,hj⟩
  ·left;have:=hM.base;omega
  ·exact h7 j g hj
 ·rcases hS with h|h|h
  ·exact h8 b hb h.2 h.1
  ·obtain ⟨id,hid⟩:=h
   rcases Om id b hid with h|⟨j,hj⟩
   ·have:=hK b (On b hb);omega
   ·exact h8 b hb (own j b hj).2 (own j b hj).1
  ·have:=hK b (On b hb);omega
 ·rcases Om id b hid with h|⟨j,hj⟩
  ·have:=hK b hb;omega
  ·exact h9 b hb j hj
 ·rcases hS with h|⟨id,hid⟩|h
  ·exact JS h.1
  ·exact Q7 id l hid rfl
  ·omega
 ·rcases hS with h|⟨id,hid⟩|h
  ·exact Iy h.1
  ·exact Up (MA id r hid).1
  ·have:=hM.hr;omega
 ·exact fy
 ·have cX:r≠l:=hM.rl
  refine (El r (by have:=hM.hr;omega) (fun ⟨id,hid⟩=>Iy (own id r hid).1) cX).trans hM.jT
 ·refine El b (hK b hb) (fun ⟨id,hid⟩=>h9 b hb id hid) fun e=>hM.Kl (e ▸ hb)
end
def Mz:Code->Option (Operand×Array Tmp×Code×Code)
 | .rangeFunc g ps x b=>some (g,ps,x,b)
 | _=>none
def Kn:List (Nat×Nat)->AS->AS
 | [],s=>s
 | (x,y):: ρ,s=>Kn ρ (rename x y (ck y s))
def lp:List (Nat×Nat)->AS->AS
 | [],s=>s
 | (x,y):: ρ,s=>lp ρ (rename y x (ck x s))
def nu:List (Nat×Nat)->Bool
 | []=>true
 | (x,y):: ρ =>match Nat.ble x 999999999999,Nat.ble 1000000000000 y with|true,true=>nu ρ |_,_=>false
section
variable {n:Nat} {a:Act} {w w0:World}
theorem Ht:∀(ρ :List (Nat×Nat)) (s:AS) (Z:bo) (φ:Nat->Option Nat),nu ρ =true->aJ Z w0 n [] s a w φ-> ∃fx cE,aJ ⟨Z.S,Z.X,fx,Z.si⟩ w0 n [] (Kn ρ s) a w cE∧(∀i,i ∉ ρ.map (·.2)->fx i=Z.fix i)∧(∀id g,cE id=some g->lL φ g)
 | [],s,Z,φ,_,h=>⟨Z.fix,φ,h,fun _ _=>rfl,fun id g hg=>⟨id,hg⟩⟩
 | (x,y):: ρ,s,Z,φ,hp,h=>by
  simp only [nu] at hp
  split at hp
  ·rename_i hx hy
   have hx:=Nat.le_of_ble_eq_true hx
   have hy:=Nat.le_of_ble_eq_true hy
   have h1:=h.mj y
   let Z2:bo:=⟨Z.S,Z.X,fun i=>if i=y then erase φ y x else Z.fix i,Z.si⟩
   have h2:aJ Z2 w0 n [] (ck y s) a w (erase φ y):=⟨h1.jQ,h1.jT,⟨h1.cZ.os,h1.cZ.tape,h1.cZ.output,h1.cZ.size,h1.cZ.block,h1.cZ.g0,h1.cZ.gx⟩,h1.cG,h1.rows,h1.only,h1.inj,fun id g hg=>⟨⟨(h1.cY id g hg).1.1.imp (fun h=>h) fun hf=>by
     show (if id=y then erase φ y x else Z.fix id)=some g
     have cX:id≠y:=fun e=>by subst e;unfold erase at hg;rw [if_pos rfl] at hg;cases hg
     rw [if_neg cX];exact hf,(h1.cY id g hg).1.2⟩,(h1.cY id g hg).2⟩,h1.apart,h1.new⟩
   have h3:=h2.DY x y (.inr fun g hg=>by show (if y=y then erase φ y x else Z.fix y)=some g;rw [if_pos rfl];exact hg) aj (dq y)
   obtain ⟨fx,cE,h4,h5,h6⟩:=Ht ρ _ Z2 _ hp h3
   refine ⟨fx,cE,h4,fun i hi=>?_,fun id g hg=>?_⟩
   ·simp only [List.map_cons,List.mem_cons,not_or] at hi
    rw [h5 i hi.2]
    show (if i=y then erase φ y x else Z.fix i)=Z.fix i
    rw [if_neg hi.1]
   ·obtain ⟨j,hj⟩:=h6 id g hg
    unfold zH erase at hj
    split at hj
    ·split at hj
     ·cases hj
     ·exact ⟨_,hj⟩
    ·split at hj
     ·cases hj
     ·exact ⟨_,hj⟩
  ·cases hp
theorem zh {Z:bo}:∀(ρ :List (Nat×Nat)) (s:AS) (φ:Nat->Option Nat),nu ρ =true->aJ Z w0 n [] s a w φ-> ∃ cE,aJ Z w0 n [] (lp ρ s) a w cE∧(∀id g,cE id=some g->lL φ g)∧(∀id,1000000000000≤id->id∈ ρ.map (·.2)∨φ id=none->cE id=none)
 | [],s,φ,_,h=>⟨φ,h,fun id g hg=>⟨id,hg⟩,fun id _ hid=>hid.resolve_left (by simp)⟩
 | (x,y):: ρ,s,φ,hp,h=>by
  simp only [nu] at hp
  split at hp
  ·rename_i hx hy
   have hx:=Nat.le_of_ble_eq_true hx
   have hy:=Nat.le_of_ble_eq_true hy
   have h1:=h.mj x
   have h3:=h1.DY y x (.inl aj) aj (dq x)
   obtain ⟨cE,h4,h5,h6⟩:=zh ρ _ _ hp h3
   refine ⟨cE,h4,fun id g hg=>?_,fun id hid s7=>h6 id hid ?_⟩
   ·obtain ⟨j,hj⟩:=h5 id g hg
    unfold zH erase at hj
    split at hj
    ·split at hj
     ·cases hj
     ·exact ⟨_,hj⟩
    ·split at hj
     ·cases hj
     ·exact ⟨_,hj⟩
   ·have key:(id=y∨φ id=none)->zH y x (erase φ x) id=none:=by
     intro s7
     unfold zH erase
     rw [if_neg aj]
     rcases s7 with e|e
     ·rw [if_pos e]
     ·split
      ·rfl
      ·rw [if_neg aj];exact e
    rcases s7 with s7|s7
    ·simp only [List.map_cons,List.mem_cons] at s7
     rcases s7 with s7|s7
     ·exact .inr (key (.inl s7))
     ·exact .inl s7
    ·exact .inr (key (.inr s7))
  ·cases hp
end
def DB (op:List (Value×AV)) (s s1:AS):Prop:=∀Z w0 n a w φ,aJ Z w0 n [] s a w φ->(∀p∈op,cB (aM Z w φ []) w p.1 p.2)->aJ Z w0 n [] s1 a w φ
def RQ (op:List (Value×AV)) (Q:Exit->AS->Prop) (ρ :List (Nat×Nat)) (F:List (Nat×AV)) (H:List (Nat×Row)):Exit->AS->Prop
 | .normal,s'=>bS s' ⟨[],H⟩
 | .exit id,s'=>∃X s1,jC X∧B8 X F=true∧bS s' ⟨[],X⟩∧DB op ⟨F,X⟩ s1∧Q (.exit id) (lp ρ s1)
 | .ret,s'=>∃X s1,jC X∧B8 X F=true∧bS s' ⟨[],X⟩∧DB op ⟨F,X⟩ s1∧Q .ret (lp ρ s1)
 | _,_=>False
def JE (op:List (Value×AV)) (Q:Exit->AS->Prop) (ρ :List (Nat×Nat)) (s:AS) (c:Code):Prop:=∃s1,DB op s s1∧((∃id,c= .exit id∧Q (.exit id) (lp ρ s1))∨(c= .ret∧Q .ret (lp ρ s1)))
section
variable {op:List (Value×AV)} {P:Program} {S0:bo} {w0:World} {n:Nat} {tm:Array Value} {fx:Nat->Option Nat} {r l:Nat} {we:World} {Q:Exit->AS->Prop} {ρ :List (Nat×Nat)}
theorem Fl {fn:FuncId} {ps:Array Tmp} {x bd:Code} {F:List (Nat×AV)} {H H':List (Nat×Row)} {As:List AV} {O K:Nat->Prop} {w1:World} {vs:List Value}
  (hM:ER op S0 w0 n tm fx r l we {state:=.ready,pending:=none,fn:=fn,tmps:=tm,params:=ps,assign:=x,body:=bd,defers:=r} ⟨F,H⟩ O K w1) (On:∀b,O b->K b) (hK:∀b,K b->b<w1.heap.size)
  (hl:vs.length=As.length) (hd:∀(j:Nat) v x,vs[j]?=some v->As[j]?=some x->cB K w1 v x) (Pq:ps.toList.length=As.length) (Pt:∀p∈ps.toList,p<n) (KW:kW x=true) (PS:kW bd=true)
  (hA:bf P n x (rM (bf P n bd (RQ op Q ρ F H')) (fun _ _=>False)) (Hp ps.toList As ⟨F,H⟩)) (Va:jC H') (hF:Oz F H) (Vd:Oz F H') :
  ov P l vs w1 fun t w2=>Good w2∧w1.heap.size≤w2.heap.size∧(∀b,K b->w2.heap[b]?=w1.heap[b]?) ∧
   (t=true->ER op S0 w0 n tm fx r l we {state:=.ready,pending:=none,fn:=fn,tmps:=tm,params:=ps,assign:=x,body:=bd,defers:=r} ⟨F,H'⟩ O K w2) ∧
   (t=false-> ∃X c,ER op S0 w0 n tm fx r l we {state:=.done,pending:=some c,fn:=fn,tmps:=tm,params:=ps,assign:=x,body:=bd,defers:=r} ⟨F,X⟩ O K w2∧JE op Q ρ ⟨F,X⟩ c):=by
 obtain ⟨wb,φ,Z,h1,h2,h3,h4,h5,h6,h7,h8,h9,JS,Iy,Nk⟩:=hM.ex
 have own:∀id g,φ id=some g->Z.S g∧g<wb.heap.size:=fun id g hg=>⟨h1.new g (h1.cY id g hg).1.2,(h1.cY id g hg).2⟩
 have LR:l<w1.heap.size:=by have:=hM.hl;omega
 have Ep:¬lL φ l:=fun ⟨id,hid⟩=>JS (own id l hid).1
 have Tj:¬lL φ r:=fun ⟨id,hid⟩=>Iy (own id r hid).1
 refine ⟨_,_,_,_,run_yield hM.Hk (by simp [hl,←Pq]),?_⟩
 refine roundIn_of_wpIn trivial ?_
 let Z1:bo:=⟨fun b=>(Z.S b∧b<wb.heap.size)∨w1.heap.size≤b∨K b,lL φ,fx,[]⟩
 have Gu:¬Z1.S l:=fun h=>by
  rcases h with h|h|h
  ·exact JS h.1
  ·omega
  ·exact hM.Kl h
 have Pn:¬Z1.S r:=fun h=>by
  rcases h with h|h|h
  ·exact Iy h.1
  ·have:=hM.hr;omega
  ·exact hM.Kr h
 have Pw:∀b,(w1.heap.size≤b∨lL φ b)->Z1.S b:=fun b hb=>hb.elim (fun h=>.inr (.inl h)) fun ⟨id,hid⟩=>.inl (own id b hid)
 have s1:aJ Z1 w1 n [] ⟨F,H⟩ ⟨tm,[]⟩ w1 φ:=h1.qQ h4 (fun b hb dj=>h5 b hb dj) (fun b hb dj=>.inl ⟨hb,dj⟩) Pw (fun id g hg=>⟨id,hg⟩) (fun id g hg=>by
  rcases (h1.cY id g hg).1.1 with h|h
  ·exact .inl h
  ·right;show fx id=some g;rw [←h2];exact h) rfl rfl hM.kept.mH (fun b hb=>h1.sD hb)
 have s2:=wA ps.toList vs As ⟨F,H⟩ ⟨tm,[]⟩ s1 hl Pt fun j v x hv hx=>.rep ((hd j v x hv hx).mono fun b hb=>⟨⟨hK b hb,by simp,h9 b hb,.inr (.inr hb)⟩,rfl⟩)
 have e0:((ps.zip vs.toArray).foldl (fun (t:Array Value) (p:Tmp×Value)=>t.setIfInBounds p.1 p.2) tm)=((ps.toList.zip vs).foldl (fun t p=>t.setIfInBounds p.1 p.2) tm):=by
  rw [←Array.foldl_toList];simp
 have hx:=hA Z1 w1 _ w1 ⟨φ,s2⟩
 have e1:({tmps:=((ps.zip vs.toArray).foldl (fun (t:Array Value) (p:Tmp×Value)=>t.setIfInBounds p.1 p.2) tm),defers:=[]}:Act)=⟨(ps.toList.zip vs).foldl (fun t p=>t.setIfInBounds p.1 p.2) tm,[]⟩:=by rw [e0]
 show x.wpIn (Fence.wide.inRound l) 0 P _ ({tmps:=((ps.zip vs.toArray).foldl (fun (t:Array Value) (p:Tmp×Value)=>t.setIfInBounds p.1 p.2) tm),defers:=[]}:Act) w1
 rw [e1]
 refine iw (ro:=some l) x _ _ _ KW (by rintro ⟨_,_,h⟩;exact h) (eh x _ _ (fun e a1 Lx ⟨s',hq,bY⟩=>?_) _ _ hx)
 cases e with
 | normal =>
  obtain ⟨S1,VD,ms,hE,iI,gV⟩:=bY
  have k1:=hE.kept.trans gV.cZ hE.X
  have Pm:=(k1.block l LR Ep).trans hM.Hk
  refine ⟨_,run_beginRound Pm rfl,?_⟩
  generalize N_:Lx.putObj l _=w2
  have Fx:w2.heap.size=Lx.heap.size:=by rw [←N_];exact World.putObj_size
  have Gt:∀b,b≠l->w2.heap[b]?=Lx.heap[b]?:=fun b hb=>by rw [←N_];exact World.putObj_heap_other hb
  have Pl:w2.heap[l]?=some (.loop {state:=.busy,pending:=none,fn:=fn,tmps:=tm,params:=ps,assign:=x,body:=bd,defers:=r}):=by rw [←N_];exact World.putObj_heap_same (Nat.lt_of_lt_of_le LR k1.size)
  have OS:∀id g,iI id=some g->S1.S g∧g<Lx.heap.size:=fun id g hg=>⟨gV.new g (gV.cY id g hg).1.2,(gV.cY id g hg).2⟩
  have Nd:∀b,S1.S b->b≠l:=fun b hb e=>Gu (hE.sub l (e ▸ hb))
  have OJ:∀id g,iI id=some g->w1.heap.size≤g∨lL φ g:=fun id g hg=>by
   rcases (gV.cY id g hg).1.2 with h|h
   ·exact .inl (Nat.le_trans hE.kept.size h)
   ·exact hE.X g h
  let Z2:bo:=⟨fun b=>(S1.S b∧b<Lx.heap.size)∨w2.heap.size≤b,lL iI,fx,a1.defers⟩
  have s3:aJ Z2 w2 n [] s' a1 w2 iI:=gV.qQ aj (fun b hb _=>Gt b (Nd b hb)) (fun b hb dj=>.inl ⟨hb,dj⟩) (fun b hb=>hb.elim .inr fun ⟨id,hid⟩=>.inl (OS id b hid)) (fun id g hg=>⟨id,hg⟩) (fun id g hg=>by
   rcases (gV.cY id g hg).1.1 with h|h
   ·exact .inl h
   ·right;show fx id=some g;rw [hE.fix] at h;exact h) rfl rfl (gV.cZ.mH.aa fun b hb=>Gt b fun e=>hM.kept.sD (.inl hM.N6) (e ▸ hb)) (fun b hb=>gV.sD hb)
  have hb:=hq Z2 w2 a1 w2 ⟨iI,s3⟩
  refine iw (ro:=some l) bd _ _ _ PS (by rintro ⟨_,_,h⟩;exact h) (eh bd _ _ (fun e a3 w3 ⟨TZ,Qz,Qx⟩=>?_) _ _ hb)
  obtain ⟨S3,QX,VN,Nj,w7,Qx⟩:=Qx
  have k3:=Nj.kept.trans Qx.cZ Nj.X
  have RA:¬lL iI l:=fun ⟨id,hid⟩=>Nd l (OS id l hid).1 rfl
  have H9:=(k3.block l (by rw [Fx];exact Nat.lt_of_lt_of_le LR k1.size) RA).trans Pl
  have KK:w1.heap.size≤w3.heap.size:=Nat.le_trans k1.size (by rw [←Fx];exact k3.size)
  have AH:∀b,b<w1.heap.size-> ¬lL φ b->b≠l->w3.heap[b]?=w1.heap[b]?:=fun b dj hn cX =>
   (k3.block b (by rw [Fx];exact Nat.lt_of_lt_of_le dj k1.size) fun ⟨id,hid⟩=>(OJ id b hid).elim (fun h=>aj) hn).trans ((Gt b cX).trans (k1.block b dj hn))
  have Ia:w2.os=Lx.os∧w2.tape=Lx.tape∧w2.output=Lx.output:=by rw [←N_];exact ⟨rfl,rfl,rfl⟩
  have Sb:¬S3.S l:=fun h=>(Nj.sub l h).elim (fun h=>Nd l h.1 rfl) fun h=>by have:=k1.size;omega
  have Sa:¬S3.S r:=fun h=>(Nj.sub r h).elim (fun h=>Pn (hE.sub r h.1)) fun h=>by have:=k1.size;have:=hM.hr;omega
  have next:∀(X:List (Nat×Row)) (pC:Loop),bS TZ ⟨[],X⟩->jC X->Oz F X->ER op S0 w0 n tm fx r l we pC ⟨F,X⟩ O K (w3.putObj l (.loop pC))∧(∀b,K b->(w3.putObj l (.loop pC)).heap[b]?=w1.heap[b]?):=by
   intro X pC hw hX Sl
   obtain ⟨vu,Fz⟩:=hw S3 QX n a3 w3 ⟨w7,Qx⟩
   exact HF hM On hK h1 h2 h3 h4 h5 h6 h7 h8 h9 JS Iy Nk Fz Nj.fix (fun id g hg=>by
    rcases (Fz.cY id g hg).1.2 with h|h
    ·left;have:=Nj.kept.size;have:=k1.size;omega
    ·rcases Nj.X g h with h|⟨j,hj⟩
     ·left;have:=k1.size;omega
     ·exact OJ j g hj) Sb Sa (k3.os.trans (Ia.1.trans k1.os)) (k3.tape.trans (Ia.2.1.trans k1.tape)) (k3.output.trans (Ia.2.2.trans k1.output)) KK AH hX hF Sl
  cases e with
  | normal =>
   obtain ⟨g1,g2⟩:=next H' {state:=.ready,pending:=none,fn:=fn,tmps:=tm,params:=ps,assign:=x,body:=bd,defers:=r} Qz Va Vd
   exact ⟨_,_,run_endRound none H9,true,rfl,g1.kept.mH,by rw [World.putObj_size];exact KK,g2,fun _=>g1,fun h=>(by cases h)⟩
  | exit id =>
   obtain ⟨X,s1,q1,q2,q3,q5,q4⟩:=Qz
   obtain ⟨g1,g2⟩:=next X {state:=.done,pending:=some (.exit id),fn:=fn,tmps:=tm,params:=ps,assign:=x,body:=bd,defers:=r} q3 q1 (pT q2)
   exact ⟨_,_,run_endRound (some (.exit id)) H9,false,rfl,g1.kept.mH,by rw [World.putObj_size];exact KK,g2,fun h=>(by cases h),fun _=>⟨X,.exit id,g1,s1,q5,.inl ⟨id,rfl,q4⟩⟩⟩
  | ret =>
   obtain ⟨X,s1,q1,q2,q3,q5,q4⟩:=Qz
   obtain ⟨g1,g2⟩:=next X {state:=.done,pending:=some .ret,fn:=fn,tmps:=tm,params:=ps,assign:=x,body:=bd,defers:=r} q3 q1 (pT q2)
   exact ⟨_,_,run_endRound (some .ret) H9,false,rfl,g1.kept.mH,by rw [World.putObj_size];exact KK,g2,fun h=>(by cases h),fun _=>⟨X,.ret,g1,s1,q5,.inr ⟨rfl,q4⟩⟩⟩
  | _=>exact Qz.elim
 | _=>exact hq.elim
theorem D9 {rc:Loop} {s s1:AS} {O K:Nat->Prop} {w':World} {a a':Act} (hM:ER op S0 w0 n a.tmps fx r l we rc s O K w') (MH :nu ρ =true) (UL:∀i,i ∉ ρ.map (·.2)->fx i=S0.fix i) (Ru:w0.heap.size≤r) (ht:a'.tmps=a.tmps) (hd:a'.defers=mark r::S0.si) (gm:DB op s s1) (pC:Loop) :
  m5 S0 w0 n (lp ρ s1) a' (w'.putObj l (.loop pC)):=by
 obtain ⟨wb,φ,Z,h1,h2,h3,h4,h5,h6,h7,h8,h9,JS,Iy,Nk⟩:=hM.ex
 obtain ⟨cE,u1,u2,u3⟩:=zh ρ _ _ MH (gm _ _ _ _ _ _ h1 Nk)
 have LR:l<w'.heap.size:=by have:=hM.hl;omega
 have dC:(w'.putObj l (.loop pC)).heap.size=w'.heap.size:=World.putObj_size
 have ho:∀b,b≠l->(w'.putObj l (.loop pC)).heap[b]?=w'.heap[b]?:=fun b hb=>World.putObj_heap_other hb
 have own:∀id g,cE id=some g->Z.S g∧g<wb.heap.size:=fun id g hg=>⟨u1.new g (u1.cY id g hg).1.2,(u1.cY id g hg).2⟩
 let S1:bo:=⟨fun b=>(Z.S b∧b<wb.heap.size)∨w'.heap.size≤b,lL cE,S0.fix,mark r::S0.si⟩
 have hs:aJ S1 (w'.putObj l (.loop pC)) n [] (lp ρ s1) a' (w'.putObj l (.loop pC)) cE:=u1.qQ (by rw [dC];exact h4) (fun b hb dj=>(ho b fun e=>JS (e ▸ hb)).trans (h5 b hb dj)) (fun b hb dj=>.inl ⟨hb,dj⟩) (fun b hb=>by
   rcases hb with h|⟨id,hid⟩
   ·right;rw [dC] at h;exact h
   ·exact .inl (own id b hid)) (fun id g hg=>⟨id,hg⟩) (fun id g hg=>by
  rcases Nat.lt_or_ge id 1000000000000 with h|h
  ·exact .inl h
  ·right
   rcases (u1.cY id g hg).1.1 with h'|h'
   ·omega
   ·show S0.fix id=some g
    have gh:id ∉ ρ.map (·.2):=fun hm=>(by rw [u3 id h (.inl hm)] at hg;cases hg)
    rw [←UL id gh,←h2];exact h') ht hd (hM.kept.mH.aa fun b hb=>ho b fun e=>hM.kept.sD (.inl hM.N6) (e ▸ hb)) (fun b hb=>u1.sD hb)
 refine ⟨S1,w'.putObj l (.loop pC),[r],⟨⟨hM.kept.os,hM.kept.tape,hM.kept.output,by rw [dC];exact hM.kept.size,fun k hk hx=>(ho k fun e=>by have:=hM.N6;omega).trans (hM.kept.block k hk hx),hM.kept.g0,hM.kept.gx⟩,fun b hb=>?_,fun b ⟨id,hid⟩=>?_,rfl,rfl,by simp,fun r' il=>?_⟩,cE,hs⟩
 ·rcases hb with h|h
  ·exact h6 b h.1 h.2
  ·exact hM.Kv b (Nat.le_trans hM.kept.size h)
 ·obtain ⟨j,hj⟩:=u2 id b hid
  exact h7 j b hj
 ·obtain rfl:r'=r:=by simpa using il
  refine ⟨Ru,by rw [dC];have:=hM.hr;omega,(ho _ hM.rl).trans hM.jT,fun h=>?_,fun ⟨id,hid⟩=>Iy (own id _ hid).1⟩
  rcases h with h|h
  ·exact Iy h.1
  ·have:=hM.hr;omega
theorem bf.range {c:Code} {s:AS} {g:Operand} {ps:Array Tmp} {x bd:Code} (hc:Mz c=some (g,ps,x,bd)) {f:Nat} {lH:List AV} (A:Nat->List AV) (N:Nat) (hit:w6 P f lH A N) (hE:ie P f=true) (KW:kW x=true) (PS:kW bd=true)
  (ρ :List (Nat×Nat)) (MH :nu ρ =true) (xs:List AV) (F:List (Nat×AV)) (I:List Value->Nat->List (Nat×Row)) (sN:AS)
  (hw:∀Z w0 a w φ,aJ Z w0 n [] (Kn ρ s) a w φ-> ∃ j7 vs,vs.length=xs.length∧aJ Z w0 n [] ⟨F,I vs 0⟩ a w j7∧ ∀p∈vs.zip xs,cB (aM Z w j7 []) w p.1 p.2) (hg:∀vs,vs.length=xs.length->bq ⟨F,I vs 0⟩ g= .lK f lH) (Pq:∀i,ps.toList.length=(A i).length) (Pt:(ps.toList.all fun p=>Nat.blt p n)=true)
  (hI:∀vs i,vs.length=xs.length->i≤N->jC (I vs i)∧B8 (I vs i) F=true) (pd:∀vs i,vs.length=xs.length->i<N->bf P n x (rM (bf P n bd (RQ (vs.zip xs) Q ρ F (I vs (i+1)))) (fun _ _=>False)) (Hp ps.toList (A i) ⟨F,I vs i⟩)) (gm:∀vs,vs.length=xs.length->DB (vs.zip xs) ⟨F,I vs N⟩ sN) (M3:Q .normal (lp ρ sN)):bf P n c Q s:=by
 cases c with
 | rangeFunc g' VM x' Wf =>
  cases hc
  intro S0 w0 a w ⟨φ,hs⟩
  show (Code.rangeFunc g ps x bd).wp P _ a w
  refine wpIn_wide.1 (wpIn_rangeFunc (n:=0) fun fn _=>?_)
  obtain ⟨fx,iI,Pu,Oc,-⟩:=Ht ρ s S0 φ MH hs
  obtain ⟨j7,us,yY,mZ,vq⟩:=hw _ _ _ _ _ Pu
  have dg:=mZ.bq g
  rw [hg us yY] at dg
  obtain ⟨cv,hv,Gu,Cq⟩:=DX dg
  generalize N9:(w.alloc (.deferred (some []))).alloc (.loop {state:=.ready,pending:=none,fn:=fn,tmps:=a.tmps,params:=ps,assign:=x,body:=bd,defers:=w.heap.size})=we
  have dC:we.heap.size=w.heap.size+2:=by rw [←N9];simp
  have hold:∀b,b<w.heap.size->we.heap[b]?=w.heap[b]?:=fun b hb=>by
   rw [←N9,Below.heap_alloc _ _ _ (by simp;omega),Below.heap_alloc _ _ _ hb]
  have Tj:we.heap[w.heap.size]?=some (.deferred (some [])):=by rw [←N9,Below.heap_alloc _ _ _ (by simp)];exact World.alloc_heap_new w _
  have Ep:we.heap[w.heap.size+1]?=some (.loop {state:=.ready,pending:=none,fn:=fn,tmps:=a.tmps,params:=ps,assign:=x,body:=bd,defers:=w.heap.size}):=by
   rw [←N9]
   have:=World.alloc_heap_new (w.alloc (.deferred (some []))) (.loop {state:=.ready,pending:=none,fn:=fn,tmps:=a.tmps,params:=ps,assign:=x,body:=bd,defers:=w.heap.size})
   rw [World.size_alloc] at this;exact this
  have Rj:we.os=w.os∧we.tape=w.tape∧we.output=w.output:=by rw [←N9];exact ⟨rfl,rfl,rfl⟩
  refine ⟨w.heap.size+1,[mark w.heap.size],we,{target:=.fn (.func f) cv.toArray,args:= #[.func (.yield (w.heap.size+1)) #[] #[]]},we,f,(Value.func (.yield (w.heap.size+1)) #[] #[]::cv).toArray,we,?_,?_,fun _ _=>trivial,?_,fun h=>by simp [Fence.wide] at h,?_⟩
  ·rw [←N9];exact run_enterLoop_outer fn a.tmps ps x bd
  ·have ec:a.eval (.const (Value.func (.yield (w.heap.size+1)) #[] #[]))=Value.func (.yield (w.heap.size+1)) #[] #[]:=rfl
   unfold resolve;simp [hv,ec,Deferred.ofValue]
  ·have e:(Value.func (.yield (w.heap.size+1)) #[] #[]::cv).toArray= #[Value.func (.yield (w.heap.size+1)) #[] #[]]++cv.toArray:=by apply Array.ext';simp
   rw [e]
   exact pb hE _ _
  ·refine callsIn_wide.2 ?_
   have vr:w0.heap.size≤w.heap.size:=mZ.cZ.size
   have Q3:∀id g,j7 id=some g->S0.S g∧g<w.heap.size:=fun id g hg=>⟨mZ.new g (mZ.cY id g hg).1.2,(mZ.cY id g hg).2⟩
   let Z:bo:=⟨fun b=>(S0.S b∧b<w.heap.size)∨we.heap.size≤b,lL j7,fx,[]⟩
   have hZ:aJ Z we n [] ⟨F,I us 0⟩ ⟨a.tmps,[]⟩ we j7:=mZ.qQ aj (fun b _ dj=>hold b dj) (fun b hb dj=>.inl ⟨hb,dj⟩) (fun b hb=>hb.elim .inr fun ⟨id,hid⟩=>.inl (Q3 id b hid)) (fun id g hg=>⟨id,hg⟩) (fun id g hg=>(mZ.cY id g hg).1.1) rfl rfl (mZ.cZ.mH.aa fun b hb=>hold b (mZ.cZ.mH.lt hb)) (fun b hb=>mZ.sD hb)
   have U8:ER (us.zip xs) S0 w0 n a.tmps fx w.heap.size (w.heap.size+1) we {state:=.ready,pending:=none,fn:=fn,tmps:=a.tmps,params:=ps,assign:=x,body:=bd,defers:=w.heap.size} ⟨F,I us 0⟩ (fun _=>False) (aM ⟨S0.S,S0.X,fx,S0.si⟩ w j7 []) we:=by
    refine ⟨⟨we,j7,Z,hZ,rfl,Nat.le_refl _,Nat.le_refl _,fun _ _ _=>rfl,fun b hb dj=>?_,fun id g hg=>(mZ.cY id g hg).1.2,fun _ h=>h.elim,fun b hb=>hb.2.2.1,fun h=>?_,fun h=>?_,fun p hp=>(vq p hp).mono fun b hb=>⟨⟨by rw [dC];have:=hb.1;omega,by simp,hb.2.2.1,.inl ⟨hb.2.2.2,hb.1⟩⟩,hold b hb.1⟩⟩,?_,aj,fun _ h=>h.elim,aj,aj,fun h=>?_,Ep,fun b hb=>mZ.new b (.inl hb),aj,aj,fun h=>?_,Tj⟩
    ·rcases hb with h|h
     ·exact h.1
     ·omega
    ·rcases h with h|h<;>omega
    ·rcases h with h|h<;>omega
    ·exact ⟨Rj.1.trans mZ.cZ.os,Rj.2.1.trans mZ.cZ.tape,Rj.2.2.trans mZ.cZ.output,aj,fun k hk hx=>(hold k aj).trans (mZ.cZ.block k hk hx),mZ.cZ.g0,mZ.cZ.gx⟩
    ·have:=h.1;omega
    ·have:=h.1;omega
   have mU:=hit (w.heap.size+1) we (aM ⟨S0.S,S0.X,fx,S0.si⟩ w j7 []) cv
    (fun i=>ER (us.zip xs) S0 w0 n a.tmps fx w.heap.size (w.heap.size+1) we {state:=.ready,pending:=none,fn:=fn,tmps:=a.tmps,params:=ps,assign:=x,body:=bd,defers:=w.heap.size} ⟨F,I us i⟩)
    (fun O K w'=>∃X c,ER (us.zip xs) S0 w0 n a.tmps fx w.heap.size (w.heap.size+1) we {state:=.done,pending:=some c,fn:=fn,tmps:=a.tmps,params:=ps,assign:=x,body:=bd,defers:=w.heap.size} ⟨F,X⟩ O K w'∧JE (us.zip xs) Q ρ ⟨F,X⟩ c)
    hZ.cZ.mH (fun b hb=>by have:=hb.1;omega) Gu (fun j v c hv hc=>(Cq j v c hv hc).mono fun b hb=>⟨hb,hold b hb.1⟩) (fun i=>ER.GV)
    (fun O K w' O' K' fw ⟨X,c,hX,hc⟩ st h1 h2=>⟨X,c,ER.GV O K w' O' K' fw hX st h1 h2,hc⟩)
    (fun i hi O K w1 vs hJ On hK hl hd=>Fl hJ On hK hl hd (Pq i) (fun p hp=>Nat.le_of_ble_eq_true (List.all_eq_true.1 Pt p hp)) KW PS (pd us i yY hi) (hI us (i+1) yY hi).1 (pT (hI us i yY (Nat.le_of_lt hi)).2) (pT (hI us (i+1) yY hi).2)) U8
   refine mU.mono fun e w' ⟨v,O,K,he,s7⟩=>?_
   subst he
   rcases s7 with hM|⟨X,c,hM,s1,Ty,hj⟩
   ·exact ⟨_,_,run_endLoop hM.Hk (by simp),_,M3,D9 (a:=a) (a':={a with defers:=[mark w.heap.size]++a.defers}) hM MH Oc vr rfl (by show mark w.heap.size::a.defers=_;rw [hs.jT]) (gm us yY) _⟩
   ·refine ⟨_,_,run_endLoop hM.Hk (by simp),?_⟩
    have kf:=D9 (a:=a) (a':={a with defers:=[mark w.heap.size]++a.defers}) hM MH Oc vr rfl (by show mark w.heap.size::a.defers=_;rw [hs.jT]) Ty
    rcases hj with ⟨id,rfl,hq⟩|⟨rfl,hq⟩
    ·exact wpIn_exit ⟨_,hq,kf _⟩
    ·exact wpIn_ret ⟨_,hq,kf _⟩
 | _=>cases hc
end
def It (n:Nat) (J:(Nat->Prop)->(Nat->Prop)->World->Prop) (s:AS) (a:Act) (w:World):Prop :=
 ∃(wb:World) (Z:bo) (φ:Nat->Option Nat) (ms:List Nat),aJ Z wb n [] s a w φ∧Z.si=ms.map mark∧ms.Nodup∧(∀r∈ms,r<w.heap.size∧w.heap[r]?=some (.deferred (some []))∧ ¬Z.S r)∧J (fun b=>lL φ b∨b∈ms) (fun b=>(Z.S b∨b∈ms)∧b<w.heap.size) w
section
variable {P:Program} {n:Nat} {J:(Nat->Prop)->(Nat->Prop)->World->Prop} {s s':AS} {a:Act} {w:World} {Q:Exit->Act->World->Prop}
theorem It.begin (h:It n J s a w) (hJ:jU J):∃Z:bo,iv Z w n s a w∧ ∀(s':AS) (a':Act) (w':World),m5 Z w n s' a' w'->It n J s' a' w':=by
 obtain ⟨wb,Z,φ,ms,h1,h2,h3,h4,h5⟩:=h
 have own:∀id g,φ id=some g->Z.S g∧g<w.heap.size:=fun id g hg=>⟨h1.new g (h1.cY id g hg).1.2,(h1.cY id g hg).2⟩
 let Z':bo:=⟨fun b=>(Z.S b∧b<w.heap.size)∨w.heap.size≤b,lL φ,φ,Z.si⟩
 have hs:aJ Z' w n [] s a w φ:=h1.qQ (Nat.le_refl _) (fun _ _ _=>rfl) (fun b hb dj=>.inl ⟨hb,dj⟩) (fun b hb=>hb.elim .inr fun ⟨id,hid⟩=>.inl (own id b hid)) (fun id g hg=>⟨id,hg⟩) (fun id g hg=>.inr hg) rfl h1.jT h1.cZ.mH (fun b hb=>h1.sD hb)
 refine ⟨Z',⟨φ,hs⟩,fun s' a' w' ⟨S1,w1,Qq,hE,cE,bY⟩=>?_⟩
 have k:=hE.kept.trans bY.cZ hE.X
 have Uv:∀r∈ms,¬lL φ r:=fun r hr ⟨id,hid⟩=>(h4 r hr).2.2 (own id r hid).1
 refine ⟨w1,S1,cE,Qq++ms,bY,by rw [hE.si,List.map_append];exact congrArg _ h2,?_,fun r hr=>?_,hJ _ _ _ _ _ _ h5 ⟨k.os,k.tape,k.output,k.size,fun b hb hn=>k.block b hb fun h=>hn (.inl h)⟩ (fun b hb=>?_) fun b hb=>?_⟩
 ·rw [List.nodup_append]
  refine ⟨hE.nodup,h3,fun r hr r' il e=>?_⟩
  subst e
  have:=(hE.marks r hr).1
  have:=(h4 r il).1
  omega
 ·rcases List.mem_append.1 hr with hr|hr
  ·obtain ⟨u1,u2,u3,u4,u5⟩:=hE.marks r hr
   exact ⟨Nat.lt_of_lt_of_le u2 bY.cZ.size,(bY.cZ.block r u2 u5).trans u3,u4⟩
  ·obtain ⟨u1,u2,u3⟩:=h4 r hr
   refine ⟨Nat.lt_of_lt_of_le u1 k.size,(k.block r u1 (Uv r hr)).trans u2,fun h=>?_⟩
   rcases hE.sub r h with h|h
   ·exact u3 h.1
   ·omega
 ·rcases hb with ⟨id,hid⟩|hb
  ·rcases (bY.cY id b hid).1.2 with h|h
   ·right;have:=hE.kept.size;omega
   ·exact (hE.X b h).elim .inr fun h=>.inl (.inl h)
  ·rcases List.mem_append.1 hb with hb|hb
   ·exact .inr (hE.marks b hb).1
   ·exact .inl (.inr hb)
 ·obtain ⟨hb,dj⟩:=hb
  rcases hb with hb|hb
  ·rcases hE.sub b hb with h|h
   ·exact .inl ⟨.inl h.1,h.2⟩
   ·exact .inr h
  ·rcases List.mem_append.1 hb with hb|hb
   ·exact .inr (hE.marks b hb).1
   ·exact .inl ⟨.inr hb,(h4 b hb).1⟩
theorem It.SM {c:Code} {Qs:Exit->AS->Prop} (h:It n J s a w) (hJ:jU J) (hc:bf P n c Qs s):BF P c (fun e a' w'=>∃s',Qs e s'∧It n J s' a' w') a w:=by
 obtain ⟨Z,hs,AL⟩:=h.begin hJ
 exact eh _ _ _ (fun e a' w' ⟨s',hq,bY⟩=>⟨s',hq,AL s' a' w' bY⟩) _ _ (hc Z w a w hs)
theorem It.oQ (h:It n J s a w) (hJ:jU J) (hw:bS s s'):It n J s' a w:=by
 obtain ⟨Z,hs,AL⟩:=h.begin hJ
 exact AL _ _ _ (hw _ _ _ _ _ hs).one
theorem It.ops {ops:List Oper} {hs:List (Nat×Hint)} {l:List Oper} {i:Nat} {C:List Prop} (h:It n J s a w) (hJ:jU J) (he:j6 P n ops hs l i s=some (s',C)) (hC:bz C) (hQ:∀a' w',It n J s' a' w'->Q .normal a' w'):wpList P ops.toArray Q l a w:=by
 obtain ⟨Z,hs,AL⟩:=h.begin hJ
 exact jO (S0:=Z) (w0:=w) _ _ _ _ _ he hC a w hs fun a' w' bY=>hQ a' w' (AL _ _ _ bY.one)
theorem fh {F:Fence} {m:Nat} {ops:Array Oper}:∀(l1 l2:List Oper) (a:Act) (w:World),wpListIn F m P ops (Exit.then (wpListIn F m P ops Q l2) Q) l1 a w->wpListIn F m P ops Q (l1++l2) a w
 | [],l2,a,w,h=>h
 | o::l1,l2,a,w,h=>by
  rw [List.cons_append]
  unfold wpListIn at h ⊢
  split at h
  ·rename_i hw
   rw [if_pos hw]
   refine ⟨h.1,?_⟩
   have h2:=h.2
   generalize (o.semAt F.round a.eval).run P w=r at *
   cases r with
   | ok x w'=>cases x with
    | value v=>exact fh l1 l2 _ _ h2
    | skip=>exact fh l1 l2 _ _ h2
    | defer d=>exact fh l1 l2 _ _ h2
    | enter f args=>exact ⟨h2.1,CallsIn.mono h2.2 fun e fw he=>by cases e<;>first|exact fh l1 l2 _ _ he|exact he⟩
    | row row args=>exact ⟨h2.1,RowsIn.mono h2.2 fun v fw he=>fh l1 l2 _ _ he⟩
    | round l' f tmps x b=>exact ⟨h2.1,RoundIn.mono h2.2 fun e fw he=>by cases e<;>first|exact fh l1 l2 _ _ he|exact he⟩
    | _=>exact h2
   | halt x w'=>cases x<;>exact h2
  ·rename_i hw
   rw [if_neg hw]
   exact ⟨h.1,fh l1 l2 _ _ h.2⟩
theorem GG {id d:Nat} {l1 l2:List Oper} {o:Oper} {y:Operand} {xs:Array Operand} {ts:Array TypeId} {full:List Oper} (Iq:full=l1++o::l2) (ho:o.op= .call ⟨.value y,xs,ts⟩) (hg:o.guard=none) (hd:o.dst=some d) (hQ:¬LetsOut Q) (h1:l1.all ke=true) (h2:l2.all ke=true)
  (h:wpList P full.toArray (Exit.then (fun a1 w1=>∃l,a1.eval y= .func (.yield l) #[] #[]∧ov P l (xs.toList.map a1.eval) w1 fun t w2=>wpList P full.toArray Q l2 (a1.put (some d) (.bool t)) w2) Q) l1 a w):(Code.region id full.toArray false).wp P Q a w:=by
 refine (wpIn_wide (n:=0)).1 (wpIn_region_lit ?_)
 have e:wpListIn Fence.wide 0 P full.toArray Q full=wpListIn Fence.wide 0 P full.toArray Q (l1++o::l2):=by rw [←Iq]
 rw [e]
 refine fh l1 _ a w (list_round (ro:=none) (by rintro ⟨_,_,h⟩;exact hQ ⟨_,_,h⟩) l1 h1 a w (j8 (lQ (fun a1 w1 ⟨l,hy,fn,tmps,x,bd,hr,pd⟩=>?_) fun _ _ _ h=>h) l1 a w h))
 have hw:Region.wanted o (yielded full.toArray a1.tmps)=true:=by unfold Region.wanted;rw [hg]
 unfold wpListIn
 rw [if_pos hw]
 refine ⟨fun _ _=>trivial,?_⟩
 have cp:(o.semAt Fence.wide.round a1.eval).run P w1= .ok (.round l fn tmps x bd) w1:=by
  rw [Oper.semAt_eq _ _ _ (by intro c e;rw [ho] at e;cases e)]
  have e:xs.map a1.eval=(xs.toList.map a1.eval).toArray:=by apply Array.ext';simp
  unfold execOp
  simp [ho,resolve,hy,Deferred.ofValue,invoke]
  rw [e];simpa using hr
 rw [cp]
 refine ⟨fun h=>by simp [Fence.wide] at h,RoundIn.mono pd fun e w2 ⟨t,he,ht⟩=>?_⟩
 subst he
 rw [hd]
 exact list_round (ro:=none) hQ l2 h2 _ _ ht
theorem It.yield {A:Nat->List AV} {N:Nat} {J:Nat->(Nat->Prop)->(Nat->Prop)->World->Prop} {X:(Nat->Prop)->(Nat->Prop)->World->Prop} {l i d:Nat} {xs:List Operand} {s1:AS} (hJ:∀i,jU (J i)) (hX:jU X) (hd:d<n)
  (hy:∀i,i<N-> ∀(O K:Nat->Prop) (w1:World) (vs:List Value),J i O K w1->(∀b,O b->K b)->(∀b,K b->b<w1.heap.size)->vs.length=(A i).length->(∀(j:Nat) v x,vs[j]?=some v->(A i)[j]?=some x->cB K w1 v x) ->
   ov P l vs w1 fun t w2=>Good w2∧w1.heap.size≤w2.heap.size∧(∀b,K b->w2.heap[b]?=w1.heap[b]?)∧(t=true->J (i+1) O K w2)∧(t=false->X O K w2))
  (h:It n (J i) s a w) (hi:i<N) (H5:gg s ((xs.map (bq s)).flatMap p8)=some s1) (xO:lA (xs.map (bq s1))=true) (hA:xs.map (bq s1)=A i) (T:Bool->World->Prop)
  (h1:∀w2,It n (J (i+1)) (lr s d (ao true)) (a.put (some d) (.bool true)) w2->T true w2) (h2:∀w2,It n X (lr s d (ao false)) (a.put (some d) (.bool false)) w2->T false w2) :
  ov P l (xs.map a.eval) w T:=by
 obtain ⟨wb,Z,φ,ms,k1,k2,k3,k4,k5⟩:=h
 obtain ⟨iI,gV⟩:=fM _ _ _ _ H5 k1
 have own:∀id g,φ id=some g->Z.S g∧g<w.heap.size:=fun id g hg=>⟨k1.new g (k1.cY id g hg).1.2,(k1.cY id g hg).2⟩
 have pd:=hy i hi (fun b=>lL φ b∨b∈ms) (fun b=>(Z.S b∨b∈ms)∧b<w.heap.size) w (xs.map a.eval) k5 (fun b hb=>hb.elim (fun ⟨id,hid⟩=>⟨.inl (own id b hid).1,(own id b hid).2⟩) fun hb=>⟨.inr hb,(k4 b hb).1⟩) (fun b hb=>hb.2) (by rw [←hA];simp)
  (fun j v x hv hx=>(mm gV xO j v x hv (by rw [hA];exact hx)).mono fun b hb=>⟨⟨.inl hb.2.2.2,hb.1⟩,rfl⟩)
 obtain ⟨fn,tmps,x,bd,hr,vr⟩:=pd
 refine ⟨fn,tmps,x,bd,hr,RoundIn.mono vr fun e w2 ⟨t,he,RT,dC,hk,ht,hf⟩=>⟨t,he,?_⟩⟩
 let Z2:bo:=⟨fun b=>(Z.S b∧b<w.heap.size)∨w2.heap.size≤b,lL φ,φ,Z.si⟩
 have mZ:aJ Z2 w2 n [] s a w2 φ:=k1.qQ dC (fun b hb dj=>hk b ⟨.inl hb,dj⟩) (fun b hb dj=>.inl ⟨hb,dj⟩) (fun b hb=>hb.elim .inr fun ⟨id,hid⟩=>.inl (own id b hid)) (fun id g hg=>⟨id,hg⟩) (fun id g hg=>.inr hg) rfl k1.jT RT (fun b hb=>k1.sD hb)
 have hK:∀b,((Z2.S b∨b∈ms)∧b<w2.heap.size)->((Z.S b∨b∈ms)∧b<w.heap.size)∨w2.heap.size≤b:=fun b ⟨hb,dj⟩=>by
  rcases hb with (hb|hb)|hb
  ·exact .inl ⟨.inl hb.1,hb.2⟩
  ·exact .inr hb
  ·exact .inl ⟨.inr hb,(k4 b hb).1⟩
 have hm:∀r∈ms,r<w2.heap.size∧w2.heap[r]?=some (.deferred (some []))∧ ¬Z2.S r:=fun r hr=>by
  obtain ⟨u1,u2,u3⟩:=k4 r hr
  refine ⟨aj,(hk r ⟨.inr hr,u1⟩).trans u2,fun h=>?_⟩
  rcases h with h|h
  ·exact u3 h.1
  ·omega
 have dS:JC (fun b=>lL φ b∨b∈ms) w2 w2:=⟨rfl,rfl,rfl,Nat.le_refl _,fun _ _ _=>rfl⟩
 cases t with
 | true=>exact h1 w2 ⟨w2,Z2,φ,ms,mZ.put hd (.rep (.val _)),k2,k3,hm,hJ (i+1) _ _ _ _ _ _ (ht rfl) dS (fun b hb=>.inl hb) hK⟩
 | false=>exact h2 w2 ⟨w2,Z2,φ,ms,mZ.put hd (.rep (.val _)),k2,k3,hm,hX _ _ _ _ _ _ (hf rfl) dS (fun b hb=>.inl hb) hK⟩
end
theorem w6.pU {P:Program} {f:FuncId} {fn:Func} {c:Code} {lH:List AV} {A:Nat->List AV} {N n:Nat} (hf:P.funcs[f]?=some fn) (hb:fn.body=some c) (hn:fn.ntmps=n) (H8:fn.results= #[]) (Tx:lH.length+1≤n)
  (h:∀(l:Nat) (J:Nat->(Nat->Prop)->(Nat->Prop)->World->Prop) (X:(Nat->Prop)->(Nat->Prop)->World->Prop),(∀i,jU (J i))->jU X ->
   (∀i,i<N-> ∀(O K:Nat->Prop) (w1:World) (vs:List Value),J i O K w1->(∀b,O b->K b)->(∀b,K b->b<w1.heap.size)->vs.length=(A i).length->(∀(j:Nat) v x,vs[j]?=some v->(A i)[j]?=some x->cB K w1 v x) ->
    ov P l vs w1 fun t w2=>Good w2∧w1.heap.size≤w2.heap.size∧(∀b,K b->w2.heap[b]?=w1.heap[b]?)∧(t=true->J (i+1) O K w2)∧(t=false->X O K w2)) ->
   ∀(a:Act) (w:World),It n (J 0) ⟨kX 0 (AV.val (.func (.yield l) #[] #[])::lH),[]⟩ a w->c.wp P (fun e a' w'=>(e= .normal∨e= .ret)∧ ∃s',It n (J N) s' a' w'∨It n X s' a' w') a w):w6 P f lH A N:=by
 intro l w S cv J X j0 hS gm UT hJ hX hy h0
 refine callsIn_wide.1 (callsIn_of_wp_marks (F:=Fence.wide) (n:=0) hf hb trivial ?_)
 have iD:∀(j:Nat) v x,(Value.func (.yield l) #[] #[]::cv)[j]?=some v->(AV.val (.func (.yield l) #[] #[])::lH)[j]?=some x->cB S w v x:=by
  intro j v x hv hx
  cases j with
  | zero=>simp at hv hx;subst hv;subst hx;exact .val _
  | succ j=>exact UT j v x (by simpa using hv) (by simpa using hx)
 let Z:bo:=⟨fun b=>S b∨w.heap.size≤b,fun _=>False,fun _=>none,[]⟩
 have L1:aJ Z w n [] ⟨kX 0 (AV.val (.func (.yield l) #[] #[])::lH),[]⟩ {tmps:=(Value.func (.yield l) #[] #[]::cv).toArray++Array.replicate (fn.ntmps-(Value.func (.yield l) #[] #[]::cv).toArray.size) undef,defers:=[]} w (fun _=>none):=by
  refine ⟨by simp;omega,rfl,⟨rfl,rfl,rfl,Nat.le_refl _,fun _ _ _=>rfl,j0,fun _ _ h=>h⟩,fun i av hi=>?_,fun id r hr=>(by cases hr),fun _ _=>rfl,fun _ _ _ h=>(by cases h),fun _ _ h=>(by cases h),fun _ _ h=>(by cases h),fun b hb=>Or.inr (hb.elim id fun h=>h.elim)⟩
  obtain ⟨k,rfl,hk⟩:=my _ 0 i av hi
  generalize Ej:(Value.func (.yield l) #[] #[]::cv)=vs at *
  have Oe:vs.length=lH.length+1:=by rw [←Ej];simp [gm]
  have iH:k<vs.length:=by have:=(List.getElem?_eq_some_iff.1 hk).1;simp at this;omega
  have hv:vs[k]?=some vs[k]:=List.getElem?_eq_getElem iH
  have e:(vs.toArray++Array.replicate (fn.ntmps-vs.toArray.size) undef).getD (0+k) undef=vs[k]:=by
   rw [Nat.zero_add,Array.getD_eq_getD_getElem?,Array.getElem?_append_left (by simpa using iH)]
   simp [iH]
  simp only [e]
  exact .rep ((iD k vs[k] av hv hk).mono fun b hb=>⟨⟨hS b hb,by simp,fun _ h=>(by cases h),Or.inl hb⟩,rfl⟩)
 have hit:It n (J 0) ⟨kX 0 (AV.val (.func (.yield l) #[] #[])::lH),[]⟩ {tmps:=(Value.func (.yield l) #[] #[]::cv).toArray++Array.replicate (fn.ntmps-(Value.func (.yield l) #[] #[]::cv).toArray.size) undef,defers:=[]} w :=
  ⟨w,Z,fun _=>none,[],L1,rfl,List.nodup_nil,fun _ h=>(by cases h),hJ 0 _ _ _ _ _ _ h0 ⟨rfl,rfl,rfl,Nat.le_refl _,fun _ _ _=>rfl⟩ (fun b hb=>hb.elim (fun ⟨_,h⟩=>(by cases h)) fun h=>(by cases h)) fun b ⟨hb,dj⟩=>hb.elim (fun hb=>hb) fun h=>(by cases h)⟩
 refine wpIn_wide.2 (wp_mono (h l J X hJ hX hy _ w hit) fun e a' w' ⟨he,s',s7⟩=>?_)
 have fin:∀(J':(Nat->Prop)->(Nat->Prop)->World->Prop),jU J'->(∀O K fw,J' O K fw-> ∃O K,J N O K fw∨X O K fw)->It n J' s' a' w'->LeavesInM Fence.wide 0 P fn a'.tmps (fun e w'=>∃v O K,e= .returned v∧(J N O K w'∨X O K w')) a'.defers .returning w':=by
  intro J' Ng JO ⟨wb,Z1,φ,ms,k1,k2,k3,k4,k5⟩
  have M_:a'.defers=ms.map mark:=by rw [k1.jT,k2]
  rw [M_]
  refine mB ms w' k3 (fun r hr=>(k4 r hr).2.1) (fun fw h1 h2 h3 h4 h5=>?_)
  obtain ⟨O,K,s7⟩:=JO _ _ _ (Ng (fun b=>lL φ b∨b∈ms) _ w' (fun b=>lL φ b∨b∈ms) (fun b=>(Z1.S b∨b∈ms)∧b<w'.heap.size) fw k5 ⟨h1,h2,h3,aj,fun b hb hn=>h5 b fun hm=>hn (.inr hm)⟩ (fun b hb=>.inl hb) fun b hb=>.inl hb)
  exact ⟨.tuple #[],by simp [results,H8],.tuple #[],O,K,rfl,s7⟩
 have Su:LeavesInM Fence.wide 0 P fn a'.tmps (fun e w'=>∃v O K,e= .returned v∧(J N O K w'∨X O K w')) a'.defers .returning w':=by
  rcases s7 with s7|s7
  ·exact fin _ (hJ N) (fun O K fw h=>⟨O,K,.inl h⟩) s7
  ·exact fin _ hX (fun O K fw h=>⟨O,K,.inr h⟩) s7
 rcases he with rfl|rfl<;>exact Su
theorem bS.Lm {s:AS} (id j new e:Nat) {r:Row} (hr:look s.H id=some r) (hp:r.pure=false) (hj:r.cells[j]?=some .nil) (hn:look s.H new=none):bS s ⟨s.F,(new,⟨e,true,false,[]⟩)::(id,⟨r.e,false,r.full,r.cells.set j (.ref new)⟩)::cU s.H id⟩:=by
 intro S0 w0 n a w ⟨φ,hs⟩
 have cX:id≠new:=fun h=>by rw [h,hn] at hr;cases hr
 have cm:φ new=none:=hs.only new hn
 have lD:∀i,look ((new,(⟨e,true,false,[]⟩:Row))::(id,(⟨r.e,false,r.full,r.cells.set j (.ref new)⟩:Row))::cU s.H id) i=if new=i then some ⟨e,true,false,[]⟩ else if id=i then some ⟨r.e,false,r.full,r.cells.set j (.ref new)⟩ else look s.H i:=by
  intro i
  rw [aD,aD,bH]
  by_cases e1:new=i<;>by_cases e2:id=i<;>simp [e1,e2]
 have hI:∀i x,az s.H φ i=some x->az ((new,(⟨e,true,false,[]⟩:Row))::(id,(⟨r.e,false,r.full,r.cells.set j (.ref new)⟩:Row))::cU s.H id) φ i=some x:=by
  intro i x hx
  unfold az at hx ⊢
  rw [lD]
  by_cases e1:new=i
  ·subst e1;rw [hn] at hx;cases hx
  ·rw [if_neg e1]
   by_cases e2:id=i
   ·subst e2;rw [if_pos rfl];rw [hr] at hx;simpa using hx
   ·rw [if_neg e2];exact hx
 have l0:az ((new,(⟨e,true,false,[]⟩:Row))::(id,(⟨r.e,false,r.full,r.cells.set j (.ref new)⟩:Row))::cU s.H id) φ new=some (e,0,none):=by
  unfold az;rw [lD,if_pos rfl,cm];rfl
 have mono:∀v x,Den (az s.H φ) (aM S0 w φ []) w v x->Den (az ((new,(⟨e,true,false,[]⟩:Row))::(id,(⟨r.e,false,r.full,r.cells.set j (.ref new)⟩:Row))::cU s.H id) φ) (aM S0 w φ []) w v x:=fun v x h=>h.mono hI (fun b hb=>⟨hb,rfl⟩) (fun _ _ _ _ _=>rfl)
 refine ⟨φ,hs.jQ,hs.jT,hs.cZ,fun i av hi=>mono _ _ (hs.cG i av hi),fun i q hq=>?_,fun i hi=>?_,hs.inj,hs.cY,hs.apart,hs.new⟩
 ·simp only [lD] at hq
  by_cases e1:new=i
  ·subst e1
   rw [if_pos rfl] at hq;injection hq with hq;subst hq
   unfold bN;rw [cm]
  ·rw [if_neg e1] at hq
   by_cases e2:id=i
   ·subst e2
    rw [if_pos rfl] at hq;injection hq with hq;subst hq
    have aN:=hs.rows id r hr
    unfold bN at aN ⊢
    cases hg:φ id with
    | none=>rw [hg] at aN;simp only at aN;rw [aN] at hj;cases hj
    | some g =>
     rw [hg] at aN
     obtain ⟨cur,te,fr,u1,u2,u3,u4,u5⟩:=aN
     refine ⟨cur,te,fr,u1,u2,by simpa using u3,fun h=>by simpa using u4 h,fun k u x hu hx=>?_⟩
     unfold bj
     simp only at hx ⊢
     rw [List.getElem?_set] at hx
     by_cases hk:j=k
     ·subst hk
      have dj:j<r.cells.length:=(List.getElem?_eq_some_iff.1 hj).1
      simp [dj] at hx
      subst hx
      have:=u5 j u .nil hu hj
      unfold bj at this
      rw [hp] at this
      rw [th this]
      exact .cH new e l0
     ·rw [if_neg hk] at hx
      have:=u5 k u x hu hx
      unfold bj at this
      rw [hp] at this
      exact mono u x this
   ·rw [if_neg e2] at hq
    have aN:=hs.rows i q hq
    unfold bN at aN ⊢
    cases hg:φ i with
    | none=>rw [hg] at aN;exact aN
    | some g =>
     rw [hg] at aN
     obtain ⟨cur,te,fr,u1,u2,u3,u4,u5⟩:=aN
     refine ⟨cur,te,fr,u1,u2,u3,u4,fun k u x hu hx=>?_⟩
     have:=u5 k u x hu hx
     unfold bj at this ⊢
     cases H_:q.pure with
     | true=>rw [H_] at this;exact this
     | false=>rw [H_] at this;exact mono u x this
 ·simp only [lD] at hi
  by_cases e1:new=i
  ·rw [if_pos e1] at hi;cases hi
  ·rw [if_neg e1] at hi
   by_cases e2:id=i
   ·rw [if_pos e2] at hi;cases hi
   ·rw [if_neg e2] at hi;exact hs.only i hi
theorem vh:jC []:=fun id r h=>by cases h
theorem eD {id:Nat} {r:Row} {H:List (Nat×Row)} (h1:∀x∈r.cells,mK x=true) (h2:jC H):jC ((id,r)::H):=by
 intro i q hq j x hx
 rw [aD] at hq
 by_cases e:id=i
 ·rw [if_pos e] at hq;injection hq with hq;subst hq;exact h1 x (List.mem_of_getElem? hx)
 ·rw [if_neg e] at hq;exact h2 i q hq j x hx
theorem iF {l:List AV} (h:l.all mK=true):∀x∈l,mK x=true:=fun x hx=>List.all_eq_true.1 h x hx
theorem qs (l:List UInt64):∀x∈ah l,mK x=true:=by
 intro x hx;simp only [ah,List.mem_map] at hx;obtain ⟨c,_,rfl⟩:=hx;rfl
def KE:Code->Bool
 | .rangeFunc _ _ _ _=>true
 | _=>false
def T1:Code->Operand
 | .rangeFunc g _ _ _=>g
 | _=>.tmp 0
def QY:Code->Array Tmp
 | .rangeFunc _ ps _ _=>ps
 | _=> #[]
def SN:Code->Code
 | .rangeFunc _ _ x _=>x
 | c=>c
def SP:Code->Code
 | .rangeFunc _ _ _ b=>b
 | c=>c
theorem bf.My {P:Program} {n:Nat} {c:Code} {Q:Exit->AS->Prop} {s:AS} (hc:KE c=true) {f:Nat} {lH:List AV} (A:Nat->List AV) (N:Nat) (hit:w6 P f lH A N) (hE:ie P f=true) (KW:kW (SN c)=true) (PS:kW (SP c)=true)
  (ρ :List (Nat×Nat)) (MH :nu ρ =true) (xs:List AV) (F:List (Nat×AV)) (I:List Value->Nat->List (Nat×Row)) (sN:AS)
  (hw:∀Z w0 a w φ,aJ Z w0 n [] (Kn ρ s) a w φ-> ∃ j7 vs,vs.length=xs.length∧aJ Z w0 n [] ⟨F,I vs 0⟩ a w j7∧ ∀p∈vs.zip xs,cB (aM Z w j7 []) w p.1 p.2) (hg:∀vs,vs.length=xs.length->bq ⟨F,I vs 0⟩ (T1 c)= .lK f lH) (Pq:∀i,(QY c).toList.length=(A i).length) (Pt:((QY c).toList.all fun p=>Nat.blt p n)=true)
  (hI:∀vs i,vs.length=xs.length->i≤N->jC (I vs i)∧B8 (I vs i) F=true) (pd:∀vs i,vs.length=xs.length->i<N->bf P n (SN c) (rM (bf P n (SP c) (RQ (vs.zip xs) Q ρ F (I vs (i+1)))) (fun _ _=>False)) (Hp (QY c).toList (A i) ⟨F,I vs i⟩)) (gm:∀vs,vs.length=xs.length->DB (vs.zip xs) ⟨F,I vs N⟩ sN) (M3:Q .normal (lp ρ sN)):bf P n c Q s:=by
 cases c with
 | rangeFunc g ps x b=>exact bf.range rfl A N hit hE KW PS ρ MH xs F I sN hw hg Pq Pt hI pd gm M3
 | _=>cases hc
section
variable {Z:bo} {w0 w:World} {n:Nat} {s:AS} {a:Act} {φ:Nat->Option Nat}
theorem aJ.congr {O:List Nat} {F:List (Nat×AV)} {H H':List (Nat×Row)} (h:aJ Z w0 n O ⟨F,H⟩ a w φ) (e:∀i,look H' i=look H i):aJ Z w0 n O ⟨F,H'⟩ a w φ:=by
 have hI:az H' φ=az H φ:=by funext i;unfold az;rw [e]
 refine ⟨h.jQ,h.jT,h.cZ,fun i av hi=>?_,fun i q hq=>?_,fun i hi=>?_,h.inj,h.cY,h.apart,h.new⟩
 ·simp only [hI];exact h.cG i av hi
 ·simp only [hI];exact h.rows i q (by rw [←e];exact hq)
 ·exact h.only i (by rw [←e];exact hi)
theorem aJ.Hj (h:aJ Z w0 n [] s a w φ) (id j:Nat) {r:Row} {y:AV} (hr:look s.H id=some r) (hp:r.pure=false)
  (hy:∀g cur te fr u x,φ id=some g->w.heap[g]?=some (.cells cur te fr)->cur[j]?=some u->r.cells[j]?=some x->Den (az s.H φ) (aM Z w φ []) w u x->Den (az s.H φ) (aM Z w φ []) w u y):aJ Z w0 n [] ⟨s.F,(id,⟨r.e,false,r.full,r.cells.set j y⟩)::cU s.H id⟩ a w φ:=by
 have lD:∀i,look ((id,(⟨r.e,false,r.full,r.cells.set j y⟩:Row))::cU s.H id) i=if id=i then some ⟨r.e,false,r.full,r.cells.set j y⟩ else look s.H i:=by
  intro i
  rw [aD,bH]
  by_cases e:id=i<;>simp [e]
 have hI:az ((id,(⟨r.e,false,r.full,r.cells.set j y⟩:Row))::cU s.H id) φ=az s.H φ:=by
  funext i
  unfold az
  rw [lD]
  by_cases e:id=i
  ·subst e;rw [if_pos rfl,hr];simp
  ·rw [if_neg e]
 refine ⟨h.jQ,h.jT,h.cZ,fun i av hi=>?_,fun i q hq=>?_,fun i hi=>?_,h.inj,h.cY,h.apart,h.new⟩
 ·simp only [hI];exact h.cG i av hi
 ·simp only [hI]
  simp only [lD] at hq
  by_cases e:id=i
  ·subst e
   rw [if_pos rfl] at hq;injection hq with hq;subst hq
   have aN:=h.rows id _ hr
   unfold bN at aN ⊢
   cases cm:φ id with
   | none=>rw [cm] at aN;simp only at aN ⊢;rw [aN];rfl
   | some g =>
    rw [cm] at aN
    obtain ⟨cur,te,fr,hg,hf,hl,mT,hc⟩:=aN
    refine ⟨cur,te,fr,hg,hf,by simpa using hl,fun h=>by simpa using mT h,fun k u x hu hx=>?_⟩
    unfold bj
    simp only at hx ⊢
    rw [List.getElem?_set] at hx
    by_cases hk:j=k
    ·subst hk
     rw [if_pos rfl] at hx
     split at hx
     ·rename_i dj
      injection hx with hx;subst hx
      have HZ:r.cells[j]?=some r.cells[j]:=List.getElem?_eq_getElem dj
      have:=hc j u _ hu HZ
      unfold bj at this;rw [hp] at this
      exact hy g cur te fr u _ cm hg hu HZ this
     ·cases hx
    ·rw [if_neg hk] at hx
     have:=hc k u x hu hx
     unfold bj at this;rw [hp] at this
     exact this
  ·rw [if_neg e] at hq;exact h.rows i q hq
 ·simp only [lD] at hi
  by_cases e:id=i
  ·rw [if_pos e] at hi;cases hi
  ·rw [if_neg e] at hi;exact h.only i hi
theorem aJ.open_ (h:aJ Z w0 n [] s a w φ) (id j:Nat) {r:Row} {x:AV} (hr:look s.H id=some r) (hp:r.pure=false) (hj:r.cells[j]?=some x) (hx:ig x=true):∃v,aJ Z w0 n [] ⟨s.F,(id,⟨r.e,false,r.full,r.cells.set j (.val v)⟩)::cU s.H id⟩ a w φ∧cB (aM Z w φ []) w v x:=by
 have aN:=h.rows id _ hr
 unfold bN at aN
 cases cm:φ id with
 | none=>rw [cm] at aN;simp only at aN;rw [aN] at hj;cases hj
 | some g =>
  rw [cm] at aN
  obtain ⟨cur,te,fr,hg,hf,hl,mT,hc⟩:=aN
  have dj:j<cur.size:=by have:=(List.getElem?_eq_some_iff.1 hj).1;omega
  have hu:cur[j]?=some cur[j]:=Array.getElem?_eq_getElem dj
  have hd:=hc j _ _ hu hj
  unfold bj at hd;rw [hp] at hd
  refine ⟨cur[j],h.Hj id j hr hp fun g' cur' TW QN u x' h1 h2 h3 h4 h5=>?_,(eK hd hx).1⟩
  rw [cm] at h1;injection h1 with h1;subst h1
  rw [hg] at h2;injection h2 with h2;injection h2 with h2;subst h2
  rw [hu] at h3;injection h3 with h3;subst h3
  exact .rep (.val _)
theorem aJ.close_ (h:aJ Z w0 n [] s a w φ) (id j:Nat) {r:Row} {x:AV} {v:Value} (hr:look s.H id=some r) (hp:r.pure=false) (hj:r.cells[j]?=some (.val v)) (hx:cB (aM Z w φ []) w v x):aJ Z w0 n [] ⟨s.F,(id,⟨r.e,false,r.full,r.cells.set j x⟩)::cU s.H id⟩ a w φ:=by
 refine h.Hj id j hr hp fun g cur te fr u x' _ _ _ h4 h5=>?_
 rw [hj] at h4;injection h4 with h4;subst h4
 rw [bK h5]
 exact .rep hx
end
theorem bf.QO {P:Program} {n:Nat} {c:Code} {Q:Exit->AS->Prop} {s:AS} (s':AS) (h:s=s') (h2:bf P n c Q s'):bf P n c Q s:=h ▸ h2
end Go.Proofs.YtjgbhhnghedgdaaGreatDoor
