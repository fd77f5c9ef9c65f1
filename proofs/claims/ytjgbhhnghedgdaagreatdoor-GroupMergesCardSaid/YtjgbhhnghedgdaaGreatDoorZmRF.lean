import Derived.Test.YtjgbhhnghedgdaaGreatDoorZmRI
import Derived.RangeFuncRecord
import Derived.OrdersIn
import Derived.TacticsIn
set_option linter.all false
namespace Go.Proofs.YtjgbhhnghedgdaaGreatDoor
open Go.RowKit
abbrev Wd (ro:Option Nat):Fence:={Fence.wide with round:=ro}
def kj (o:Oper):Bool:=match o.op with| .defer _=>false|_=>true
def kZ:Code->Bool
 | .skip=>true
 | .region _ ops _=>ops.toList.all kj
 | .seq x y=>kZ x && kZ y
 | .cond _ x y=>kZ x && kZ y
 | .block _ c=>kZ c
 | .loop c=>kZ c
 | .exit _=>true
 | .ret=>true
 | _=>false
section
variable {P:Program} {Q:Exit->Act->World->Prop} {ro:Option Nat} {n:Nat}
theorem CT {o:Oper} (h:kj o=true) (c):o.op≠ .defer c:=by
 intro e;unfold kj at h;rw [e] at h;cases h
theorem uw {o:Oper} {a:Act} {w:World} {K:Act->World->Prop} (ho:kj o=true) (hQ:¬LetsOut Q) (h:o.wp P a w K Q):o.wpIn (Wd ro) n P a w K Q:=by
 refine ⟨fun _ _=>trivial,?_⟩
 rw [Oper.semAt_eq _ _ _ (CT ho)]
 unfold Oper.wp at h
 generalize (execOp a.eval o).run P w=r at *
 cases r with
 | ok x w' =>
  cases x with
  | enter f args=>exact ⟨fun h=>by simp [Fence.wide] at h,(callsIn_wide (n:=n-1)).2 h⟩
  | row row args =>
   refine ⟨fun h=>by simp [Fence.wide] at h,fun c cs _=>?_⟩
   obtain ⟨v,fy,h1,h2⟩:=h c cs
   exact ⟨v,fy,h1,stepsIn_wide.2 h2⟩
  | round=>exact h.elim
  | _=>exact h
 | halt x w'=>cases x<;>exact h
theorem list_round {ops:Array Oper} (hQ:¬LetsOut Q):∀(m:List Oper),m.all kj=true-> ∀(a:Act) (w:World),wpList P ops Q m a w->wpListIn (Wd ro) n P ops Q m a w
 | [],_,a,w,h=>h
 | o::m,hm,a,w,h=>by
  rw [List.all_cons,Bool.and_eq_true] at hm
  unfold wpList at h
  unfold wpListIn
  split at h
  ·rename_i hw
   rw [if_pos hw]
   rcases h with h|⟨-,h⟩
   ·have:=uw (ro:=ro) (n:=n) hm.1 hQ h
    refine ⟨this.1,?_⟩
    have h2:=this.2
    generalize (o.semAt (Wd ro).round a.eval).run P w=r at *
    cases r with
    | ok x w'=>cases x with
     | value v=>exact list_round hQ m hm.2 _ _ h2
     | skip=>exact list_round hQ m hm.2 _ _ h2
     | defer d=>exact list_round hQ m hm.2 _ _ h2
     | enter f args=>exact ⟨h2.1,(callsIn_wide (n:=n-1)).2 (Calls.mono ((callsIn_wide (n:=n-1)).1 h2.2) fun e fy he=>by cases e<;>first|exact list_round hQ m hm.2 _ _ he|exact he)⟩
     | row row args=>exact ⟨h2.1,RowsIn.mono h2.2 fun v fy he=>list_round hQ m hm.2 _ _ he⟩
     | round l' f tmps x b=>exact ⟨h2.1,RoundIn.mono h2.2 fun e fy he=>by cases e<;>first|exact list_round hQ m hm.2 _ _ he|exact he⟩
     | _=>exact h2
    | halt x w'=>cases x<;>exact h2
   ·exact absurd h hQ
  ·rename_i hw
   rw [if_neg hw]
   exact ⟨fun _ _=>trivial,list_round hQ m hm.2 _ _ h⟩
theorem Ad {o:Oper} {a:Act} {w:World} {K K':Act->World->Prop} (hK:∀a w,K a w->K' a w) (h:o.wpIn (Wd ro) n P a w K Q):o.wpIn (Wd ro) n P a w K' Q:=by
 refine ⟨h.1,?_⟩
 have h2:=h.2
 generalize (o.semAt (Wd ro).round a.eval).run P w=r at *
 cases r with
 | ok x w'=>cases x with
  | value v=>exact hK _ _ h2
  | skip=>exact hK _ _ h2
  | defer d=>exact hK _ _ h2
  | enter f args=>exact ⟨h2.1,(callsIn_wide (n:=n-1)).2 (Calls.mono ((callsIn_wide (n:=n-1)).1 h2.2) fun e fy he=>by cases e<;>first|exact hK _ _ he|exact he)⟩
  | row row args=>exact ⟨h2.1,RowsIn.mono h2.2 fun v fy he=>hK _ _ he⟩
  | round l' f tmps x b=>exact ⟨h2.1,RoundIn.mono h2.2 fun e fy he=>by cases e<;>first|exact hK _ _ he|exact he⟩
  | _=>exact h2
 | halt x w'=>cases x<;>exact h2
theorem oD {md:Region.Mode} {ops:Array Oper} (hc:ops.toList.all kj=true) (hQ:¬LetsOut Q):∀(fuel:Nat) (listed:Array Bool) (a:Act) (w:World),wpAny P md ops Q fuel listed a w->wpAnyIn (Wd ro) n P md ops Q fuel listed a w
 | 0,_,_,_,h=>h
 | fuel+1,listed,a,w,h=>⟨h.1,fun i hi=>by
   have h':=h.2 i hi
   unfold wpOp at h'
   unfold wpOpIn
   split
   ·rename_i ho;simp only [ho] at h';exact oD hc hQ fuel _ _ _ h'
   ·rename_i o ho
    simp only [ho] at h'
    have fM:kj o=true:=List.all_eq_true.1 hc o (by
     have:=Array.mem_of_getElem? ho;simpa using this)
    split
    ·rename_i hw
     rw [if_pos hw] at h'
     rcases h' with h'|⟨-,h'⟩
     ·exact Ad (oD hc hQ fuel _) (uw fM hQ h')
     ·exact absurd h' hQ
    ·rename_i hw
     rw [if_neg hw] at h'
     exact ⟨fun _ _=>trivial,oD hc hQ fuel _ _ _ h'⟩⟩
theorem F6 {F:Fence} {c:Code} {a:Act} {w:World} (J:Nat->Act->World->Prop) (k0:Nat) (h0:J k0 a w)
  (round:∀k a w,J k a w->c.wpIn F n P (Exit.then (fun a' w'=>∃k',k'<k∧J k' a' w') Q) a w):(Code.loop c).wpIn F n P Q a w:=by
 have IZ:∀a w,∃m,(∃k,J k a w)->J m a w∧ ∀k,J k a w->m≤k:=by
  intro a w
  by_cases h:∃k,J k a w
  ·obtain ⟨k,hk⟩:=h
   induction k using Nat.strongRecOn with
   | _ k ih =>
    by_cases hs:∃j,j<k∧J j a w
    ·obtain ⟨j,hj,hJ⟩:=hs;exact ih j hj hJ
    ·exact ⟨k,fun _=>⟨hk,fun j hJ=>Classical.byContradiction fun dk=>hs ⟨j,ah,hJ⟩⟩⟩
  ·exact ⟨0,fun h'=>absurd h' h⟩
 let μ :Act->World->Nat:=fun a w=>Classical.choose (IZ a w)
 have TH :∀a w (h:∃k,J k a w),J (μ a w) a w∧ ∀k,J k a w-> μ a w≤k:=fun a w h=>Classical.choose_spec (IZ a w) h
 refine wpIn_loop (fun a w=>∃k,J k a w) μ ⟨k0,h0⟩ fun a w h=>?_
 refine wpIn_mono (round _ a w (TH a w h).1) fun e a' w' hq=>?_
 cases e with
 | normal =>
  obtain ⟨k',hk,hJ⟩:=hq
  exact ⟨⟨k',hJ⟩,Nat.lt_of_le_of_lt ((TH a' w' ⟨k',hJ⟩).2 k' hJ) hk⟩
 | _=>exact hq
theorem iy:∀(c:Code) (Q:Exit->Act->World->Prop) (a:Act) (w:World),kZ c=true-> ¬LetsOut Q->Cr P c Q a w->c.wpIn (Wd ro) n P Q a w
 | .skip,_,a,w,_,_,h=>wpIn_skip h
 | .region _ ops false,_,a,w,hc,hQ,h=>wpIn_region_list (list_round hQ _ hc _ _ h)
 | .region _ ops true,_,a,w,hc,hQ,h=>wpIn_region_any h.1 (oD hc hQ _ _ _ _ h.2)
 | .seq x y,Q,a,w,hc,hQ,h=>by
  simp only [kZ,Bool.and_eq_true] at hc
  exact wpIn_seq (iy x _ a w hc.1 (by rintro ⟨a,w,h⟩;exact hQ ⟨a,w,h⟩) (er x _ _ (lV (fun a w h=>iy y Q a w hc.2 hQ h) fun _ _ _ h=>h) a w h))
 | .cond c x y,Q,a,w,hc,hQ,⟨t,h1,h2,h3⟩=>by
  simp only [kZ,Bool.and_eq_true] at hc
  exact wpIn_cond_split h1 (fun e=>iy x Q a w hc.1 hQ (h2 e)) (fun e=>iy y Q a w hc.2 hQ (h3 e))
 | .block id c,_,a,w,hc,hQ,h=>wpIn_block (iy c _ a w hc (by rintro ⟨a,w,h⟩;exact hQ ⟨a,w,h⟩) h)
 | .loop c,_,a,w,hc,hQ,⟨J,k0,h0,h⟩=>F6 J k0 h0 fun k a w hJ=>iy c _ a w hc (by rintro ⟨a,w,h⟩;exact hQ ⟨a,w,h⟩) (h k a w hJ)
 | .exit id,_,a,w,_,_,h=>wpIn_exit h
 | .ret,_,a,w,_,_,h=>wpIn_ret h
 | .rangeFunc ..,_,_,_,hc,_,_=>by cases hc
 | .scope _,_,_,_,hc,_,_=>by cases hc
 | .label _,_,_,_,hc,_,_=>by cases hc
 | .goto _,_,_,_,hc,_,_=>by cases hc
 | .refuse _,_,_,_,hc,_,_=>by cases hc
end
section
variable {S0:bn} {w0 w:World} {n:Nat} {s:AS} {a:Act} {φ:Nat->Option Nat}
def AG (x y:Nat) (φ:Nat->Option Nat):Nat->Option Nat:=fun i=>if i=y then φ x else if i=x then none else φ i
theorem aO.ED (h:aO S0 w0 n [] s a w φ) (x y:Nat) (PA:y<1000000000000∨ ∀g,φ x=some g->S0.fix y=some g) (cW:x≠y) (hy:look s.H y=none):aO S0 w0 n [] (rename x y s) a w (AG x y φ):=by
 let cA:Nat->Option Nat:=fun i=>if i=y then φ x else if i=x then none else φ i
 show aO S0 w0 n [] (rename x y s) a w cA
 have RN:φ y=none:=h.only y hy
 have mM:∀i g,cA i=some g-> ∃j,φ j=some g∧(i=y->j=x)∧(i≠y->j=i):=by
  intro i g hi
  by_cases e:i=y
  ·have:φ x=some g:=by simpa [cA,e] using hi
   exact ⟨x,this,fun _=>rfl,fun h=>absurd e h⟩
  ·by_cases e2:i=x
   ·simp [cA,e2,cW] at hi
   ·have:φ i=some g:=by simpa [cA,e,e2] using hi
    exact ⟨i,this,fun h=>absurd h e,fun _=>rfl⟩
 have Ja:∀b,aQ S0 w φ [] b->aQ S0 w cA [] b:=by
  intro b ⟨h1,h2,h3,h4⟩
  refine ⟨h1,h2,fun i hi=>?_,h4⟩
  obtain ⟨j,hj,-⟩:=mM i b hi
  exact h3 j hj
 have j6:∀i,look (rename x y s).H i=(if i=y then look s.H x else if i=x then none else look s.H i).map (eX x y):=by
  intro i
  unfold rename
  rw [cy,nG x y _ hy]
 have hI:∀i z,az s.H φ i=some z->az (rename x y s).H cA (if i=x then y else i)=some z:=by
  intro i z hi
  obtain ⟨e,m,b⟩:=z
  obtain ⟨r,hl,h1,h2,h3⟩:=aT hi
  by_cases e1:i=x
  ·subst e1
   rw [if_pos rfl,bu (r:=eX i y r) (by rw [j6,if_pos rfl,hl];rfl),(cH i y r).1,(cH i y r).2.1,h1,h2]
   simp [cA,h3]
  ·have e2:i≠y:=fun e=>by subst e;rw [hy] at hl;cases hl
   rw [if_neg e1,bu (r:=eX x y r) (by rw [j6,if_neg e2,if_neg e1,hl];rfl),(cH x y r).1,(cH x y r).2.1,h1,h2]
   simp [cA,e1,e2,h3]
 have sZ:∀b,aQ S0 w φ [] b->aQ S0 w cA [] b∧w.heap[b]?=w.heap[b]?:=fun b h=>⟨Ja b h,rfl⟩
 have ok:jX (az s.H φ) (az (rename x y s).H cA) (aQ S0 w φ []) (aQ S0 w cA []) w (kJ x y):=by
  refine ⟨fun v av hv h1 h2=>?_,fun _=>rfl,fun _=>rfl⟩
  have pick:∀i z,az s.H φ i=some z->(Nat.beq i x=true∧az (rename x y s).H cA y=some z)∨(Nat.beq i x=false∧az (rename x y s).H cA i=some z):=by
   intro i z hi
   have:=hI i z hi
   rcases bK i x with ⟨hb,e⟩|⟨hb,e⟩
   ·rw [if_pos e] at this;exact .inl ⟨hb,this⟩
   ·rw [if_neg e] at this;exact .inr ⟨hb,this⟩
  cases hv with
  | rep h=>cases h with
   | val v=>exact .rep (.val v)
   | nil=>exact .rep .nil
   | agg vs cs _ _=>exact absurd rfl (h1 cs)
   | bk vs cs _ _=>exact absurd rfl (h2 cs)
   | arr vs cs hl h=>exact .rep ((cB.arr vs cs hl h).mono sZ)
   | sl A n c e us row hl hn hc hm ha h=>exact .rep ((cB.sl A n c e us row hl hn hc hm ha h).mono sZ)
   | pC A n e us row hl hn hm ha h=>exact .rep ((cB.pC A n e us row hl hn hm ha h).mono sZ)
   | ptr ad us row off hl hs ha h=>exact .rep ((cB.ptr ad us row off hl hs ha h).mono sZ)
   | kX f vs cs hl h=>exact .rep ((cB.kX f vs cs hl h).mono sZ)
  | agg vs cs _ _=>exact absurd rfl (h1 cs)
  | bk vs cs _ _=>exact absurd rfl (h2 cs)
  | ref i e m g l c hi hm hc hx hs=>rcases pick i _ hi with ⟨hb,ji⟩|⟨hb,ji⟩<;>simp only [kJ,hb]<;>exact .ref _ e m g l c ji hm hc hx hs
  | cD i e hi=>rcases pick i _ hi with ⟨hb,ji⟩|⟨hb,ji⟩<;>simp only [kJ,hb]<;>exact .cD _ e ji
  | pre i k e m g l c hi hn hm hc hx hs=>rcases pick i _ hi with ⟨hb,ji⟩|⟨hb,ji⟩<;>simp only [kJ,hb]<;>exact .pre _ k e m g l c ji hn hm hc hx hs
  | dB i e hi=>rcases pick i _ hi with ⟨hb,ji⟩|⟨hb,ji⟩<;>simp only [kJ,hb]<;>exact .dB _ e ji
  | js i off k e m l c g A hi hn hm hc hx ha=>rcases pick i _ hi with ⟨hb,ji⟩|⟨hb,ji⟩<;>simp only [kJ,hb]<;>exact .js _ off k e m l c g A ji hn hm hc hx ha
  | addr i off e m g hi=>rcases pick i _ hi with ⟨hb,ji⟩|⟨hb,ji⟩<;>simp only [kJ,hb]<;>exact .addr _ off e m g ji
  | dead v=>exact .dead _
 have CQ:∀z:AV,(∀cs,z≠ .agg cs)->FQ x y z=kJ x y z:=by
  intro z hz
  cases z with
  | agg cs=>exact absurd rfl (hz cs)
  | _=>rfl
 have CP:∀z:AV,(∀cs,z≠ .bk cs)->M5 x y z=FQ x y z:=by
  intro z hz
  cases z with
  | bk cs=>exact absurd rfl (hz cs)
  | _=>rfl
 refine ⟨h.jS,h.jV,h.cZ,fun i av hi=>?_,fun i r hr=>?_,fun i hi=>?_,fun i j g hi hj=>?_,fun i g hi=>?_,fun i g hi=>by simp,h.new⟩
 ·unfold rename at hi
  rw [cy] at hi
  cases hl:look s.F i with
  | none=>rw [hl] at hi;cases hi
  | some z =>
   rw [hl] at hi;injection hi with hi;subst hi
   exact ok.two (h.cC i z hl) (fun _=>rfl) CQ (fun _=>rfl) CP
 ·rw [j6] at hr
  have:∃j q,look s.H j=some q∧cA i=φ j∧r=eX x y q:=by
   by_cases e:i=y
   ·rw [if_pos e] at hr
    cases hl:look s.H x with
    | none=>rw [hl] at hr;cases hr
    | some q=>rw [hl] at hr;injection hr with hr;exact ⟨x,q,hl,by simp [cA,e],hr.symm⟩
   ·rw [if_neg e] at hr
    by_cases e2:i=x
    ·rw [if_pos e2] at hr;cases hr
    ·rw [if_neg e2] at hr
     cases hl:look s.H i with
     | none=>rw [hl] at hr;cases hr
     | some q=>rw [hl] at hr;injection hr with hr;exact ⟨i,q,hl,by simp [cA,e,e2],hr.symm⟩
  obtain ⟨j,q,hq,Nh,rfl⟩:=this
  have aR:=h.rows j q hq
  rw [Nh]
  unfold bR at aR ⊢
  cases hb:φ j with
  | none =>
   rw [hb] at aR
   have:=(cH x y q).2.1
   simp only at aR ⊢
   rw [aR] at this;exact List.length_eq_zero_iff.1 this
  | some g =>
   rw [hb] at aR
   obtain ⟨cur,te,fr,hg,hf,hlen,m7,hc⟩:=aR
   refine ⟨cur,te,fr,hg,hf,by rw [(cH x y q).2.1];exact hlen,by rw [(cH x y q).2.1,(cH x y q).2.2.2];exact m7,fun j u z hu hz=>?_⟩
   rw [(cH x y q).2.2.1]
   unfold bh
   cases hp:q.pure with
   | true =>
    have:eX x y q=q:=by unfold eX;rw [hp]
    rw [this] at hz
    have:=hc j u z hu hz
    unfold bh at this;rw [hp] at this
    exact this.mono sZ
   | false =>
    have:(eX x y q).cells=q.cells.map (kJ x y):=by unfold eX;rw [hp]
    rw [this,List.getElem?_map] at hz
    cases hj:q.cells[j]? with
    | none=>rw [hj] at hz;cases hz
    | some z' =>
     rw [hj] at hz;injection hz with hz;subst hz
     have:=hc j u z' hu hj
     unfold bh at this;rw [hp] at this
     exact ok.all this
 ·rw [j6] at hi
  by_cases e:i=y
  ·rw [if_pos e] at hi
   cases hl:look s.H x with
   | none=>simp [cA,e,h.only x hl]
   | some q=>rw [hl] at hi;cases hi
  ·rw [if_neg e] at hi
   by_cases e2:i=x
   ·simp [cA,e2,cW]
   ·rw [if_neg e2] at hi
    cases hl:look s.H i with
    | none=>simp [cA,e,e2,h.only i hl]
    | some q=>rw [hl] at hi;cases hi
 ·obtain ⟨i',h1,h2,h3⟩:=mM i g hi
  obtain ⟨j',h4,h5,h6⟩:=mM j g hj
  have e:=h.inj i' j' g h1 h4
  by_cases ei:i=y<;>by_cases ej:j=y
  ·rw [ei,ej]
  ·have:=h2 ei;have:=h6 ej
   have:j=x:=ah
   subst this
   simp [cA,cW] at hj
  ·have:=h3 ei;have:=h5 ej
   have:i=x:=ah
   subst this
   simp [cA,cW] at hi
  ·have:=h3 ei;have:=h6 ej;omega
 ·obtain ⟨j,h1,h2,h3⟩:=mM i g hi
  have:=h.cY j g h1
  refine ⟨⟨?_,this.1.2⟩,this.2⟩
  by_cases e:i=y
  ·have hj:=h2 e
   subst hj
   rw [e]
   exact PA.imp (fun h=>h) fun h=>h g h1
  ·rw [←h3 e];exact this.1.1
end
section
variable {Z Z':bn} {w0 w w':World} {n:Nat} {O:List Nat} {s:AS} {a a':Act} {φ:Nat->Option Nat}
theorem aO.q9 (h:aO Z w0 n O s a w φ) (dw:w.heap.size≤w'.heap.size) (hb:∀b,Z.S b->b<w.heap.size->w'.heap[b]?=w.heap[b]?) (hS:∀b,Z.S b->b<w.heap.size->Z'.S b) (l7:∀b,(w'.heap.size≤b∨Z'.X b)->Z'.S b) (hX:∀id g,φ id=some g->Z'.X g)
  (Lq:∀id g,φ id=some g->id<1000000000000∨Z'.fix id=some g) (ht:a'.tmps=a.tmps) (hd:a'.defers=Z'.sG) (Vn:Good w') (Vm:∀b,TB b-> ¬Z'.X b):aO Z' w' n O s a' w' φ:=by
 have hF:∀b,aQ Z w φ O b->aQ Z' w' φ O b∧w'.heap[b]?=w.heap[b]?:=fun b kP=>⟨⟨Nat.lt_of_lt_of_le kP.1 dw,kP.2.1,kP.2.2.1,hS b kP.2.2.2 kP.1⟩,hb b kP.2.2.2 kP.1⟩
 have ct:∀id g,φ id=some g->w'.heap[g]?=w.heap[g]?:=fun id g hg=>hb g (h.new g (h.cY id g hg).1.2) (h.cY id g hg).2
 have hL:∀id e m g,az s.H φ id=some (e,m,some g)->a7 w' g=a7 w g:=fun id e m g hi=>by
  obtain ⟨_,-,-,-,hg⟩:=aT hi
  unfold a7;rw [ct id g hg]
 refine ⟨by rw [ht];exact h.jS,hd,⟨rfl,rfl,rfl,Nat.le_refl _,fun _ _ _=>rfl,Vn,Vm⟩,fun i av hi=>?_,fun id r hr=>?_,h.only,h.inj,fun id g hg=>⟨⟨Lq id g hg,.inr (hX id g hg)⟩,Nat.lt_of_lt_of_le (h.cY id g hg).2 dw⟩,h.apart,l7⟩
 ·rw [ht];exact (h.cC i av hi).mono (fun _ _ h=>h) hF hL
 ·have aR:=h.rows id r hr
  unfold bR at aR ⊢
  cases hg:φ id with
  | none=>rw [hg] at aR;exact aR
  | some g =>
   rw [hg] at aR
   obtain ⟨cur,te,fr,u1,u2,u3,u4,u5⟩:=aR
   refine ⟨cur,te,fr,(ct id g hg).trans u1,u2,u3,u4,fun j u x hu hx=>?_⟩
   have:=u5 j u x hu hx
   unfold bh at this ⊢
   cases hp:r.pure with
   | true=>rw [hp] at this;exact this.mono hF
   | false=>rw [hp] at this;exact this.mono (fun _ _ h=>h) hF hL
end
def mU:AV->Bool
 | .val _=>true
 | .nil=>true
 | .ref _=>true
 | .pre _ _=>true
 | .js _ _ _=>true
 | .addr _ _=>true
 | _=>false
def jE (H:List (Nat×Row)):Prop:=∀id r,look H id=some r-> ∀(j:Nat) x,r.cells[j]?=some x->mU x=true
theorem DU {I:Info} {S S':Nat->Prop} {w w':World} {v:Value} {x:AV} (h:Den I S w v x) (hc:mU x=true) (hL:∀id e m g,I id=some (e,m,some g)->a7 w' g=a7 w g):Den I S' w' v x:=by
 cases h with
 | rep h=>cases h with
  | val v=>exact .rep (.val v)
  | nil=>exact .rep .nil
  | _=>cases hc
 | agg=>cases hc
 | bk=>cases hc
 | ref id e m g l c hi hm la hx hs=>exact .ref id e m g l c hi hm la hx ((hL _ _ _ _ hi).trans hs)
 | cD id e hi=>exact .cD id e hi
 | pre id n e m g l c hi hn hm la hx hs=>exact .pre id n e m g l c hi hn hm la hx ((hL _ _ _ _ hi).trans hs)
 | dB id e hi=>exact .dB id e hi
 | js id off n e m l c g A hi hn hm la hx ha=>exact .js id off n e m l c g A hi hn hm la hx ha
 | addr id off e m g hi=>exact .addr id off e m g hi
 | dead v=>exact .dead v
theorem CG {S S':Nat->Prop} {w w':World} {v:Value} {x:AV} (h:cB S w v x) (hc:mU x=true):cB S' w' v x:=by
 cases h with
 | val v=>exact .val v
 | nil=>exact .nil
 | _=>cases hc
def oE (P:Program) (l:Nat) (vs:List Value) (w:World) (T:Bool->World->Prop):Prop :=
 ∃fn tmps Ut bd,(Instr.yield l vs.toArray).run P w= .ok (.round l fn tmps Ut bd) w∧RoundIn Fence.wide 0 P l fn tmps Ut bd w fun e w'=>∃t,e= .returned (.bool t)∧T t w'
structure Kc (O:Nat->Prop) (w w':World):Prop where
 os:w'.os=w.os
 tape:w'.tape=w.tape
 output:w'.output=w.output
 size:w.heap.size≤w'.heap.size
 block:∀b,b<w.heap.size-> ¬O b->w'.heap[b]?=w.heap[b]?
def jW (J:(Nat->Prop)->(Nat->Prop)->World->Prop):Prop :=
 ∀O K w O' K' w',J O K w->Kc O w w'->(∀b,O' b->O b∨w.heap.size≤b)->(∀b,K' b->K b∨w.heap.size≤b)->J O' K' w'
def xC (P:Program) (f:Nat) (lN:List AV) (A:Nat->List AV) (N:Nat):Prop :=
 ∀(l:Nat) (w:World) (S:Nat->Prop) (cv:List Value) (J:Nat->(Nat->Prop)->(Nat->Prop)->World->Prop) (X:(Nat->Prop)->(Nat->Prop)->World->Prop),
  Good w->(∀b,S b->b<w.heap.size)->cv.length=lN.length->(∀(j:Nat) v x,cv[j]?=some v->lN[j]?=some x->cB S w v x) ->
  (∀i,jW (J i))->jW X ->
  (∀i,i<N-> ∀(O K:Nat->Prop) (w1:World) (vs:List Value),J i O K w1->(∀b,O b->K b)->(∀b,K b->b<w1.heap.size)->vs.length=(A i).length->(∀(j:Nat) v x,vs[j]?=some v->(A i)[j]?=some x->cB K w1 v x) ->
   oE P l vs w1 fun t w2=>Good w2∧w1.heap.size≤w2.heap.size∧(∀b,K b->w2.heap[b]?=w1.heap[b]?)∧(t=true->J (i+1) O K w2)∧(t=false->X O K w2)) ->
  J 0 (fun _=>False) S w ->
  Calls P f (Value.func (.yield l) #[] #[]::cv).toArray w fun e w'=>∃v O K,e= .returned v∧(J N O K w'∨X O K w')
def RF (H:List (Nat×Row)):AV->Bool
 | .val _=>true
 | .nil=>true
 | .arr _=>true
 | .sl _ _=>true
 | .ptr _ _=>true
 | .kX _ _=>true
 | .agg cs=>dZ cs
 | .dead=>true
 | .addr id _=>(match Nat.ble 1000000000000 id,look H id with|true,some r=>(match r.cells with| []=>false|_::_=>true)|_,_=>false)
 | _=>false
def Pb (F:List (Nat×AV)) (H:List (Nat×Row)):Prop:=∀i x,look F i=some x->RF H x=true
def CR (H:List (Nat×Row)):List (Nat×AV)->Bool
 | []=>true
 | (_,x)::F=>match RF H x with|true=>CR H F|false=>false
theorem qd {H:List (Nat×Row)}:∀ {F:List (Nat×AV)},CR H F=true->Pb F H
 | [],_,i,x,h=>by cases h
 | (k,y)::F,hb,i,x,h=>by
  simp only [CR] at hb
  split at hb
  ·rename_i hy
   rw [aF] at h
   by_cases e:k=i
   ·rw [if_pos e] at h;injection h with h;subst h;exact hy
   ·rw [if_neg e] at h;exact qd hb i x h
  ·cases hb
structure Fx (op:List (Value×AV)) (S0:bn) (w0:World) (n:Nat) (tm:Array Value) (fx:Nat->Option Nat) (r l:Nat) (we:World) (rc:Loop) (s:AS) (O K:Nat->Prop) (w:World):Prop where
 ex:∃(wb:World) (φ:Nat->Option Nat) (Z:bn),aO Z wb n [] s ⟨tm,[]⟩ wb φ∧Z.fix=fx∧we.heap.size≤wb.heap.size∧wb.heap.size≤w.heap.size∧(∀b,Z.S b->b<wb.heap.size->w.heap[b]?=wb.heap[b]?)∧(∀b,Z.S b->b<wb.heap.size->S0.S b) ∧
  (∀id g,φ id=some g->w0.heap.size≤g∨S0.X g)∧(∀b,O b->b<wb.heap.size-> ¬Z.S b)∧(∀b,K b-> ∀id,φ id≠some b)∧ ¬Z.S l∧ ¬Z.S r∧ ∀p∈op,cB (aQ Z wb φ []) wb p.1 p.2
 kept:Kept S0 w0 w
 base:w0.heap.size≤we.heap.size
 Qy:∀b,O b->we.heap.size≤b
 hl:l<we.heap.size
 hr:r<we.heap.size
 Kl:¬K l
 HW:w.heap[l]?=some (.loop rc)
 K3:∀b,w0.heap.size≤b->S0.S b
 OI:w0.heap.size≤l
 rl:r≠l
 Kr:¬K r
 jV:w.heap[r]?=some (.deferred (some []))
section
variable {op:List (Value×AV)} {P:Program} {S0:bn} {w0:World} {n:Nat} {tm:Array Value} {fx:Nat->Option Nat} {r l:Nat} {we:World} {rc:Loop} {s:AS}
theorem Fx.Hx:jW (Fx op S0 w0 n tm fx r l we rc s):=by
 intro O K w O' K' w' h st hO hK
 obtain ⟨wb,φ,Z,h1,h2,h3,h4,h5,h6,h7,h8,h9,Kv,Jb,NY⟩:=h.ex
 have hle:we.heap.size≤w.heap.size:=Nat.le_trans h3 h4
 refine ⟨⟨wb,φ,Z,h1,h2,h3,Nat.le_trans h4 st.size,fun b hb dk=>(st.block b ah fun ho=>h8 b ho dk hb).trans (h5 b hb dk),h6,h7,fun b hb dk=>?_,fun b hb id hid=>?_,Kv,Jb,NY⟩,?_,h.base,fun b hb=>?_,h.hl,h.hr,fun hb=>?_,?_,?_,?_,?_,?_,?_⟩
 ·rcases hO b hb with hb|hb
  ·exact h8 b hb dk
  ·omega
 ·rcases hK b hb with hb|hb
  ·exact h9 b hb id hid
  ·have:=(h1.cY id b hid).2;omega
 ·exact ⟨st.os.trans h.kept.os,st.tape.trans h.kept.tape,st.output.trans h.kept.output,Nat.le_trans h.kept.size st.size,fun k hk hx=>(st.block k (Nat.lt_of_lt_of_le hk h.kept.size) fun ho=>by have:=h.Qy k ho;have:=h.base;omega).trans (h.kept.block k hk hx),h.kept.g0,h.kept.gx⟩
 ·rcases hO b hb with hb|hb
  ·exact h.Qy b hb
  ·omega
 ·rcases hK l hb with hb|hb
  ·exact h.Kl hb
  ·have:=h.hl;omega
 ·exact (st.block l (by have:=h.hl;omega) fun ho=>by have:=h.Qy l ho;have:=h.hl;omega).trans h.HW
 ·exact h.K3
 ·exact h.OI
 ·exact h.rl
 ·intro hb
  rcases hK r hb with hb|hb
  ·exact h.Kr hb
  ·have:=h.hr;omega
 ·exact (st.block r (by have:=h.hr;omega) fun ho=>by have:=h.Qy r ho;have:=h.hr;omega).trans h.jV
def HZ:List Nat->List AV->AS->AS
 | p::ps,x::xs,s=>HZ ps xs (lx s p x)
 | _,_,s=>s
theorem w7 {Z:bn} {w:World} {φ:Nat->Option Nat}:∀(ps:List Nat) (vs:List Value) (xs:List AV) (s:AS) (a:Act),aO Z w0 n [] s a w φ->vs.length=xs.length->(∀p∈ps,p<n) ->
  (∀(j:Nat) v x,vs[j]?=some v->xs[j]?=some x->Den (az s.H φ) (aQ Z w φ []) w v x)->aO Z w0 n [] (HZ ps xs s) ⟨(ps.zip vs).foldl (fun t p=>t.setIfInBounds p.1 p.2) a.tmps,a.defers⟩ w φ
 | [],vs,xs,s,a,h,_,_,_=>by
  cases xs<;>exact h
 | p::ps,[],xs,s,a,h,hl,_,_=>by
  cases xs with
  | nil=>exact h
  | cons=>simp at hl
 | p::ps,v::vs,[],s,a,h,hl,_,_=>by simp at hl
 | p::ps,v::vs,x::xs,s,a,h,hl,hp,hd=>by
  have h1:=h.put (hp p (by simp)) (hd 0 v x rfl rfl)
  exact w7 ps vs xs (lx s p x) (a.put (some p) v) h1 (by simpa using hl) (fun q hq=>hp q (by simp [hq])) fun j u y hu hy=>hd (j+1) u y (by simpa using hu) (by simpa using hy)
theorem Ig {F:List (Nat×AV)} {H X:List (Nat×Row)} {O K:Nat->Prop} {w1 w3 Rz:World} {S3:bn} {a3:Act} {vR:Nat->Option Nat} {pQ:Loop} {φ:Nat->Option Nat} {wb:World} {Z:bn}
  (hM:Fx op S0 w0 n tm fx r l we rc ⟨F,H⟩ O K w1) (O3:∀b,O b->K b) (hK:∀b,K b->b<w1.heap.size)
  (h1:aO Z wb n [] ⟨F,H⟩ ⟨tm,[]⟩ wb φ) (h2:Z.fix=fx) (h3:we.heap.size≤wb.heap.size) (h4:wb.heap.size≤w1.heap.size) (h5:∀b,Z.S b->b<wb.heap.size->w1.heap[b]?=wb.heap[b]?) (h6:∀b,Z.S b->b<wb.heap.size->S0.S b)
  (h7:∀id g,φ id=some g->w0.heap.size≤g∨S0.X g) (h8:∀b,O b->b<wb.heap.size-> ¬Z.S b) (h9:∀b,K b-> ∀id,φ id≠some b) (Kv:¬Z.S l) (Jb:¬Z.S r) (NY:∀p∈op,cB (aQ Z wb φ []) wb p.1 p.2)
  (Gf:aO S3 Rz n [] ⟨[],X⟩ a3 w3 vR) (Lq:S3.fix=fx) (OZ:∀id g,vR id=some g->w1.heap.size≤g∨lQ φ g) (So:¬S3.S l) (U5:¬S3.S r)
  (IP:w3.os=w1.os) (uQ:w3.tape=w1.tape) (uR:w3.output=w1.output) (dw:w1.heap.size≤w3.heap.size) (Bw:∀b,b<w1.heap.size-> ¬lQ φ b->b≠l->w3.heap[b]?=w1.heap[b]?)
  (hX:jE X) (hF:Pb F H) (SZ:Pb F X) :
  Fx op S0 w0 n tm fx r l we pQ ⟨F,X⟩ O K (w3.putObj l (.loop pQ))∧(∀b,K b->(w3.putObj l (.loop pQ)).heap[b]?=w1.heap[b]?):=by
 have Ms:l<w3.heap.size:=by have:=hM.hl;omega
 have C9:∀b,b≠l->(w3.putObj l (.loop pQ)).heap[b]?=w3.heap[b]?:=fun b hb=>World.putObj_heap_other hb
 have EX:∀b,b<w1.heap.size-> ¬lQ φ b->b≠l->(w3.putObj l (.loop pQ)).heap[b]?=w1.heap[b]?:=fun b hb hn cW=>(C9 b cW).trans (Bw b hb hn cW)
 have own:∀id g,φ id=some g->Z.S g∧g<wb.heap.size:=fun id g hg=>⟨h1.new g (h1.cY id g hg).1.2,(h1.cY id g hg).2⟩
 have M_:∀id g,vR id=some g->S3.S g∧g<w3.heap.size:=fun id g hg=>⟨Gf.new g (Gf.cY id g hg).1.2,(Gf.cY id g hg).2⟩
 have RI:∀id g,vR id=some g->g≠l:=fun id g hg e=>So (e ▸ (M_ id g hg).1)
 have VL:∀id e m g,az X vR id=some (e,m,some g)->a7 (w3.putObj l (.loop pQ)) g=a7 w3 g:=fun id e m g hi=>by
  obtain ⟨_,-,-,-,hg⟩:=aT hi
  unfold a7;rw [C9 g (RI id g hg)]
 let Z4:bn:=⟨fun b=>(Z.S b∧b<wb.heap.size)∨lQ vR b∨(w3.putObj l (.loop pQ)).heap.size≤b,lQ vR,fx,[]⟩
 have Lg:(w3.putObj l (.loop pQ)).heap.size=w3.heap.size:=World.putObj_size
 have fz:Kept S0 w0 (w3.putObj l (.loop pQ)):=by
  refine ⟨IP.trans hM.kept.os,uQ.trans hM.kept.tape,uR.trans hM.kept.output,by rw [Lg];exact Nat.le_trans hM.kept.size dw,fun k hk hx=>?_,hM.kept.g0,hM.kept.gx⟩
  have Lo:k<w1.heap.size:=Nat.lt_of_lt_of_le hk hM.kept.size
  refine (EX k Lo (fun ⟨id,hid⟩=>?_) (fun e=>?_)).trans (hM.kept.block k hk hx)
  ·rcases h7 id k hid with h|h
   ·omega
   ·exact hx h
  ·have:=hM.OI;omega
 have TG:∀b,lQ vR b->b<wb.heap.size->Z.S b:=fun b ⟨id,hid⟩ dk=>by
  rcases OZ id b hid with h|⟨j,hj⟩
  ·omega
  ·exact (own j b hj).1
 have uU:∀b,aQ Z wb φ [] b->aQ Z4 (w3.putObj l (.loop pQ)) vR [] b∧(w3.putObj l (.loop pQ)).heap[b]?=wb.heap[b]?:=by
  intro b ⟨f1,f2,f3,f4⟩
  have cW:b≠l:=fun e=>Kv (e ▸ f4)
  have hn:¬lQ φ b:=fun ⟨id,hid⟩=>f3 id hid
  refine ⟨⟨by rw [Lg];omega,by simp,fun id hid=>?_,.inl ⟨f4,f1⟩⟩,(EX b ah hn cW).trans (h5 b f4 f1)⟩
  rcases OZ id b hid with h|h
  ·omega
  ·exact hn h
 have gk:aO Z4 (w3.putObj l (.loop pQ)) n [] ⟨F,X⟩ ⟨tm,[]⟩ (w3.putObj l (.loop pQ)) vR:=by
  refine ⟨h1.jS,rfl,⟨rfl,rfl,rfl,Nat.le_refl _,fun _ _ _=>rfl,fz.mP,fun b hb=>Gf.sU hb⟩,fun i av hi=>?_,fun id q hq=>?_,Gf.only,Gf.inj,fun id g hg=>⟨⟨?_,.inr ⟨id,hg⟩⟩,by rw [Lg];exact (M_ id g hg).2⟩,fun _ _ _ h=>(by cases h),fun b hb=>?_⟩
  ·
   have dV:Den (az H φ) (aQ Z wb φ []) wb (tm.getD i undef) av:=h1.cC i av hi
   show Den (az X vR) (aQ Z4 (w3.putObj l (.loop pQ)) vR []) (w3.putObj l (.loop pQ)) (tm.getD i undef) av
   generalize tm.getD i undef=tv at dV ⊢
   have E0:=hF i av hi
   have IW:=SZ i av hi
   have qR:cB (aQ Z wb φ []) wb tv av->Den (az X vR) (aQ Z4 (w3.putObj l (.loop pQ)) vR []) (w3.putObj l (.loop pQ)) tv av:=fun h=>.rep (h.mono uU)
   cases av with
   | val=>exact qR (by cases dV with|rep h=>exact h)
   | nil=>exact qR (by cases dV with|rep h=>exact h)
   | arr=>exact qR (by cases dV with|rep h=>exact h)
   | sl=>exact qR (by cases dV with|rep h=>exact h)
   | ptr=>exact qR (by cases dV with|rep h=>exact h)
   | kX=>exact qR (by cases dV with|rep h=>exact h)
   | dead=>exact .dead _
   | agg cs =>
    obtain ⟨vs,hv,rC,hd⟩:=ko dV
    rw [hv]
    exact .rep ((cB.agg vs cs rC fun j v c hv hc=>(eK (hd j v c hv hc) (iB E0 hc)).1).mono uU)
   | addr id off =>
    simp only [RF] at IW
    split at IW
    ·rename_i q hb lH
     split at IW
     ·cases IW
     ·rename_i x0 xs xi
      have uW:=Nat.le_of_ble_eq_true hb
      cases dV with
      | rep h=>cases h
      | addr _ _ e m g hi =>
       obtain ⟨_,-,-,-,hg⟩:=aT hi
       have Vp:fx id=some g:=by
        rcases (h1.cY id g hg).1.1 with h|h
        ·omega
        ·rw [←h2];exact h
       have aR:=Gf.rows id q lH
       unfold bR at aR
       cases Sw:vR id with
       | none=>rw [Sw] at aR;simp only at aR;rw [xi] at aR;cases aR
       | some g4 =>
        have:fx id=some g4:=by
         rcases (Gf.cY id g4 Sw).1.1 with h|h
         ·omega
         ·rw [←Lq];exact h
        rw [Vp] at this;injection this with this;subst this
        exact .addr id off q.e q.cells.length g (by unfold az;rw [lH,Sw];rfl)
    ·cases IW
   | _=>cases E0
  ·
   have aR:=Gf.rows id q hq
   unfold bR at aR ⊢
   cases hg:vR id with
   | none=>rw [hg] at aR;exact aR
   | some g =>
    rw [hg] at aR
    obtain ⟨cur,te,fr,u1,u2,u3,u4,u5⟩:=aR
    refine ⟨cur,te,fr,(C9 g (RI id g hg)).trans u1,u2,u3,u4,fun j u x hu hx=>?_⟩
    have:=u5 j u x hu hx
    have hc:=hX id q hq j x hx
    unfold bh at this ⊢
    cases hp:q.pure with
    | true=>rw [hp] at this;exact CG this hc
    | false=>rw [hp] at this;exact DU this hc VL
  ·rcases (Gf.cY id g hg).1.1 with h|h
   ·exact .inl h
   ·right;show fx id=some g;rw [←Lq];exact h
  ·rcases hb with h|h
   ·exact .inr (.inr h)
   ·exact .inr (.inl h)
 refine ⟨⟨⟨w3.putObj l (.loop pQ),vR,Z4,gk,rfl,by rw [Lg];omega,Nat.le_refl _,fun _ _ _=>rfl,fun b hb dk=>?_,fun id g hg=>?_,fun b hb dk hS=>?_,fun b hb id hid=>?_,fun hS=>?_,fun hS=>?_,fun p hp=>(NY p hp).mono uU⟩,?_,hM.base,hM.Qy,hM.hl,hM.hr,hM.Kl,World.putObj_heap_same Ms,hM.K3,hM.OI,hM.rl,hM.Kr,?_⟩,fun b hb=>?_⟩
 ·rcases hb with h|⟨id,hid⟩|h
  ·exact h6 b h.1 h.2
  ·rcases OZ id b hid with h|⟨j,hj⟩
   ·
    have:=hM.base;exact hM.K3 b ah
   ·exact h6 b (own j b hj).1 (own j b hj).2
  ·omega
 ·rcases OZ id g hg with h|⟨j,hj⟩
  ·left;have:=hM.base;omega
  ·exact h7 j g hj
 ·rcases hS with h|h|h
  ·exact h8 b hb h.2 h.1
  ·obtain ⟨id,hid⟩:=h
   rcases OZ id b hid with h|⟨j,hj⟩
   ·have:=hK b (O3 b hb);omega
   ·exact h8 b hb (own j b hj).2 (own j b hj).1
  ·have:=hK b (O3 b hb);omega
 ·rcases OZ id b hid with h|⟨j,hj⟩
  ·have:=hK b hb;omega
  ·exact h9 b hb j hj
 ·rcases hS with h|⟨id,hid⟩|h
  ·exact Kv h.1
  ·exact RI id l hid rfl
  ·omega
 ·rcases hS with h|⟨id,hid⟩|h
  ·exact Jb h.1
  ·exact U5 (M_ id r hid).1
  ·have:=hM.hr;omega
 ·exact fz
 ·have cW:r≠l:=hM.rl
  refine (EX r (by have:=hM.hr;omega) (fun ⟨id,hid⟩=>Jb (own id r hid).1) cW).trans hM.jV
 ·refine EX b (hK b hb) (fun ⟨id,hid⟩=>h9 b hb id hid) fun e=>hM.Kl (e ▸ hb)
end
def M9:Code->Option (Operand×Array Tmp×Code×Code)
 | .rangeFunc g ps x b=>some (g,ps,x,b)
 | _=>none
def KY:List (Nat×Nat)->AS->AS
 | [],s=>s
 | (x,y):: ρ,s=>KY ρ (rename x y (cp y s))
def lu:List (Nat×Nat)->AS->AS
 | [],s=>s
 | (x,y):: ρ,s=>lu ρ (rename y x (cp x s))
def nC:List (Nat×Nat)->Bool
 | []=>true
 | (x,y):: ρ =>match Nat.ble x 999999999999,Nat.ble 1000000000000 y with|true,true=>nC ρ |_,_=>false
section
variable {n:Nat} {a:Act} {w w0:World}
theorem H4:∀(ρ :List (Nat×Nat)) (s:AS) (Z:bn) (φ:Nat->Option Nat),nC ρ =true->aO Z w0 n [] s a w φ-> ∃fx cA,aO ⟨Z.S,Z.X,fx,Z.sG⟩ w0 n [] (KY ρ s) a w cA∧(∀i,i ∉ ρ.map (·.2)->fx i=Z.fix i)∧(∀id g,cA id=some g->lQ φ g)
 | [],s,Z,φ,_,h=>⟨Z.fix,φ,h,fun _ _=>rfl,fun id g hg=>⟨id,hg⟩⟩
 | (x,y):: ρ,s,Z,φ,hp,h=>by
  simp only [nC] at hp
  split at hp
  ·rename_i hx hy
   have hx:=Nat.le_of_ble_eq_true hx
   have hy:=Nat.le_of_ble_eq_true hy
   have h1:=h.mv y
   let Z2:bn:=⟨Z.S,Z.X,fun i=>if i=y then erase φ y x else Z.fix i,Z.sG⟩
   have h2:aO Z2 w0 n [] (cp y s) a w (erase φ y):=⟨h1.jS,h1.jV,⟨h1.cZ.os,h1.cZ.tape,h1.cZ.output,h1.cZ.size,h1.cZ.block,h1.cZ.g0,h1.cZ.gx⟩,h1.cC,h1.rows,h1.only,h1.inj,fun id g hg=>⟨⟨(h1.cY id g hg).1.1.imp (fun h=>h) fun hf=>by
     show (if id=y then erase φ y x else Z.fix id)=some g
     have cW:id≠y:=fun e=>by subst e;unfold erase at hg;rw [if_pos rfl] at hg;cases hg
     rw [if_neg cW];exact hf,(h1.cY id g hg).1.2⟩,(h1.cY id g hg).2⟩,h1.apart,h1.new⟩
   have h3:=h2.ED x y (.inr fun g hg=>by show (if y=y then erase φ y x else Z.fix y)=some g;rw [if_pos rfl];exact hg) ah (dp y)
   obtain ⟨fx,cA,h4,h5,h6⟩:=H4 ρ _ Z2 _ hp h3
   refine ⟨fx,cA,h4,fun i hi=>?_,fun id g hg=>?_⟩
   ·simp only [List.map_cons,List.mem_cons,not_or] at hi
    rw [h5 i hi.2]
    show (if i=y then erase φ y x else Z.fix i)=Z.fix i
    rw [if_neg hi.1]
   ·obtain ⟨j,hj⟩:=h6 id g hg
    unfold AG erase at hj
    split at hj
    ·split at hj
     ·cases hj
     ·exact ⟨_,hj⟩
    ·split at hj
     ·cases hj
     ·exact ⟨_,hj⟩
  ·cases hp
theorem Ak {Z:bn}:∀(ρ :List (Nat×Nat)) (s:AS) (φ:Nat->Option Nat),nC ρ =true->aO Z w0 n [] s a w φ-> ∃ cA,aO Z w0 n [] (lu ρ s) a w cA∧(∀id g,cA id=some g->lQ φ g)∧(∀id,1000000000000≤id->id∈ ρ.map (·.2)∨φ id=none->cA id=none)
 | [],s,φ,_,h=>⟨φ,h,fun id g hg=>⟨id,hg⟩,fun id _ hid=>hid.resolve_left (by simp)⟩
 | (x,y):: ρ,s,φ,hp,h=>by
  simp only [nC] at hp
  split at hp
  ·rename_i hx hy
   have hx:=Nat.le_of_ble_eq_true hx
   have hy:=Nat.le_of_ble_eq_true hy
   have h1:=h.mv x
   have h3:=h1.ED y x (.inl ah) ah (dp x)
   obtain ⟨cA,h4,h5,h6⟩:=Ak ρ _ _ hp h3
   refine ⟨cA,h4,fun id g hg=>?_,fun id hid tn=>h6 id hid ?_⟩
   ·obtain ⟨j,hj⟩:=h5 id g hg
    unfold AG erase at hj
    split at hj
    ·split at hj
     ·cases hj
     ·exact ⟨_,hj⟩
    ·split at hj
     ·cases hj
     ·exact ⟨_,hj⟩
   ·have key:(id=y∨φ id=none)->AG y x (erase φ x) id=none:=by
     intro tn
     unfold AG erase
     rw [if_neg ah]
     rcases tn with e|e
     ·rw [if_pos e]
     ·split
      ·rfl
      ·rw [if_neg ah];exact e
    rcases tn with tn|tn
    ·simp only [List.map_cons,List.mem_cons] at tn
     rcases tn with tn|tn
     ·exact .inr (key (.inl tn))
     ·exact .inl tn
    ·exact .inr (key (.inr tn))
  ·cases hp
end
def Eg (op:List (Value×AV)) (s s1:AS):Prop:=∀Z w0 n a w φ,aO Z w0 n [] s a w φ->(∀p∈op,cB (aQ Z w φ []) w p.1 p.2)->aO Z w0 n [] s1 a w φ
def RQ (op:List (Value×AV)) (Q:Exit->AS->Prop) (ρ :List (Nat×Nat)) (F:List (Nat×AV)) (H:List (Nat×Row)):Exit->AS->Prop
 | .normal,s'=>bU s' ⟨[],H⟩
 | .exit id,s'=>∃X s1,jE X∧CR X F=true∧bU s' ⟨[],X⟩∧Eg op ⟨F,X⟩ s1∧Q (.exit id) (lu ρ s1)
 | .ret,s'=>∃X s1,jE X∧CR X F=true∧bU s' ⟨[],X⟩∧Eg op ⟨F,X⟩ s1∧Q .ret (lu ρ s1)
 | _,_=>False
def Kd (op:List (Value×AV)) (Q:Exit->AS->Prop) (ρ :List (Nat×Nat)) (s:AS) (c:Code):Prop:=∃s1,Eg op s s1∧((∃id,c= .exit id∧Q (.exit id) (lu ρ s1))∨(c= .ret∧Q .ret (lu ρ s1)))
section
variable {op:List (Value×AV)} {P:Program} {S0:bn} {w0:World} {n:Nat} {tm:Array Value} {fx:Nat->Option Nat} {r l:Nat} {we:World} {Q:Exit->AS->Prop} {ρ :List (Nat×Nat)}
theorem FZ {fn:FuncId} {ps:Array Tmp} {x bd:Code} {F:List (Nat×AV)} {H H':List (Nat×Row)} {As:List AV} {O K:Nat->Prop} {w1:World} {vs:List Value}
  (hM:Fx op S0 w0 n tm fx r l we {state:=.ready,pending:=none,fn:=fn,tmps:=tm,params:=ps,assign:=x,body:=bd,defers:=r} ⟨F,H⟩ O K w1) (O3:∀b,O b->K b) (hK:∀b,K b->b<w1.heap.size)
  (hl:vs.length=As.length) (hd:∀(j:Nat) v x,vs[j]?=some v->As[j]?=some x->cB K w1 v x) (PW:ps.toList.length=As.length) (PZ:∀p∈ps.toList,p<n) (Lv:kZ x=true) (Qn:kZ bd=true)
  (hA:bf P n x (r6 (bf P n bd (RQ op Q ρ F H')) (fun _ _=>False)) (HZ ps.toList As ⟨F,H⟩)) (VM:jE H') (hF:Pb F H) (VP:Pb F H') :
  oE P l vs w1 fun t w2=>Good w2∧w1.heap.size≤w2.heap.size∧(∀b,K b->w2.heap[b]?=w1.heap[b]?) ∧
   (t=true->Fx op S0 w0 n tm fx r l we {state:=.ready,pending:=none,fn:=fn,tmps:=tm,params:=ps,assign:=x,body:=bd,defers:=r} ⟨F,H'⟩ O K w2) ∧
   (t=false-> ∃X c,Fx op S0 w0 n tm fx r l we {state:=.done,pending:=some c,fn:=fn,tmps:=tm,params:=ps,assign:=x,body:=bd,defers:=r} ⟨F,X⟩ O K w2∧Kd op Q ρ ⟨F,X⟩ c):=by
 obtain ⟨wb,φ,Z,h1,h2,h3,h4,h5,h6,h7,h8,h9,Kv,Jb,NY⟩:=hM.ex
 have own:∀id g,φ id=some g->Z.S g∧g<wb.heap.size:=fun id g hg=>⟨h1.new g (h1.cY id g hg).1.2,(h1.cY id g hg).2⟩
 have Ms:l<w1.heap.size:=by have:=hM.hl;omega
 have E1:¬lQ φ l:=fun ⟨id,hid⟩=>Kv (own id l hid).1
 have TZ:¬lQ φ r:=fun ⟨id,hid⟩=>Jb (own id r hid).1
 refine ⟨_,_,_,_,run_yield hM.HW (by simp [hl,←PW]),?_⟩
 refine roundIn_of_wpIn trivial ?_
 let Z1:bn:=⟨fun b=>(Z.S b∧b<wb.heap.size)∨w1.heap.size≤b∨K b,lQ φ,fx,[]⟩
 have E3:¬Z1.S l:=fun h=>by
  rcases h with h|h|h
  ·exact Kv h.1
  ·omega
  ·exact hM.Kl h
 have PT:¬Z1.S r:=fun h=>by
  rcases h with h|h|h
  ·exact Jb h.1
  ·have:=hM.hr;omega
  ·exact hM.Kr h
 have P4:∀b,(w1.heap.size≤b∨lQ φ b)->Z1.S b:=fun b hb=>hb.elim (fun h=>.inr (.inl h)) fun ⟨id,hid⟩=>.inl (own id b hid)
 have s1:aO Z1 w1 n [] ⟨F,H⟩ ⟨tm,[]⟩ w1 φ:=h1.q9 h4 (fun b hb dk=>h5 b hb dk) (fun b hb dk=>.inl ⟨hb,dk⟩) P4 (fun id g hg=>⟨id,hg⟩) (fun id g hg=>by
  rcases (h1.cY id g hg).1.1 with h|h
  ·exact .inl h
  ·right;show fx id=some g;rw [←h2];exact h) rfl rfl hM.kept.mP (fun b hb=>h1.sU hb)
 have s2:=w7 ps.toList vs As ⟨F,H⟩ ⟨tm,[]⟩ s1 hl PZ fun j v x hv hx=>.rep ((hd j v x hv hx).mono fun b hb=>⟨⟨hK b hb,by simp,h9 b hb,.inr (.inr hb)⟩,rfl⟩)
 have e0:((ps.zip vs.toArray).foldl (fun (t:Array Value) (p:Tmp×Value)=>t.setIfInBounds p.1 p.2) tm)=((ps.toList.zip vs).foldl (fun t p=>t.setIfInBounds p.1 p.2) tm):=by
  rw [←Array.foldl_toList];simp
 have hx:=hA Z1 w1 _ w1 ⟨φ,s2⟩
 have e1:({tmps:=((ps.zip vs.toArray).foldl (fun (t:Array Value) (p:Tmp×Value)=>t.setIfInBounds p.1 p.2) tm),defers:=[]}:Act)=⟨(ps.toList.zip vs).foldl (fun t p=>t.setIfInBounds p.1 p.2) tm,[]⟩:=by rw [e0]
 show x.wpIn (Fence.wide.inRound l) 0 P _ ({tmps:=((ps.zip vs.toArray).foldl (fun (t:Array Value) (p:Tmp×Value)=>t.setIfInBounds p.1 p.2) tm),defers:=[]}:Act) w1
 rw [e1]
 refine iy (ro:=some l) x _ _ _ Lv (by rintro ⟨_,_,h⟩;exact h) (er x _ _ (fun e a1 Ma ⟨s',hq,b7⟩=>?_) _ _ hx)
 cases e with
 | normal =>
  obtain ⟨S1,Wf,ms,hE,iI,gV⟩:=b7
  have k1:=hE.kept.trans gV.cZ hE.X
  have PS:=(k1.block l Ms E1).trans hM.HW
  refine ⟨_,run_beginRound PS rfl,?_⟩
  generalize OM:Ma.putObj l _=w2
  have Gd:w2.heap.size=Ma.heap.size:=by rw [←OM];exact World.putObj_size
  have Ha:∀b,b≠l->w2.heap[b]?=Ma.heap[b]?:=fun b hb=>by rw [←OM];exact World.putObj_heap_other hb
  have PR:w2.heap[l]?=some (.loop {state:=.busy,pending:=none,fn:=fn,tmps:=tm,params:=ps,assign:=x,body:=bd,defers:=r}):=by rw [←OM];exact World.putObj_heap_same (Nat.lt_of_lt_of_le Ms k1.size)
  have Pt:∀id g,iI id=some g->S1.S g∧g<Ma.heap.size:=fun id g hg=>⟨gV.new g (gV.cY id g hg).1.2,(gV.cY id g hg).2⟩
  have NR:∀b,S1.S b->b≠l:=fun b hb e=>E3 (hE.sub l (e ▸ hb))
  have Pm:∀id g,iI id=some g->w1.heap.size≤g∨lQ φ g:=fun id g hg=>by
   rcases (gV.cY id g hg).1.2 with h|h
   ·exact .inl (Nat.le_trans hE.kept.size h)
   ·exact hE.X g h
  let Z2:bn:=⟨fun b=>(S1.S b∧b<Ma.heap.size)∨w2.heap.size≤b,lQ iI,fx,a1.defers⟩
  have s3:aO Z2 w2 n [] s' a1 w2 iI:=gV.q9 ah (fun b hb _=>Ha b (NR b hb)) (fun b hb dk=>.inl ⟨hb,dk⟩) (fun b hb=>hb.elim .inr fun ⟨id,hid⟩=>.inl (Pt id b hid)) (fun id g hg=>⟨id,hg⟩) (fun id g hg=>by
   rcases (gV.cY id g hg).1.1 with h|h
   ·exact .inl h
   ·right;show fx id=some g;rw [hE.fix] at h;exact h) rfl rfl (gV.cZ.mP.aa fun b hb=>Ha b fun e=>hM.kept.sU (.inl hM.OI) (e ▸ hb)) (fun b hb=>gV.sU hb)
  have hb:=hq Z2 w2 a1 w2 ⟨iI,s3⟩
  refine iy (ro:=some l) bd _ _ _ Qn (by rintro ⟨_,_,h⟩;exact h) (er bd _ _ (fun e a3 w3 ⟨UC,Q9,Q7⟩=>?_) _ _ hb)
  obtain ⟨S3,Rz,Wu,NW,xD,Q7⟩:=Q7
  have k3:=NW.kept.trans Q7.cZ NW.X
  have Sd:¬lQ iI l:=fun ⟨id,hid⟩=>NR l (Pt id l hid).1 rfl
  have IL:=(k3.block l (by rw [Gd];exact Nat.lt_of_lt_of_le Ms k1.size) Sd).trans PR
  have Lh:w1.heap.size≤w3.heap.size:=Nat.le_trans k1.size (by rw [←Gd];exact k3.size)
  have Bw:∀b,b<w1.heap.size-> ¬lQ φ b->b≠l->w3.heap[b]?=w1.heap[b]?:=fun b dk hn cW =>
   (k3.block b (by rw [Gd];exact Nat.lt_of_lt_of_le dk k1.size) fun ⟨id,hid⟩=>(Pm id b hid).elim (fun h=>ah) hn).trans ((Ha b cW).trans (k1.block b dk hn))
  have IP:w2.os=Ma.os∧w2.tape=Ma.tape∧w2.output=Ma.output:=by rw [←OM];exact ⟨rfl,rfl,rfl⟩
  have SN:¬S3.S l:=fun h=>(NW.sub l h).elim (fun h=>NR l h.1 rfl) fun h=>by have:=k1.size;omega
  have SM:¬S3.S r:=fun h=>(NW.sub r h).elim (fun h=>PT (hE.sub r h.1)) fun h=>by have:=k1.size;have:=hM.hr;omega
  have next:∀(X:List (Nat×Row)) (pQ:Loop),bU UC ⟨[],X⟩->jE X->Pb F X->Fx op S0 w0 n tm fx r l we pQ ⟨F,X⟩ O K (w3.putObj l (.loop pQ))∧(∀b,K b->(w3.putObj l (.loop pQ)).heap[b]?=w1.heap[b]?):=by
   intro X pQ hw hX SZ
   obtain ⟨vR,Gf⟩:=hw S3 Rz n a3 w3 ⟨xD,Q7⟩
   exact Ig hM O3 hK h1 h2 h3 h4 h5 h6 h7 h8 h9 Kv Jb NY Gf NW.fix (fun id g hg=>by
    rcases (Gf.cY id g hg).1.2 with h|h
    ·left;have:=NW.kept.size;have:=k1.size;omega
    ·rcases NW.X g h with h|⟨j,hj⟩
     ·left;have:=k1.size;omega
     ·exact Pm j g hj) SN SM (k3.os.trans (IP.1.trans k1.os)) (k3.tape.trans (IP.2.1.trans k1.tape)) (k3.output.trans (IP.2.2.trans k1.output)) Lh Bw hX hF SZ
  cases e with
  | normal =>
   obtain ⟨g1,g2⟩:=next H' {state:=.ready,pending:=none,fn:=fn,tmps:=tm,params:=ps,assign:=x,body:=bd,defers:=r} Q9 VM VP
   exact ⟨_,_,run_endRound none IL,true,rfl,g1.kept.mP,by rw [World.putObj_size];exact Lh,g2,fun _=>g1,fun h=>(by cases h)⟩
  | exit id =>
   obtain ⟨X,s1,q1,q2,q3,q5,q4⟩:=Q9
   obtain ⟨g1,g2⟩:=next X {state:=.done,pending:=some (.exit id),fn:=fn,tmps:=tm,params:=ps,assign:=x,body:=bd,defers:=r} q3 q1 (qd q2)
   exact ⟨_,_,run_endRound (some (.exit id)) IL,false,rfl,g1.kept.mP,by rw [World.putObj_size];exact Lh,g2,fun h=>(by cases h),fun _=>⟨X,.exit id,g1,s1,q5,.inl ⟨id,rfl,q4⟩⟩⟩
  | ret =>
   obtain ⟨X,s1,q1,q2,q3,q5,q4⟩:=Q9
   obtain ⟨g1,g2⟩:=next X {state:=.done,pending:=some .ret,fn:=fn,tmps:=tm,params:=ps,assign:=x,body:=bd,defers:=r} q3 q1 (qd q2)
   exact ⟨_,_,run_endRound (some .ret) IL,false,rfl,g1.kept.mP,by rw [World.putObj_size];exact Lh,g2,fun h=>(by cases h),fun _=>⟨X,.ret,g1,s1,q5,.inr ⟨rfl,q4⟩⟩⟩
  | _=>exact Q9.elim
 | _=>exact hq.elim
theorem EL {rc:Loop} {s s1:AS} {O K:Nat->Prop} {w':World} {a a':Act} (hM:Fx op S0 w0 n a.tmps fx r l we rc s O K w') (Ni :nC ρ =true) (Vq:∀i,i ∉ ρ.map (·.2)->fx i=S0.fix i) (R8:w0.heap.size≤r) (ht:a'.tmps=a.tmps) (hd:a'.defers=mark r::S0.sG) (gF:Eg op s s1) (pQ:Loop) :
  ni S0 w0 n (lu ρ s1) a' (w'.putObj l (.loop pQ)):=by
 obtain ⟨wb,φ,Z,h1,h2,h3,h4,h5,h6,h7,h8,h9,Kv,Jb,NY⟩:=hM.ex
 obtain ⟨cA,u1,u2,u3⟩:=Ak ρ _ _ Ni (gF _ _ _ _ _ _ h1 NY)
 have Ms:l<w'.heap.size:=by have:=hM.hl;omega
 have dw:(w'.putObj l (.loop pQ)).heap.size=w'.heap.size:=World.putObj_size
 have ho:∀b,b≠l->(w'.putObj l (.loop pQ)).heap[b]?=w'.heap[b]?:=fun b hb=>World.putObj_heap_other hb
 have own:∀id g,cA id=some g->Z.S g∧g<wb.heap.size:=fun id g hg=>⟨u1.new g (u1.cY id g hg).1.2,(u1.cY id g hg).2⟩
 let S1:bn:=⟨fun b=>(Z.S b∧b<wb.heap.size)∨w'.heap.size≤b,lQ cA,S0.fix,mark r::S0.sG⟩
 have hs:aO S1 (w'.putObj l (.loop pQ)) n [] (lu ρ s1) a' (w'.putObj l (.loop pQ)) cA:=u1.q9 (by rw [dw];exact h4) (fun b hb dk=>(ho b fun e=>Kv (e ▸ hb)).trans (h5 b hb dk)) (fun b hb dk=>.inl ⟨hb,dk⟩) (fun b hb=>by
   rcases hb with h|⟨id,hid⟩
   ·right;rw [dw] at h;exact h
   ·exact .inl (own id b hid)) (fun id g hg=>⟨id,hg⟩) (fun id g hg=>by
  rcases Nat.lt_or_ge id 1000000000000 with h|h
  ·exact .inl h
  ·right
   rcases (u1.cY id g hg).1.1 with h'|h'
   ·omega
   ·show S0.fix id=some g
    have fM:id ∉ ρ.map (·.2):=fun hm=>(by rw [u3 id h (.inl hm)] at hg;cases hg)
    rw [←Vq id fM,←h2];exact h') ht hd (hM.kept.mP.aa fun b hb=>ho b fun e=>hM.kept.sU (.inl hM.OI) (e ▸ hb)) (fun b hb=>u1.sU hb)
 refine ⟨S1,w'.putObj l (.loop pQ),[r],⟨⟨hM.kept.os,hM.kept.tape,hM.kept.output,by rw [dw];exact hM.kept.size,fun k hk hx=>(ho k fun e=>by have:=hM.OI;omega).trans (hM.kept.block k hk hx),hM.kept.g0,hM.kept.gx⟩,fun b hb=>?_,fun b ⟨id,hid⟩=>?_,rfl,rfl,by simp,fun r' iq=>?_⟩,cA,hs⟩
 ·rcases hb with h|h
  ·exact h6 b h.1 h.2
  ·exact hM.K3 b (Nat.le_trans hM.kept.size h)
 ·obtain ⟨j,hj⟩:=u2 id b hid
  exact h7 j b hj
 ·obtain rfl:r'=r:=by simpa using iq
  refine ⟨R8,by rw [dw];have:=hM.hr;omega,(ho _ hM.rl).trans hM.jV,fun h=>?_,fun ⟨id,hid⟩=>Jb (own id _ hid).1⟩
  rcases h with h|h
  ·exact Jb h.1
  ·have:=hM.hr;omega
theorem bf.range {c:Code} {s:AS} {g:Operand} {ps:Array Tmp} {x bd:Code} (hc:M9 c=some (g,ps,x,bd)) {f:Nat} {lN:List AV} (A:Nat->List AV) (N:Nat) (hit:xC P f lN A N) (hE:ig P f=true) (Lv:kZ x=true) (Qn:kZ bd=true)
  (ρ :List (Nat×Nat)) (Ni :nC ρ =true) (xs:List AV) (F:List (Nat×AV)) (I:List Value->Nat->List (Nat×Row)) (sN:AS)
  (hw:∀Z w0 a w φ,aO Z w0 n [] (KY ρ s) a w φ-> ∃ j9 vs,vs.length=xs.length∧aO Z w0 n [] ⟨F,I vs 0⟩ a w j9∧ ∀p∈vs.zip xs,cB (aQ Z w j9 []) w p.1 p.2) (hg:∀vs,vs.length=xs.length->bp ⟨F,I vs 0⟩ g= .kX f lN) (PW:∀i,ps.toList.length=(A i).length) (PZ:(ps.toList.all fun p=>Nat.blt p n)=true)
  (hI:∀vs i,vs.length=xs.length->i≤N->jE (I vs i)∧CR (I vs i) F=true) (pz:∀vs i,vs.length=xs.length->i<N->bf P n x (r6 (bf P n bd (RQ (vs.zip xs) Q ρ F (I vs (i+1)))) (fun _ _=>False)) (HZ ps.toList (A i) ⟨F,I vs i⟩)) (gF:∀vs,vs.length=xs.length->Eg (vs.zip xs) ⟨F,I vs N⟩ sN) (ND:Q .normal (lu ρ sN)):bf P n c Q s:=by
 cases c with
 | rangeFunc g' Wt x' WY =>
  cases hc
  intro S0 w0 a w ⟨φ,hs⟩
  show (Code.rangeFunc g ps x bd).wp P _ a w
  refine wpIn_wide.1 (wpIn_rangeFunc (n:=0) fun fn _=>?_)
  obtain ⟨fx,iI,P2,OO,-⟩:=H4 ρ s S0 φ Ni hs
  obtain ⟨j9,us,z6,ng,vL⟩:=hw _ _ _ _ _ P2
  have dg:=ng.bp g
  rw [hg us z6] at dg
  obtain ⟨cv,hv,E3,Bq⟩:=EC dg
  generalize OL:(w.alloc (.deferred (some []))).alloc (.loop {state:=.ready,pending:=none,fn:=fn,tmps:=a.tmps,params:=ps,assign:=x,body:=bd,defers:=w.heap.size})=we
  have dw:we.heap.size=w.heap.size+2:=by rw [←OL];simp
  have hold:∀b,b<w.heap.size->we.heap[b]?=w.heap[b]?:=fun b hb=>by
   rw [←OL,Below.heap_alloc _ _ _ (by simp;omega),Below.heap_alloc _ _ _ hb]
  have TZ:we.heap[w.heap.size]?=some (.deferred (some [])):=by rw [←OL,Below.heap_alloc _ _ _ (by simp)];exact World.alloc_heap_new w _
  have E1:we.heap[w.heap.size+1]?=some (.loop {state:=.ready,pending:=none,fn:=fn,tmps:=a.tmps,params:=ps,assign:=x,body:=bd,defers:=w.heap.size}):=by
   rw [←OL]
   have:=World.alloc_heap_new (w.alloc (.deferred (some []))) (.loop {state:=.ready,pending:=none,fn:=fn,tmps:=a.tmps,params:=ps,assign:=x,body:=bd,defers:=w.heap.size})
   rw [World.size_alloc] at this;exact this
  have RX:we.os=w.os∧we.tape=w.tape∧we.output=w.output:=by rw [←OL];exact ⟨rfl,rfl,rfl⟩
  refine ⟨w.heap.size+1,[mark w.heap.size],we,{target:=.fn (.func f) cv.toArray,args:= #[.func (.yield (w.heap.size+1)) #[] #[]]},we,f,(Value.func (.yield (w.heap.size+1)) #[] #[]::cv).toArray,we,?_,?_,fun _ _=>trivial,?_,fun h=>by simp [Fence.wide] at h,?_⟩
  ·rw [←OL];exact run_enterLoop_outer fn a.tmps ps x bd
  ·have ec:a.eval (.const (Value.func (.yield (w.heap.size+1)) #[] #[]))=Value.func (.yield (w.heap.size+1)) #[] #[]:=rfl
   unfold resolve;simp [hv,ec,Deferred.ofValue]
  ·have e:(Value.func (.yield (w.heap.size+1)) #[] #[]::cv).toArray= #[Value.func (.yield (w.heap.size+1)) #[] #[]]++cv.toArray:=by apply Array.ext';simp
   rw [e]
   exact pv hE _ _
  ·refine callsIn_wide.2 ?_
   have vN:w0.heap.size≤w.heap.size:=ng.cZ.size
   have RE:∀id g,j9 id=some g->S0.S g∧g<w.heap.size:=fun id g hg=>⟨ng.new g (ng.cY id g hg).1.2,(ng.cY id g hg).2⟩
   let Z:bn:=⟨fun b=>(S0.S b∧b<w.heap.size)∨we.heap.size≤b,lQ j9,fx,[]⟩
   have hZ:aO Z we n [] ⟨F,I us 0⟩ ⟨a.tmps,[]⟩ we j9:=ng.q9 ah (fun b _ dk=>hold b dk) (fun b hb dk=>.inl ⟨hb,dk⟩) (fun b hb=>hb.elim .inr fun ⟨id,hid⟩=>.inl (RE id b hid)) (fun id g hg=>⟨id,hg⟩) (fun id g hg=>(ng.cY id g hg).1.1) rfl rfl (ng.cZ.mP.aa fun b hb=>hold b (ng.cZ.mP.lt hb)) (fun b hb=>ng.sU hb)
   have VJ:Fx (us.zip xs) S0 w0 n a.tmps fx w.heap.size (w.heap.size+1) we {state:=.ready,pending:=none,fn:=fn,tmps:=a.tmps,params:=ps,assign:=x,body:=bd,defers:=w.heap.size} ⟨F,I us 0⟩ (fun _=>False) (aQ ⟨S0.S,S0.X,fx,S0.sG⟩ w j9 []) we:=by
    refine ⟨⟨we,j9,Z,hZ,rfl,Nat.le_refl _,Nat.le_refl _,fun _ _ _=>rfl,fun b hb dk=>?_,fun id g hg=>(ng.cY id g hg).1.2,fun _ h=>h.elim,fun b hb=>hb.2.2.1,fun h=>?_,fun h=>?_,fun p hp=>(vL p hp).mono fun b hb=>⟨⟨by rw [dw];have:=hb.1;omega,by simp,hb.2.2.1,.inl ⟨hb.2.2.2,hb.1⟩⟩,hold b hb.1⟩⟩,?_,ah,fun _ h=>h.elim,ah,ah,fun h=>?_,E1,fun b hb=>ng.new b (.inl hb),ah,ah,fun h=>?_,TZ⟩
    ·rcases hb with h|h
     ·exact h.1
     ·omega
    ·rcases h with h|h<;>omega
    ·rcases h with h|h<;>omega
    ·exact ⟨RX.1.trans ng.cZ.os,RX.2.1.trans ng.cZ.tape,RX.2.2.trans ng.cZ.output,ah,fun k hk hx=>(hold k ah).trans (ng.cZ.block k hk hx),ng.cZ.g0,ng.cZ.gx⟩
    ·have:=h.1;omega
    ·have:=h.1;omega
   have m9:=hit (w.heap.size+1) we (aQ ⟨S0.S,S0.X,fx,S0.sG⟩ w j9 []) cv
    (fun i=>Fx (us.zip xs) S0 w0 n a.tmps fx w.heap.size (w.heap.size+1) we {state:=.ready,pending:=none,fn:=fn,tmps:=a.tmps,params:=ps,assign:=x,body:=bd,defers:=w.heap.size} ⟨F,I us i⟩)
    (fun O K w'=>∃X c,Fx (us.zip xs) S0 w0 n a.tmps fx w.heap.size (w.heap.size+1) we {state:=.done,pending:=some c,fn:=fn,tmps:=a.tmps,params:=ps,assign:=x,body:=bd,defers:=w.heap.size} ⟨F,X⟩ O K w'∧Kd (us.zip xs) Q ρ ⟨F,X⟩ c)
    hZ.cZ.mP (fun b hb=>by have:=hb.1;omega) E3 (fun j v c hv hc=>(Bq j v c hv hc).mono fun b hb=>⟨hb,hold b hb.1⟩) (fun i=>Fx.Hx)
    (fun O K w' O' K' fy ⟨X,c,hX,hc⟩ st h1 h2=>⟨X,c,Fx.Hx O K w' O' K' fy hX st h1 h2,hc⟩)
    (fun i hi O K w1 vs hJ O3 hK hl hd=>FZ hJ O3 hK hl hd (PW i) (fun p hp=>Nat.le_of_ble_eq_true (List.all_eq_true.1 PZ p hp)) Lv Qn (pz us i z6 hi) (hI us (i+1) z6 hi).1 (qd (hI us i z6 (Nat.le_of_lt hi)).2) (qd (hI us (i+1) z6 hi).2)) VJ
   refine m9.mono fun e w' ⟨v,O,K,he,tn⟩=>?_
   subst he
   rcases tn with hM|⟨X,c,hM,s1,Uc,hj⟩
   ·exact ⟨_,_,run_endLoop hM.HW (by simp),_,ND,EL (a:=a) (a':={a with defers:=[mark w.heap.size]++a.defers}) hM Ni OO vN rfl (by show mark w.heap.size::a.defers=_;rw [hs.jV]) (gF us z6) _⟩
   ·refine ⟨_,_,run_endLoop hM.HW (by simp),?_⟩
    have kk:=EL (a:=a) (a':={a with defers:=[mark w.heap.size]++a.defers}) hM Ni OO vN rfl (by show mark w.heap.size::a.defers=_;rw [hs.jV]) Uc
    rcases hj with ⟨id,rfl,hq⟩|⟨rfl,hq⟩
    ·exact wpIn_exit ⟨_,hq,kk _⟩
    ·exact wpIn_ret ⟨_,hq,kk _⟩
 | _=>cases hc
end
def It (n:Nat) (J:(Nat->Prop)->(Nat->Prop)->World->Prop) (s:AS) (a:Act) (w:World):Prop :=
 ∃(wb:World) (Z:bn) (φ:Nat->Option Nat) (ms:List Nat),aO Z wb n [] s a w φ∧Z.sG=ms.map mark∧ms.Nodup∧(∀r∈ms,r<w.heap.size∧w.heap[r]?=some (.deferred (some []))∧ ¬Z.S r)∧J (fun b=>lQ φ b∨b∈ms) (fun b=>(Z.S b∨b∈ms)∧b<w.heap.size) w
section
variable {P:Program} {n:Nat} {J:(Nat->Prop)->(Nat->Prop)->World->Prop} {s s':AS} {a:Act} {w:World} {Q:Exit->Act->World->Prop}
theorem It.begin (h:It n J s a w) (hJ:jW J):∃Z:bn,ix Z w n s a w∧ ∀(s':AS) (a':Act) (w':World),ni Z w n s' a' w'->It n J s' a' w':=by
 obtain ⟨wb,Z,φ,ms,h1,h2,h3,h4,h5⟩:=h
 have own:∀id g,φ id=some g->Z.S g∧g<w.heap.size:=fun id g hg=>⟨h1.new g (h1.cY id g hg).1.2,(h1.cY id g hg).2⟩
 let Z':bn:=⟨fun b=>(Z.S b∧b<w.heap.size)∨w.heap.size≤b,lQ φ,φ,Z.sG⟩
 have hs:aO Z' w n [] s a w φ:=h1.q9 (Nat.le_refl _) (fun _ _ _=>rfl) (fun b hb dk=>.inl ⟨hb,dk⟩) (fun b hb=>hb.elim .inr fun ⟨id,hid⟩=>.inl (own id b hid)) (fun id g hg=>⟨id,hg⟩) (fun id g hg=>.inr hg) rfl h1.jV h1.cZ.mP (fun b hb=>h1.sU hb)
 refine ⟨Z',⟨φ,hs⟩,fun s' a' w' ⟨S1,w1,Q0,hE,cA,b7⟩=>?_⟩
 have k:=hE.kept.trans b7.cZ hE.X
 have Va:∀r∈ms,¬lQ φ r:=fun r hr ⟨id,hid⟩=>(h4 r hr).2.2 (own id r hid).1
 refine ⟨w1,S1,cA,Q0++ms,b7,by rw [hE.sG,List.map_append];exact congrArg _ h2,?_,fun r hr=>?_,hJ _ _ _ _ _ _ h5 ⟨k.os,k.tape,k.output,k.size,fun b hb hn=>k.block b hb fun h=>hn (.inl h)⟩ (fun b hb=>?_) fun b hb=>?_⟩
 ·rw [List.nodup_append]
  refine ⟨hE.nodup,h3,fun r hr r' iq e=>?_⟩
  subst e
  have:=(hE.marks r hr).1
  have:=(h4 r iq).1
  omega
 ·rcases List.mem_append.1 hr with hr|hr
  ·obtain ⟨u1,u2,u3,u4,u5⟩:=hE.marks r hr
   exact ⟨Nat.lt_of_lt_of_le u2 b7.cZ.size,(b7.cZ.block r u2 u5).trans u3,u4⟩
  ·obtain ⟨u1,u2,u3⟩:=h4 r hr
   refine ⟨Nat.lt_of_lt_of_le u1 k.size,(k.block r u1 (Va r hr)).trans u2,fun h=>?_⟩
   rcases hE.sub r h with h|h
   ·exact u3 h.1
   ·omega
 ·rcases hb with ⟨id,hid⟩|hb
  ·rcases (b7.cY id b hid).1.2 with h|h
   ·right;have:=hE.kept.size;omega
   ·exact (hE.X b h).elim .inr fun h=>.inl (.inl h)
  ·rcases List.mem_append.1 hb with hb|hb
   ·exact .inr (hE.marks b hb).1
   ·exact .inl (.inr hb)
 ·obtain ⟨hb,dk⟩:=hb
  rcases hb with hb|hb
  ·rcases hE.sub b hb with h|h
   ·exact .inl ⟨.inl h.1,h.2⟩
   ·exact .inr h
  ·rcases List.mem_append.1 hb with hb|hb
   ·exact .inr (hE.marks b hb).1
   ·exact .inl ⟨.inr hb,(h4 b hb).1⟩
theorem It.Tw {c:Code} {Qs:Exit->AS->Prop} (h:It n J s a w) (hJ:jW J) (hc:bf P n c Qs s):Cr P c (fun e a' w'=>∃s',Qs e s'∧It n J s' a' w') a w:=by
 obtain ⟨Z,hs,BA⟩:=h.begin hJ
 exact er _ _ _ (fun e a' w' ⟨s',hq,b7⟩=>⟨s',hq,BA s' a' w' b7⟩) _ _ (hc Z w a w hs)
theorem It.o7 (h:It n J s a w) (hJ:jW J) (hw:bU s s'):It n J s' a w:=by
 obtain ⟨Z,hs,BA⟩:=h.begin hJ
 exact BA _ _ _ (hw _ _ _ _ _ hs).one
theorem It.ops {ops:List Oper} {hs:List (Nat×Hint)} {l:List Oper} {i:Nat} {C:List Prop} (h:It n J s a w) (hJ:jW J) (he:j8 P n ops hs l i s=some (s',C)) (hC:bz C) (hQ:∀a' w',It n J s' a' w'->Q .normal a' w'):wpList P ops.toArray Q l a w:=by
 obtain ⟨Z,hs,BA⟩:=h.begin hJ
 exact jQ (S0:=Z) (w0:=w) _ _ _ _ _ he hC a w hs fun a' w' b7=>hQ a' w' (BA _ _ _ b7.one)
theorem fj {F:Fence} {m:Nat} {ops:Array Oper}:∀(l1 l2:List Oper) (a:Act) (w:World),wpListIn F m P ops (Exit.then (wpListIn F m P ops Q l2) Q) l1 a w->wpListIn F m P ops Q (l1++l2) a w
 | [],l2,a,w,h=>h
 | o::l1,l2,a,w,h=>by
  rw [List.cons_append]
  unfold wpListIn at h ⊢
  split at h
  ·rename_i hw
   rw [if_pos hw]
   refine ⟨h.1,?_⟩
   have h2:=h.2
   generalize (o.semAt F.round a.eval).run P w=r at *
   cases r with
   | ok x w'=>cases x with
    | value v=>exact fj l1 l2 _ _ h2
    | skip=>exact fj l1 l2 _ _ h2
    | defer d=>exact fj l1 l2 _ _ h2
    | enter f args=>exact ⟨h2.1,CallsIn.mono h2.2 fun e fy he=>by cases e<;>first|exact fj l1 l2 _ _ he|exact he⟩
    | row row args=>exact ⟨h2.1,RowsIn.mono h2.2 fun v fy he=>fj l1 l2 _ _ he⟩
    | round l' f tmps x b=>exact ⟨h2.1,RoundIn.mono h2.2 fun e fy he=>by cases e<;>first|exact fj l1 l2 _ _ he|exact he⟩
    | _=>exact h2
   | halt x w'=>cases x<;>exact h2
  ·rename_i hw
   rw [if_neg hw]
   exact ⟨h.1,fj l1 l2 _ _ h.2⟩
theorem Hk {id d:Nat} {l1 l2:List Oper} {o:Oper} {y:Operand} {xs:Array Operand} {ts:Array TypeId} {full:List Oper} (I5:full=l1++o::l2) (ho:o.op= .call ⟨.value y,xs,ts⟩) (hg:o.guard=none) (hd:o.dst=some d) (hQ:¬LetsOut Q) (h1:l1.all kj=true) (h2:l2.all kj=true)
  (h:wpList P full.toArray (Exit.then (fun a1 w1=>∃l,a1.eval y= .func (.yield l) #[] #[]∧oE P l (xs.toList.map a1.eval) w1 fun t w2=>wpList P full.toArray Q l2 (a1.put (some d) (.bool t)) w2) Q) l1 a w):(Code.region id full.toArray false).wp P Q a w:=by
 refine (wpIn_wide (n:=0)).1 (wpIn_region_lit ?_)
 have e:wpListIn Fence.wide 0 P full.toArray Q full=wpListIn Fence.wide 0 P full.toArray Q (l1++o::l2):=by rw [←I5]
 rw [e]
 refine fj l1 _ a w (list_round (ro:=none) (by rintro ⟨_,_,h⟩;exact hQ ⟨_,_,h⟩) l1 h1 a w (j_ (lV (fun a1 w1 ⟨l,hy,fn,tmps,x,bd,hr,pz⟩=>?_) fun _ _ _ h=>h) l1 a w h))
 have hw:Region.wanted o (yielded full.toArray a1.tmps)=true:=by unfold Region.wanted;rw [hg]
 unfold wpListIn
 rw [if_pos hw]
 refine ⟨fun _ _=>trivial,?_⟩
 have cw:(o.semAt Fence.wide.round a1.eval).run P w1= .ok (.round l fn tmps x bd) w1:=by
  rw [Oper.semAt_eq _ _ _ (by intro c e;rw [ho] at e;cases e)]
  have e:xs.map a1.eval=(xs.toList.map a1.eval).toArray:=by apply Array.ext';simp
  unfold execOp
  simp [ho,resolve,hy,Deferred.ofValue,invoke]
  rw [e];simpa using hr
 rw [cw]
 refine ⟨fun h=>by simp [Fence.wide] at h,RoundIn.mono pz fun e w2 ⟨t,he,ht⟩=>?_⟩
 subst he
 rw [hd]
 exact list_round (ro:=none) hQ l2 h2 _ _ ht
theorem It.yield {A:Nat->List AV} {N:Nat} {J:Nat->(Nat->Prop)->(Nat->Prop)->World->Prop} {X:(Nat->Prop)->(Nat->Prop)->World->Prop} {l i d:Nat} {xs:List Operand} {s1:AS} (hJ:∀i,jW (J i)) (hX:jW X) (hd:d<n)
  (hy:∀i,i<N-> ∀(O K:Nat->Prop) (w1:World) (vs:List Value),J i O K w1->(∀b,O b->K b)->(∀b,K b->b<w1.heap.size)->vs.length=(A i).length->(∀(j:Nat) v x,vs[j]?=some v->(A i)[j]?=some x->cB K w1 v x) ->
   oE P l vs w1 fun t w2=>Good w2∧w1.heap.size≤w2.heap.size∧(∀b,K b->w2.heap[b]?=w1.heap[b]?)∧(t=true->J (i+1) O K w2)∧(t=false->X O K w2))
  (h:It n (J i) s a w) (hi:i<N) (IH:fT s ((xs.map (bp s)).flatMap oI)=some s1) (wa:lE (xs.map (bp s1))=true) (hA:xs.map (bp s1)=A i) (T:Bool->World->Prop)
  (h1:∀w2,It n (J (i+1)) (lx s d (ao true)) (a.put (some d) (.bool true)) w2->T true w2) (h2:∀w2,It n X (lx s d (ao false)) (a.put (some d) (.bool false)) w2->T false w2) :
  oE P l (xs.map a.eval) w T:=by
 obtain ⟨wb,Z,φ,ms,k1,k2,k3,k4,k5⟩:=h
 obtain ⟨iI,gV⟩:=fS _ _ _ _ IH k1
 have own:∀id g,φ id=some g->Z.S g∧g<w.heap.size:=fun id g hg=>⟨k1.new g (k1.cY id g hg).1.2,(k1.cY id g hg).2⟩
 have pz:=hy i hi (fun b=>lQ φ b∨b∈ms) (fun b=>(Z.S b∨b∈ms)∧b<w.heap.size) w (xs.map a.eval) k5 (fun b hb=>hb.elim (fun ⟨id,hid⟩=>⟨.inl (own id b hid).1,(own id b hid).2⟩) fun hb=>⟨.inr hb,(k4 b hb).1⟩) (fun b hb=>hb.2) (by rw [←hA];simp)
  (fun j v x hv hx=>(mz gV wa j v x hv (by rw [hA];exact hx)).mono fun b hb=>⟨⟨.inl hb.2.2.2,hb.1⟩,rfl⟩)
 obtain ⟨fn,tmps,x,bd,hr,vN⟩:=pz
 refine ⟨fn,tmps,x,bd,hr,RoundIn.mono vN fun e w2 ⟨t,he,Sv,dw,hk,ht,hf⟩=>⟨t,he,?_⟩⟩
 let Z2:bn:=⟨fun b=>(Z.S b∧b<w.heap.size)∨w2.heap.size≤b,lQ φ,φ,Z.sG⟩
 have ng:aO Z2 w2 n [] s a w2 φ:=k1.q9 dw (fun b hb dk=>hk b ⟨.inl hb,dk⟩) (fun b hb dk=>.inl ⟨hb,dk⟩) (fun b hb=>hb.elim .inr fun ⟨id,hid⟩=>.inl (own id b hid)) (fun id g hg=>⟨id,hg⟩) (fun id g hg=>.inr hg) rfl k1.jV Sv (fun b hb=>k1.sU hb)
 have hK:∀b,((Z2.S b∨b∈ms)∧b<w2.heap.size)->((Z.S b∨b∈ms)∧b<w.heap.size)∨w2.heap.size≤b:=fun b ⟨hb,dk⟩=>by
  rcases hb with (hb|hb)|hb
  ·exact .inl ⟨.inl hb.1,hb.2⟩
  ·exact .inr hb
  ·exact .inl ⟨.inr hb,(k4 b hb).1⟩
 have hm:∀r∈ms,r<w2.heap.size∧w2.heap[r]?=some (.deferred (some []))∧ ¬Z2.S r:=fun r hr=>by
  obtain ⟨u1,u2,u3⟩:=k4 r hr
  refine ⟨ah,(hk r ⟨.inr hr,u1⟩).trans u2,fun h=>?_⟩
  rcases h with h|h
  ·exact u3 h.1
  ·omega
 have dC:Kc (fun b=>lQ φ b∨b∈ms) w2 w2:=⟨rfl,rfl,rfl,Nat.le_refl _,fun _ _ _=>rfl⟩
 cases t with
 | true=>exact h1 w2 ⟨w2,Z2,φ,ms,ng.put hd (.rep (.val _)),k2,k3,hm,hJ (i+1) _ _ _ _ _ _ (ht rfl) dC (fun b hb=>.inl hb) hK⟩
 | false=>exact h2 w2 ⟨w2,Z2,φ,ms,ng.put hd (.rep (.val _)),k2,k3,hm,hX _ _ _ _ _ _ (hf rfl) dC (fun b hb=>.inl hb) hK⟩
end
theorem xC.qe {P:Program} {f:FuncId} {fn:Func} {c:Code} {lN:List AV} {A:Nat->List AV} {N n:Nat} (hf:P.funcs[f]?=some fn) (hb:fn.body=some c) (hn:fn.ntmps=n) (IK:fn.results= #[]) (Ub:lN.length+1≤n)
  (h:∀(l:Nat) (J:Nat->(Nat->Prop)->(Nat->Prop)->World->Prop) (X:(Nat->Prop)->(Nat->Prop)->World->Prop),(∀i,jW (J i))->jW X ->
   (∀i,i<N-> ∀(O K:Nat->Prop) (w1:World) (vs:List Value),J i O K w1->(∀b,O b->K b)->(∀b,K b->b<w1.heap.size)->vs.length=(A i).length->(∀(j:Nat) v x,vs[j]?=some v->(A i)[j]?=some x->cB K w1 v x) ->
    oE P l vs w1 fun t w2=>Good w2∧w1.heap.size≤w2.heap.size∧(∀b,K b->w2.heap[b]?=w1.heap[b]?)∧(t=true->J (i+1) O K w2)∧(t=false->X O K w2)) ->
   ∀(a:Act) (w:World),It n (J 0) ⟨k7 0 (AV.val (.func (.yield l) #[] #[])::lN),[]⟩ a w->c.wp P (fun e a' w'=>(e= .normal∨e= .ret)∧ ∃s',It n (J N) s' a' w'∨It n X s' a' w') a w):xC P f lN A N:=by
 intro l w S cv J X j7 hS gF Vx hJ hX hy h0
 refine callsIn_wide.1 (callsIn_of_wp_marks (F:=Fence.wide) (n:=0) hf hb trivial ?_)
 have iE:∀(j:Nat) v x,(Value.func (.yield l) #[] #[]::cv)[j]?=some v->(AV.val (.func (.yield l) #[] #[])::lN)[j]?=some x->cB S w v x:=by
  intro j v x hv hx
  cases j with
  | zero=>simp at hv hx;subst hv;subst hx;exact .val _
  | succ j=>exact Vx j v x (by simpa using hv) (by simpa using hx)
 let Z:bn:=⟨fun b=>S b∨w.heap.size≤b,fun _=>False,fun _=>none,[]⟩
 have MA:aO Z w n [] ⟨k7 0 (AV.val (.func (.yield l) #[] #[])::lN),[]⟩ {tmps:=(Value.func (.yield l) #[] #[]::cv).toArray++Array.replicate (fn.ntmps-(Value.func (.yield l) #[] #[]::cv).toArray.size) undef,defers:=[]} w (fun _=>none):=by
  refine ⟨by simp;omega,rfl,⟨rfl,rfl,rfl,Nat.le_refl _,fun _ _ _=>rfl,j7,fun _ _ h=>h⟩,fun i av hi=>?_,fun id r hr=>(by cases hr),fun _ _=>rfl,fun _ _ _ h=>(by cases h),fun _ _ h=>(by cases h),fun _ _ h=>(by cases h),fun b hb=>Or.inr (hb.elim id fun h=>h.elim)⟩
  obtain ⟨k,rfl,hk⟩:=mG _ 0 i av hi
  generalize EV:(Value.func (.yield l) #[] #[]::cv)=vs at *
  have OS:vs.length=lN.length+1:=by rw [←EV];simp [gF]
  have iH:k<vs.length:=by have:=(List.getElem?_eq_some_iff.1 hk).1;simp at this;omega
  have hv:vs[k]?=some vs[k]:=List.getElem?_eq_getElem iH
  have e:(vs.toArray++Array.replicate (fn.ntmps-vs.toArray.size) undef).getD (0+k) undef=vs[k]:=by
   rw [Nat.zero_add,Array.getD_eq_getD_getElem?,Array.getElem?_append_left (by simpa using iH)]
   simp [iH]
  simp only [e]
  exact .rep ((iE k vs[k] av hv hk).mono fun b hb=>⟨⟨hS b hb,by simp,fun _ h=>(by cases h),Or.inl hb⟩,rfl⟩)
 have hit:It n (J 0) ⟨k7 0 (AV.val (.func (.yield l) #[] #[])::lN),[]⟩ {tmps:=(Value.func (.yield l) #[] #[]::cv).toArray++Array.replicate (fn.ntmps-(Value.func (.yield l) #[] #[]::cv).toArray.size) undef,defers:=[]} w :=
  ⟨w,Z,fun _=>none,[],MA,rfl,List.nodup_nil,fun _ h=>(by cases h),hJ 0 _ _ _ _ _ _ h0 ⟨rfl,rfl,rfl,Nat.le_refl _,fun _ _ _=>rfl⟩ (fun b hb=>hb.elim (fun ⟨_,h⟩=>(by cases h)) fun h=>(by cases h)) fun b ⟨hb,dk⟩=>hb.elim (fun hb=>hb) fun h=>(by cases h)⟩
 refine wpIn_wide.2 (wp_mono (h l J X hJ hX hy _ w hit) fun e a' w' ⟨he,s',tn⟩=>?_)
 have fin:∀(J':(Nat->Prop)->(Nat->Prop)->World->Prop),jW J'->(∀O K fy,J' O K fy-> ∃O K,J N O K fy∨X O K fy)->It n J' s' a' w'->LeavesInM Fence.wide 0 P fn a'.tmps (fun e w'=>∃v O K,e= .returned v∧(J N O K w'∨X O K w')) a'.defers .returning w':=by
  intro J' NT Kp ⟨wb,Z1,φ,ms,k1,k2,k3,k4,k5⟩
  have NL:a'.defers=ms.map mark:=by rw [k1.jV,k2]
  rw [NL]
  refine mJ ms w' k3 (fun r hr=>(k4 r hr).2.1) (fun fy h1 h2 h3 h4 h5=>?_)
  obtain ⟨O,K,tn⟩:=Kp _ _ _ (NT (fun b=>lQ φ b∨b∈ms) _ w' (fun b=>lQ φ b∨b∈ms) (fun b=>(Z1.S b∨b∈ms)∧b<w'.heap.size) fy k5 ⟨h1,h2,h3,ah,fun b hb hn=>h5 b fun hm=>hn (.inr hm)⟩ (fun b hb=>.inl hb) fun b hb=>.inl hb)
  exact ⟨.tuple #[],by simp [results,IK],.tuple #[],O,K,rfl,tn⟩
 have Td:LeavesInM Fence.wide 0 P fn a'.tmps (fun e w'=>∃v O K,e= .returned v∧(J N O K w'∨X O K w')) a'.defers .returning w':=by
  rcases tn with tn|tn
  ·exact fin _ (hJ N) (fun O K fy h=>⟨O,K,.inl h⟩) tn
  ·exact fin _ hX (fun O K fy h=>⟨O,K,.inr h⟩) tn
 rcases he with rfl|rfl<;>exact Td
theorem bU.LX {s:AS} (id j new e:Nat) {r:Row} (hr:look s.H id=some r) (hp:r.pure=false) (hj:r.cells[j]?=some .nil) (hn:look s.H new=none):bU s ⟨s.F,(new,⟨e,true,false,[]⟩)::(id,⟨r.e,false,r.full,r.cells.set j (.ref new)⟩)::cP s.H id⟩:=by
 intro S0 w0 n a w ⟨φ,hs⟩
 have cW:id≠new:=fun h=>by rw [h,hn] at hr;cases hr
 have ct:φ new=none:=hs.only new hn
 have lH:∀i,look ((new,(⟨e,true,false,[]⟩:Row))::(id,(⟨r.e,false,r.full,r.cells.set j (.ref new)⟩:Row))::cP s.H id) i=if new=i then some ⟨e,true,false,[]⟩ else if id=i then some ⟨r.e,false,r.full,r.cells.set j (.ref new)⟩ else look s.H i:=by
  intro i
  rw [aF,aF,bJ]
  by_cases e1:new=i<;>by_cases e2:id=i<;>simp [e1,e2]
 have hI:∀i x,az s.H φ i=some x->az ((new,(⟨e,true,false,[]⟩:Row))::(id,(⟨r.e,false,r.full,r.cells.set j (.ref new)⟩:Row))::cP s.H id) φ i=some x:=by
  intro i x hx
  unfold az at hx ⊢
  rw [lH]
  by_cases e1:new=i
  ·subst e1;rw [hn] at hx;cases hx
  ·rw [if_neg e1]
   by_cases e2:id=i
   ·subst e2;rw [if_pos rfl];rw [hr] at hx;simpa using hx
   ·rw [if_neg e2];exact hx
 have l7:az ((new,(⟨e,true,false,[]⟩:Row))::(id,(⟨r.e,false,r.full,r.cells.set j (.ref new)⟩:Row))::cP s.H id) φ new=some (e,0,none):=by
  unfold az;rw [lH,if_pos rfl,ct];rfl
 have mono:∀v x,Den (az s.H φ) (aQ S0 w φ []) w v x->Den (az ((new,(⟨e,true,false,[]⟩:Row))::(id,(⟨r.e,false,r.full,r.cells.set j (.ref new)⟩:Row))::cP s.H id) φ) (aQ S0 w φ []) w v x:=fun v x h=>h.mono hI (fun b hb=>⟨hb,rfl⟩) (fun _ _ _ _ _=>rfl)
 refine ⟨φ,hs.jS,hs.jV,hs.cZ,fun i av hi=>mono _ _ (hs.cC i av hi),fun i q hq=>?_,fun i hi=>?_,hs.inj,hs.cY,hs.apart,hs.new⟩
 ·simp only [lH] at hq
  by_cases e1:new=i
  ·subst e1
   rw [if_pos rfl] at hq;injection hq with hq;subst hq
   unfold bR;rw [ct]
  ·rw [if_neg e1] at hq
   by_cases e2:id=i
   ·subst e2
    rw [if_pos rfl] at hq;injection hq with hq;subst hq
    have aR:=hs.rows id r hr
    unfold bR at aR ⊢
    cases hg:φ id with
    | none=>rw [hg] at aR;simp only at aR;rw [aR] at hj;cases hj
    | some g =>
     rw [hg] at aR
     obtain ⟨cur,te,fr,u1,u2,u3,u4,u5⟩:=aR
     refine ⟨cur,te,fr,u1,u2,by simpa using u3,fun h=>by simpa using u4 h,fun k u x hu hx=>?_⟩
     unfold bh
     simp only at hx ⊢
     rw [List.getElem?_set] at hx
     by_cases hk:j=k
     ·subst hk
      have dk:j<r.cells.length:=(List.getElem?_eq_some_iff.1 hj).1
      simp [dk] at hx
      subst hx
      have:=u5 j u .nil hu hj
      unfold bh at this
      rw [hp] at this
      rw [tz this]
      exact .cD new e l7
     ·rw [if_neg hk] at hx
      have:=u5 k u x hu hx
      unfold bh at this
      rw [hp] at this
      exact mono u x this
   ·rw [if_neg e2] at hq
    have aR:=hs.rows i q hq
    unfold bR at aR ⊢
    cases hg:φ i with
    | none=>rw [hg] at aR;exact aR
    | some g =>
     rw [hg] at aR
     obtain ⟨cur,te,fr,u1,u2,u3,u4,u5⟩:=aR
     refine ⟨cur,te,fr,u1,u2,u3,u4,fun k u x hu hx=>?_⟩
     have:=u5 k u x hu hx
     unfold bh at this ⊢
     cases IM:q.pure with
     | true=>rw [IM] at this;exact this
     | false=>rw [IM] at this;exact mono u x this
 ·simp only [lH] at hi
  by_cases e1:new=i
  ·rw [if_pos e1] at hi;cases hi
  ·rw [if_neg e1] at hi
   by_cases e2:id=i
   ·rw [if_pos e2] at hi;cases hi
   ·rw [if_neg e2] at hi;exact hs.only i hi
theorem vz:jE []:=fun id r h=>by cases h
theorem eD {id:Nat} {r:Row} {H:List (Nat×Row)} (h1:∀x∈r.cells,mU x=true) (h2:jE H):jE ((id,r)::H):=by
 intro i q hq j x hx
 rw [aF] at hq
 by_cases e:id=i
 ·rw [if_pos e] at hq;injection hq with hq;subst hq;exact h1 x (List.mem_of_getElem? hx)
 ·rw [if_neg e] at hq;exact h2 i q hq j x hx
theorem iG {l:List AV} (h:l.all mU=true):∀x∈l,mU x=true:=fun x hx=>List.all_eq_true.1 h x hx
theorem qH (l:List UInt64):∀x∈aj l,mU x=true:=by
 intro x hx;simp only [aj,List.mem_map] at hx;obtain ⟨c,_,rfl⟩:=hx;rfl
def Lb:Code->Bool
 | .rangeFunc _ _ _ _=>true
 | _=>false
def UE:Code->Operand
 | .rangeFunc g _ _ _=>g
 | _=>.tmp 0
def RA:Code->Array Tmp
 | .rangeFunc _ ps _ _=>ps
 | _=> #[]
def Tx:Code->Code
 | .rangeFunc _ _ x _=>x
 | c=>c
def Ty:Code->Code
 | .rangeFunc _ _ _ b=>b
 | c=>c
theorem bf.M8 {P:Program} {n:Nat} {c:Code} {Q:Exit->AS->Prop} {s:AS} (hc:Lb c=true) {f:Nat} {lN:List AV} (A:Nat->List AV) (N:Nat) (hit:xC P f lN A N) (hE:ig P f=true) (Lv:kZ (Tx c)=true) (Qn:kZ (Ty c)=true)
  (ρ :List (Nat×Nat)) (Ni :nC ρ =true) (xs:List AV) (F:List (Nat×AV)) (I:List Value->Nat->List (Nat×Row)) (sN:AS)
  (hw:∀Z w0 a w φ,aO Z w0 n [] (KY ρ s) a w φ-> ∃ j9 vs,vs.length=xs.length∧aO Z w0 n [] ⟨F,I vs 0⟩ a w j9∧ ∀p∈vs.zip xs,cB (aQ Z w j9 []) w p.1 p.2) (hg:∀vs,vs.length=xs.length->bp ⟨F,I vs 0⟩ (UE c)= .kX f lN) (PW:∀i,(RA c).toList.length=(A i).length) (PZ:((RA c).toList.all fun p=>Nat.blt p n)=true)
  (hI:∀vs i,vs.length=xs.length->i≤N->jE (I vs i)∧CR (I vs i) F=true) (pz:∀vs i,vs.length=xs.length->i<N->bf P n (Tx c) (r6 (bf P n (Ty c) (RQ (vs.zip xs) Q ρ F (I vs (i+1)))) (fun _ _=>False)) (HZ (RA c).toList (A i) ⟨F,I vs i⟩)) (gF:∀vs,vs.length=xs.length->Eg (vs.zip xs) ⟨F,I vs N⟩ sN) (ND:Q .normal (lu ρ sN)):bf P n c Q s:=by
 cases c with
 | rangeFunc g ps x b=>exact bf.range rfl A N hit hE Lv Qn ρ Ni xs F I sN hw hg PW PZ hI pz gF ND
 | _=>cases hc
section
variable {Z:bn} {w0 w:World} {n:Nat} {s:AS} {a:Act} {φ:Nat->Option Nat}
theorem aO.congr {O:List Nat} {F:List (Nat×AV)} {H H':List (Nat×Row)} (h:aO Z w0 n O ⟨F,H⟩ a w φ) (e:∀i,look H' i=look H i):aO Z w0 n O ⟨F,H'⟩ a w φ:=by
 have hI:az H' φ=az H φ:=by funext i;unfold az;rw [e]
 refine ⟨h.jS,h.jV,h.cZ,fun i av hi=>?_,fun i q hq=>?_,fun i hi=>?_,h.inj,h.cY,h.apart,h.new⟩
 ·simp only [hI];exact h.cC i av hi
 ·simp only [hI];exact h.rows i q (by rw [←e];exact hq)
 ·exact h.only i (by rw [←e];exact hi)
theorem aO.HV (h:aO Z w0 n [] s a w φ) (id j:Nat) {r:Row} {y:AV} (hr:look s.H id=some r) (hp:r.pure=false)
  (hy:∀g cur te fr u x,φ id=some g->w.heap[g]?=some (.cells cur te fr)->cur[j]?=some u->r.cells[j]?=some x->Den (az s.H φ) (aQ Z w φ []) w u x->Den (az s.H φ) (aQ Z w φ []) w u y):aO Z w0 n [] ⟨s.F,(id,⟨r.e,false,r.full,r.cells.set j y⟩)::cP s.H id⟩ a w φ:=by
 have lH:∀i,look ((id,(⟨r.e,false,r.full,r.cells.set j y⟩:Row))::cP s.H id) i=if id=i then some ⟨r.e,false,r.full,r.cells.set j y⟩ else look s.H i:=by
  intro i
  rw [aF,bJ]
  by_cases e:id=i<;>simp [e]
 have hI:az ((id,(⟨r.e,false,r.full,r.cells.set j y⟩:Row))::cP s.H id) φ=az s.H φ:=by
  funext i
  unfold az
  rw [lH]
  by_cases e:id=i
  ·subst e;rw [if_pos rfl,hr];simp
  ·rw [if_neg e]
 refine ⟨h.jS,h.jV,h.cZ,fun i av hi=>?_,fun i q hq=>?_,fun i hi=>?_,h.inj,h.cY,h.apart,h.new⟩
 ·simp only [hI];exact h.cC i av hi
 ·simp only [hI]
  simp only [lH] at hq
  by_cases e:id=i
  ·subst e
   rw [if_pos rfl] at hq;injection hq with hq;subst hq
   have aR:=h.rows id _ hr
   unfold bR at aR ⊢
   cases ct:φ id with
   | none=>rw [ct] at aR;simp only at aR ⊢;rw [aR];rfl
   | some g =>
    rw [ct] at aR
    obtain ⟨cur,te,fr,hg,hf,hl,m7,hc⟩:=aR
    refine ⟨cur,te,fr,hg,hf,by simpa using hl,fun h=>by simpa using m7 h,fun k u x hu hx=>?_⟩
    unfold bh
    simp only at hx ⊢
    rw [List.getElem?_set] at hx
    by_cases hk:j=k
    ·subst hk
     rw [if_pos rfl] at hx
     split at hx
     ·rename_i dk
      injection hx with hx;subst hx
      have IC:r.cells[j]?=some r.cells[j]:=List.getElem?_eq_getElem dk
      have:=hc j u _ hu IC
      unfold bh at this;rw [hp] at this
      exact hy g cur te fr u _ ct hg hu IC this
     ·cases hx
    ·rw [if_neg hk] at hx
     have:=hc k u x hu hx
     unfold bh at this;rw [hp] at this
     exact this
  ·rw [if_neg e] at hq;exact h.rows i q hq
 ·simp only [lH] at hi
  by_cases e:id=i
  ·rw [if_pos e] at hi;cases hi
  ·rw [if_neg e] at hi;exact h.only i hi
theorem aO.open_ (h:aO Z w0 n [] s a w φ) (id j:Nat) {r:Row} {x:AV} (hr:look s.H id=some r) (hp:r.pure=false) (hj:r.cells[j]?=some x) (hx:ij x=true):∃v,aO Z w0 n [] ⟨s.F,(id,⟨r.e,false,r.full,r.cells.set j (.val v)⟩)::cP s.H id⟩ a w φ∧cB (aQ Z w φ []) w v x:=by
 have aR:=h.rows id _ hr
 unfold bR at aR
 cases ct:φ id with
 | none=>rw [ct] at aR;simp only at aR;rw [aR] at hj;cases hj
 | some g =>
  rw [ct] at aR
  obtain ⟨cur,te,fr,hg,hf,hl,m7,hc⟩:=aR
  have dk:j<cur.size:=by have:=(List.getElem?_eq_some_iff.1 hj).1;omega
  have hu:cur[j]?=some cur[j]:=Array.getElem?_eq_getElem dk
  have hd:=hc j _ _ hu hj
  unfold bh at hd;rw [hp] at hd
  refine ⟨cur[j],h.HV id j hr hp fun g' cur' Uz Rn u x' h1 h2 h3 h4 h5=>?_,(eK hd hx).1⟩
  rw [ct] at h1;injection h1 with h1;subst h1
  rw [hg] at h2;injection h2 with h2;injection h2 with h2;subst h2
  rw [hu] at h3;injection h3 with h3;subst h3
  exact .rep (.val _)
theorem aO.close_ (h:aO Z w0 n [] s a w φ) (id j:Nat) {r:Row} {x:AV} {v:Value} (hr:look s.H id=some r) (hp:r.pure=false) (hj:r.cells[j]?=some (.val v)) (hx:cB (aQ Z w φ []) w v x):aO Z w0 n [] ⟨s.F,(id,⟨r.e,false,r.full,r.cells.set j x⟩)::cP s.H id⟩ a w φ:=by
 refine h.HV id j hr hp fun g cur te fr u x' _ _ _ h4 h5=>?_
 rw [hj] at h4;injection h4 with h4;subst h4
 rw [bM h5]
 exact .rep hx
end
theorem bf.Ro {P:Program} {n:Nat} {c:Code} {Q:Exit->AS->Prop} {s:AS} (s':AS) (h:s=s') (h2:bf P n c Q s'):bf P n c Q s:=h ▸ h2
end Go.Proofs.YtjgbhhnghedgdaaGreatDoor
