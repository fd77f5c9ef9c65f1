import Derived.Test.YtjgbhhnghedgdaaGreatDoorZpRI
import Derived.RangeFuncRecord
import Derived.OrdersIn
import Derived.TacticsIn
set_option linter.all false
namespace Go.Proofs.YtjgbhhnghedgdaaGreatDoor
open Go.RowKit
abbrev Wd (ro:Option Nat):Fence:={Fence.wide with round:=ro}
def j7 (o:Oper):Bool:=match o.op with| .defer _=>false|_=>true
def kO:Code->Bool
 | .skip=>true
 | .region _ ops _=>ops.toList.all j7
 | .seq x y=>kO x && kO y
 | .cond _ x y=>kO x && kO y
 | .block _ c=>kO c
 | .loop c=>kO c
 | .exit _=>true
 | .ret=>true
 | _=>false
section
variable {P:Program} {Q:Exit->Act->World->Prop} {ro:Option Nat} {n:Nat}
theorem B3 {o:Oper} (h:j7 o=true) (c):o.op≠ .defer c:=by
 intro e;unfold j7 at h;rw [e] at h;cases h
theorem tU {o:Oper} {a:Act} {w:World} {K:Act->World->Prop} (ho:j7 o=true) (hQ:¬LetsOut Q) (h:o.wp P a w K Q):o.wpIn (Wd ro) n P a w K Q:=by
 refine ⟨fun _ _=>trivial,?_⟩
 rw [Oper.semAt_eq _ _ _ (B3 ho)]
 unfold Oper.wp at h
 generalize (execOp a.eval o).run P w=r at *
 cases r with
 | ok x w' =>
  cases x with
  | enter f args=>exact ⟨fun h=>by simp [Fence.wide] at h,(callsIn_wide (n:=n-1)).2 h⟩
  | row row args =>
   refine ⟨fun h=>by simp [Fence.wide] at h,fun c cs _=>?_⟩
   obtain ⟨v,fp,h1,h2⟩:=h c cs
   exact ⟨v,fp,h1,stepsIn_wide.2 h2⟩
  | round=>exact h.elim
  | _=>exact h
 | halt x w'=>cases x<;>exact h
theorem list_round {ops:Array Oper} (hQ:¬LetsOut Q):∀(m:List Oper),m.all j7=true-> ∀(a:Act) (w:World),wpList P ops Q m a w->wpListIn (Wd ro) n P ops Q m a w
 | [],_,a,w,h=>h
 | o::m,hm,a,w,h=>by
  rw [List.all_cons,Bool.and_eq_true] at hm
  unfold wpList at h
  unfold wpListIn
  split at h
  ·rename_i hw
   rw [if_pos hw]
   rcases h with h|⟨-,h⟩
   ·have:=tU (ro:=ro) (n:=n) hm.1 hQ h
    refine ⟨this.1,?_⟩
    have h2:=this.2
    generalize (o.semAt (Wd ro).round a.eval).run P w=r at *
    cases r with
    | ok x w'=>cases x with
     | value v=>exact list_round hQ m hm.2 _ _ h2
     | skip=>exact list_round hQ m hm.2 _ _ h2
     | defer d=>exact list_round hQ m hm.2 _ _ h2
     | enter f args=>exact ⟨h2.1,(callsIn_wide (n:=n-1)).2 (Calls.mono ((callsIn_wide (n:=n-1)).1 h2.2) fun e fp he=>by cases e<;>first|exact list_round hQ m hm.2 _ _ he|exact he)⟩
     | row row args=>exact ⟨h2.1,RowsIn.mono h2.2 fun v fp he=>list_round hQ m hm.2 _ _ he⟩
     | round l' f tmps x b=>exact ⟨h2.1,RoundIn.mono h2.2 fun e fp he=>by cases e<;>first|exact list_round hQ m hm.2 _ _ he|exact he⟩
     | _=>exact h2
    | halt x w'=>cases x<;>exact h2
   ·exact absurd h hQ
  ·rename_i hw
   rw [if_neg hw]
   exact ⟨fun _ _=>trivial,list_round hQ m hm.2 _ _ h⟩
theorem y7 {o:Oper} {a:Act} {w:World} {K K':Act->World->Prop} (hK:∀a w,K a w->K' a w) (h:o.wpIn (Wd ro) n P a w K Q):o.wpIn (Wd ro) n P a w K' Q:=by
 refine ⟨h.1,?_⟩
 have h2:=h.2
 generalize (o.semAt (Wd ro).round a.eval).run P w=r at *
 cases r with
 | ok x w'=>cases x with
  | value v=>exact hK _ _ h2
  | skip=>exact hK _ _ h2
  | defer d=>exact hK _ _ h2
  | enter f args=>exact ⟨h2.1,(callsIn_wide (n:=n-1)).2 (Calls.mono ((callsIn_wide (n:=n-1)).1 h2.2) fun e fp he=>by cases e<;>first|exact hK _ _ he|exact he)⟩
  | row row args=>exact ⟨h2.1,RowsIn.mono h2.2 fun v fp he=>hK _ _ he⟩
  | round l' f tmps x b=>exact ⟨h2.1,RoundIn.mono h2.2 fun e fp he=>by cases e<;>first|exact hK _ _ he|exact he⟩
  | _=>exact h2
 | halt x w'=>cases x<;>exact h2
theorem ob {md:Region.Mode} {ops:Array Oper} (hc:ops.toList.all j7=true) (hQ:¬LetsOut Q):∀(fuel:Nat) (listed:Array Bool) (a:Act) (w:World),wpAny P md ops Q fuel listed a w->wpAnyIn (Wd ro) n P md ops Q fuel listed a w
 | 0,_,_,_,h=>h
 | fuel+1,listed,a,w,h=>⟨h.1,fun i hi=>by
   have h':=h.2 i hi
   unfold wpOp at h'
   unfold wpOpIn
   split
   ·rename_i ho;simp only [ho] at h';exact ob hc hQ fuel _ _ _ h'
   ·rename_i o ho
    simp only [ho] at h'
    have gb:j7 o=true:=List.all_eq_true.1 hc o (by
     have:=Array.mem_of_getElem? ho;simpa using this)
    split
    ·rename_i hw
     rw [if_pos hw] at h'
     rcases h' with h'|⟨-,h'⟩
     ·exact y7 (ob hc hQ fuel _) (tU gb hQ h')
     ·exact absurd h' hQ
    ·rename_i hw
     rw [if_neg hw] at h'
     exact ⟨fun _ _=>trivial,ob hc hQ fuel _ _ _ h'⟩⟩
theorem E7 {F:Fence} {c:Code} {a:Act} {w:World} (J:Nat->Act->World->Prop) (k0:Nat) (h0:J k0 a w)
  (round:∀k a w,J k a w->c.wpIn F n P (Exit.then (fun a' w'=>∃k',k'<k∧J k' a' w') Q) a w):(Code.loop c).wpIn F n P Q a w:=by
 have H4:∀a w,∃m,(∃k,J k a w)->J m a w∧ ∀k,J k a w->m≤k:=by
  intro a w
  by_cases h:∃k,J k a w
  ·obtain ⟨k,hk⟩:=h
   induction k using Nat.strongRecOn with
   | _ k ih =>
    by_cases hs:∃j,j<k∧J j a w
    ·obtain ⟨j,hj,hJ⟩:=hs;exact ih j hj hJ
    ·exact ⟨k,fun _=>⟨hk,fun j hJ=>Classical.byContradiction fun dd=>hs ⟨j,aj,hJ⟩⟩⟩
  ·exact ⟨0,fun h'=>absurd h' h⟩
 let μ :Act->World->Nat:=fun a w=>Classical.choose (H4 a w)
 have SQ :∀a w (h:∃k,J k a w),J (μ a w) a w∧ ∀k,J k a w-> μ a w≤k:=fun a w h=>Classical.choose_spec (H4 a w) h
 refine wpIn_loop (fun a w=>∃k,J k a w) μ ⟨k0,h0⟩ fun a w h=>?_
 refine wpIn_mono (round _ a w (SQ a w h).1) fun e a' w' hq=>?_
 cases e with
 | normal =>
  obtain ⟨k',hk,hJ⟩:=hq
  exact ⟨⟨k',hJ⟩,Nat.lt_of_le_of_lt ((SQ a' w' ⟨k',hJ⟩).2 k' hJ) hk⟩
 | _=>exact hq
theorem iw:∀(c:Code) (Q:Exit->Act->World->Prop) (a:Act) (w:World),kO c=true-> ¬LetsOut Q->BB P c Q a w->c.wpIn (Wd ro) n P Q a w
 | .skip,_,a,w,_,_,h=>wpIn_skip h
 | .region _ ops false,_,a,w,hc,hQ,h=>wpIn_region_list (list_round hQ _ hc _ _ h)
 | .region _ ops true,_,a,w,hc,hQ,h=>wpIn_region_any h.1 (ob hc hQ _ _ _ _ h.2)
 | .seq x y,Q,a,w,hc,hQ,h=>by
  simp only [kO,Bool.and_eq_true] at hc
  exact wpIn_seq (iw x _ a w hc.1 (by rintro ⟨a,w,h⟩;exact hQ ⟨a,w,h⟩) (dX x _ _ (lG (fun a w h=>iw y Q a w hc.2 hQ h) fun _ _ _ h=>h) a w h))
 | .cond c x y,Q,a,w,hc,hQ,⟨t,h1,h2,h3⟩=>by
  simp only [kO,Bool.and_eq_true] at hc
  exact wpIn_cond_split h1 (fun e=>iw x Q a w hc.1 hQ (h2 e)) (fun e=>iw y Q a w hc.2 hQ (h3 e))
 | .block id c,_,a,w,hc,hQ,h=>wpIn_block (iw c _ a w hc (by rintro ⟨a,w,h⟩;exact hQ ⟨a,w,h⟩) h)
 | .loop c,_,a,w,hc,hQ,⟨J,k0,h0,h⟩=>E7 J k0 h0 fun k a w hJ=>iw c _ a w hc (by rintro ⟨a,w,h⟩;exact hQ ⟨a,w,h⟩) (h k a w hJ)
 | .exit id,_,a,w,_,_,h=>wpIn_exit h
 | .ret,_,a,w,_,_,h=>wpIn_ret h
 | .rangeFunc ..,_,_,_,hc,_,_=>by cases hc
 | .scope _,_,_,_,hc,_,_=>by cases hc
 | .label _,_,_,_,hc,_,_=>by cases hc
 | .goto _,_,_,_,hc,_,_=>by cases hc
 | .refuse _,_,_,_,hc,_,_=>by cases hc
end
section
variable {S0:bm} {w0 w:World} {n:Nat} {s:AS} {a:Act} {φ:Nat->Option Nat}
def zz (x y:Nat) (φ:Nat->Option Nat):Nat->Option Nat:=fun i=>if i=y then φ x else if i=x then none else φ i
theorem aG.DM (h:aG S0 w0 n [] s a w φ) (x y:Nat) (OQ:y<1000000000000∨ ∀g,φ x=some g->S0.fix y=some g) (cT:x≠y) (hy:look s.H y=none):aG S0 w0 n [] (rename x y s) a w (zz x y φ):=by
 let cz:Nat->Option Nat:=fun i=>if i=y then φ x else if i=x then none else φ i
 show aG S0 w0 n [] (rename x y s) a w cz
 have Q0:φ y=none:=h.only y hy
 have mr:∀i g,cz i=some g-> ∃j,φ j=some g∧(i=y->j=x)∧(i≠y->j=i):=by
  intro i g hi
  by_cases e:i=y
  ·have:φ x=some g:=by simpa [cz,e] using hi
   exact ⟨x,this,fun _=>rfl,fun h=>absurd e h⟩
  ·by_cases e2:i=x
   ·simp [cz,e2,cT] at hi
   ·have:φ i=some g:=by simpa [cz,e,e2] using hi
    exact ⟨i,this,fun h=>absurd h e,fun _=>rfl⟩
 have Ih:∀b,aM S0 w φ [] b->aM S0 w cz [] b:=by
  intro b ⟨h1,h2,h3,h4⟩
  refine ⟨h1,h2,fun i hi=>?_,h4⟩
  obtain ⟨j,hj,-⟩:=mr i b hi
  exact h3 j hj
 have jT:∀i,look (rename x y s).H i=(if i=y then look s.H x else if i=x then none else look s.H i).map (eQ x y):=by
  intro i
  unfold rename
  rw [cw,nk x y _ hy]
 have hI:∀i z,az s.H φ i=some z->az (rename x y s).H cz (if i=x then y else i)=some z:=by
  intro i z hi
  obtain ⟨e,m,b⟩:=z
  obtain ⟨r,hl,h1,h2,h3⟩:=aO hi
  by_cases e1:i=x
  ·subst e1
   rw [if_pos rfl,bq (r:=eQ i y r) (by rw [jT,if_pos rfl,hl];rfl),(cG i y r).1,(cG i y r).2.1,h1,h2]
   simp [cz,h3]
  ·have e2:i≠y:=fun e=>by subst e;rw [hy] at hl;cases hl
   rw [if_neg e1,bq (r:=eQ x y r) (by rw [jT,if_neg e2,if_neg e1,hl];rfl),(cG x y r).1,(cG x y r).2.1,h1,h2]
   simp [cz,e1,e2,h3]
 have sx:∀b,aM S0 w φ [] b->aM S0 w cz [] b∧w.heap[b]?=w.heap[b]?:=fun b h=>⟨Ih b h,rfl⟩
 have ok:jQ (az s.H φ) (az (rename x y s).H cz) (aM S0 w φ []) (aM S0 w cz []) w (kz x y):=by
  refine ⟨fun v av hv h1 h2=>?_,fun _=>rfl,fun _=>rfl⟩
  have pick:∀i z,az s.H φ i=some z->(Nat.beq i x=true∧az (rename x y s).H cz y=some z)∨(Nat.beq i x=false∧az (rename x y s).H cz i=some z):=by
   intro i z hi
   have:=hI i z hi
   rcases bI i x with ⟨hb,e⟩|⟨hb,e⟩
   ·rw [if_pos e] at this;exact .inl ⟨hb,this⟩
   ·rw [if_neg e] at this;exact .inr ⟨hb,this⟩
  cases hv with
  | rep h=>cases h with
   | val v=>exact .rep (.val v)
   | nil=>exact .rep .nil
   | agg vs cs _ _=>exact absurd rfl (h1 cs)
   | br vs cs _ _=>exact absurd rfl (h2 cs)
   | arr vs cs hl h=>exact .rep ((cA.arr vs cs hl h).mono sx)
   | sl A n c e us row hl hn hc hm ha h=>exact .rep ((cA.sl A n c e us row hl hn hc hm ha h).mono sx)
   | pt A n e us row hl hn hm ha h=>exact .rep ((cA.pt A n e us row hl hn hm ha h).mono sx)
   | ptr ad us row off hl hs ha h=>exact .rep ((cA.ptr ad us row off hl hs ha h).mono sx)
   | lB f vs cs hl h=>exact .rep ((cA.lB f vs cs hl h).mono sx)
  | agg vs cs _ _=>exact absurd rfl (h1 cs)
  | br vs cs _ _=>exact absurd rfl (h2 cs)
  | ref i e m g l c hi hm hc hx hs=>rcases pick i _ hi with ⟨hb,jd⟩|⟨hb,jd⟩<;>simp only [kz,hb]<;>exact .ref _ e m g l c jd hm hc hx hs
  | cC i e hi=>rcases pick i _ hi with ⟨hb,jd⟩|⟨hb,jd⟩<;>simp only [kz,hb]<;>exact .cC _ e jd
  | pre i k e m g l c hi hn hm hc hx hs=>rcases pick i _ hi with ⟨hb,jd⟩|⟨hb,jd⟩<;>simp only [kz,hb]<;>exact .pre _ k e m g l c jd hn hm hc hx hs
  | dw i e hi=>rcases pick i _ hi with ⟨hb,jd⟩|⟨hb,jd⟩<;>simp only [kz,hb]<;>exact .dw _ e jd
  | jl i off k e m l c g A hi hn hm hc hx ha=>rcases pick i _ hi with ⟨hb,jd⟩|⟨hb,jd⟩<;>simp only [kz,hb]<;>exact .jl _ off k e m l c g A jd hn hm hc hx ha
  | addr i off e m g hi=>rcases pick i _ hi with ⟨hb,jd⟩|⟨hb,jd⟩<;>simp only [kz,hb]<;>exact .addr _ off e m g jd
  | dead v=>exact .dead _
 have B0:∀z:AV,(∀cs,z≠ .agg cs)->EY x y z=kz x y z:=by
  intro z hz
  cases z with
  | agg cs=>exact absurd rfl (hz cs)
  | _=>rfl
 have BZ:∀z:AV,(∀cs,z≠ .br cs)->Mh x y z=EY x y z:=by
  intro z hz
  cases z with
  | br cs=>exact absurd rfl (hz cs)
  | _=>rfl
 refine ⟨h.jL,h.jO,h.cV,fun i av hi=>?_,fun i r hr=>?_,fun i hi=>?_,fun i j g hi hj=>?_,fun i g hi=>?_,fun i g hi=>by simp,h.new⟩
 ·unfold rename at hi
  rw [cw] at hi
  cases hl:look s.F i with
  | none=>rw [hl] at hi;cases hi
  | some z =>
   rw [hl] at hi;injection hi with hi;subst hi
   exact ok.two (h.cB i z hl) (fun _=>rfl) B0 (fun _=>rfl) BZ
 ·rw [jT] at hr
  have:∃j q,look s.H j=some q∧cz i=φ j∧r=eQ x y q:=by
   by_cases e:i=y
   ·rw [if_pos e] at hr
    cases hl:look s.H x with
    | none=>rw [hl] at hr;cases hr
    | some q=>rw [hl] at hr;injection hr with hr;exact ⟨x,q,hl,by simp [cz,e],hr.symm⟩
   ·rw [if_neg e] at hr
    by_cases e2:i=x
    ·rw [if_pos e2] at hr;cases hr
    ·rw [if_neg e2] at hr
     cases hl:look s.H i with
     | none=>rw [hl] at hr;cases hr
     | some q=>rw [hl] at hr;injection hr with hr;exact ⟨i,q,hl,by simp [cz,e,e2],hr.symm⟩
  obtain ⟨j,q,hq,Mt,rfl⟩:=this
  have aN:=h.rows j q hq
  rw [Mt]
  unfold bN at aN ⊢
  cases hb:φ j with
  | none =>
   rw [hb] at aN
   have:=(cG x y q).2.1
   simp only at aN ⊢
   rw [aN] at this;exact List.length_eq_zero_iff.1 this
  | some g =>
   rw [hb] at aN
   obtain ⟨cur,te,fr,hg,hf,hlen,mI,hc⟩:=aN
   refine ⟨cur,te,fr,hg,hf,by rw [(cG x y q).2.1];exact hlen,by rw [(cG x y q).2.1,(cG x y q).2.2.2];exact mI,fun j u z hu hz=>?_⟩
   rw [(cG x y q).2.2.1]
   unfold bh
   cases hp:q.pure with
   | true =>
    have:eQ x y q=q:=by unfold eQ;rw [hp]
    rw [this] at hz
    have:=hc j u z hu hz
    unfold bh at this;rw [hp] at this
    exact this.mono sx
   | false =>
    have:(eQ x y q).cells=q.cells.map (kz x y):=by unfold eQ;rw [hp]
    rw [this,List.getElem?_map] at hz
    cases hj:q.cells[j]? with
    | none=>rw [hj] at hz;cases hz
    | some z' =>
     rw [hj] at hz;injection hz with hz;subst hz
     have:=hc j u z' hu hj
     unfold bh at this;rw [hp] at this
     exact ok.all this
 ·rw [jT] at hi
  by_cases e:i=y
  ·rw [if_pos e] at hi
   cases hl:look s.H x with
   | none=>simp [cz,e,h.only x hl]
   | some q=>rw [hl] at hi;cases hi
  ·rw [if_neg e] at hi
   by_cases e2:i=x
   ·simp [cz,e2,cT]
   ·rw [if_neg e2] at hi
    cases hl:look s.H i with
    | none=>simp [cz,e,e2,h.only i hl]
    | some q=>rw [hl] at hi;cases hi
 ·obtain ⟨i',h1,h2,h3⟩:=mr i g hi
  obtain ⟨j',h4,h5,h6⟩:=mr j g hj
  have e:=h.inj i' j' g h1 h4
  by_cases ei:i=y<;>by_cases ej:j=y
  ·rw [ei,ej]
  ·have:=h2 ei;have:=h6 ej
   have:j=x:=aj
   subst this
   simp [cz,cT] at hj
  ·have:=h3 ei;have:=h5 ej
   have:i=x:=aj
   subst this
   simp [cz,cT] at hi
  ·have:=h3 ei;have:=h6 ej;omega
 ·obtain ⟨j,h1,h2,h3⟩:=mr i g hi
  have:=h.cU j g h1
  refine ⟨⟨?_,this.1.2⟩,this.2⟩
  by_cases e:i=y
  ·have hj:=h2 e
   subst hj
   rw [e]
   exact OQ.imp (fun h=>h) fun h=>h g h1
  ·rw [←h3 e];exact this.1.1
end
section
variable {Z Z':bm} {w0 w w':World} {n:Nat} {O:List Nat} {s:AS} {a a':Act} {φ:Nat->Option Nat}
theorem aG.qH (h:aG Z w0 n O s a w φ) (dq:w.heap.size≤w'.heap.size) (hb:∀b,Z.S b->b<w.heap.size->w'.heap[b]?=w.heap[b]?) (hS:∀b,Z.S b->b<w.heap.size->Z'.S b) (lP:∀b,(w'.heap.size≤b∨Z'.X b)->Z'.S b) (hX:∀id g,φ id=some g->Z'.X g)
  (KF:∀id g,φ id=some g->id<1000000000000∨Z'.fix id=some g) (ht:a'.tmps=a.tmps) (hd:a'.defers=Z'.r8) (UB:Good w') (UA:∀b,TB b-> ¬Z'.X b):aG Z' w' n O s a' w' φ:=by
 have hF:∀b,aM Z w φ O b->aM Z' w' φ O b∧w'.heap[b]?=w.heap[b]?:=fun b kF=>⟨⟨Nat.lt_of_lt_of_le kF.1 dq,kF.2.1,kF.2.2.1,hS b kF.2.2.2 kF.1⟩,hb b kF.2.2.2 kF.1⟩
 have cp:∀id g,φ id=some g->w'.heap[g]?=w.heap[g]?:=fun id g hg=>hb g (h.new g (h.cU id g hg).1.2) (h.cU id g hg).2
 have hL:∀id e m g,az s.H φ id=some (e,m,some g)->aV w' g=aV w g:=fun id e m g hi=>by
  obtain ⟨_,-,-,-,hg⟩:=aO hi
  unfold aV;rw [cp id g hg]
 refine ⟨by rw [ht];exact h.jL,hd,⟨rfl,rfl,rfl,Nat.le_refl _,fun _ _ _=>rfl,UB,UA⟩,fun i av hi=>?_,fun id r hr=>?_,h.only,h.inj,fun id g hg=>⟨⟨KF id g hg,.inr (hX id g hg)⟩,Nat.lt_of_lt_of_le (h.cU id g hg).2 dq⟩,h.apart,lP⟩
 ·rw [ht];exact (h.cB i av hi).mono (fun _ _ h=>h) hF hL
 ·have aN:=h.rows id r hr
  unfold bN at aN ⊢
  cases hg:φ id with
  | none=>rw [hg] at aN;exact aN
  | some g =>
   rw [hg] at aN
   obtain ⟨cur,te,fr,u1,u2,u3,u4,u5⟩:=aN
   refine ⟨cur,te,fr,(cp id g hg).trans u1,u2,u3,u4,fun j u x hu hx=>?_⟩
   have:=u5 j u x hu hx
   unfold bh at this ⊢
   cases hp:r.pure with
   | true=>rw [hp] at this;exact this.mono hF
   | false=>rw [hp] at this;exact this.mono (fun _ _ h=>h) hF hL
end
def mA:AV->Bool
 | .val _=>true
 | .nil=>true
 | .ref _=>true
 | .pre _ _=>true
 | .jl _ _ _=>true
 | .addr _ _=>true
 | _=>false
def jy (H:List (Nat×Row)):Prop:=∀id r,look H id=some r-> ∀(j:Nat) x,r.cells[j]?=some x->mA x=true
theorem C5 {I:Info} {S S':Nat->Prop} {w w':World} {v:Value} {x:AV} (h:Den I S w v x) (hc:mA x=true) (hL:∀id e m g,I id=some (e,m,some g)->aV w' g=aV w g):Den I S' w' v x:=by
 cases h with
 | rep h=>cases h with
  | val v=>exact .rep (.val v)
  | nil=>exact .rep .nil
  | _=>cases hc
 | agg=>cases hc
 | br=>cases hc
 | ref id e m g l c hi hm kU hx hs=>exact .ref id e m g l c hi hm kU hx ((hL _ _ _ _ hi).trans hs)
 | cC id e hi=>exact .cC id e hi
 | pre id n e m g l c hi hn hm kU hx hs=>exact .pre id n e m g l c hi hn hm kU hx ((hL _ _ _ _ hi).trans hs)
 | dw id e hi=>exact .dw id e hi
 | jl id off n e m l c g A hi hn hm kU hx ha=>exact .jl id off n e m l c g A hi hn hm kU hx ha
 | addr id off e m g hi=>exact .addr id off e m g hi
 | dead v=>exact .dead v
theorem BO {S S':Nat->Prop} {w w':World} {v:Value} {x:AV} (h:cA S w v x) (hc:mA x=true):cA S' w' v x:=by
 cases h with
 | val v=>exact .val v
 | nil=>exact .nil
 | _=>cases hc
def oc (P:Program) (l:Nat) (vs:List Value) (w:World) (T:Bool->World->Prop):Prop :=
 ∃fn tmps TI bd,(Instr.yield l vs.toArray).run P w= .ok (.round l fn tmps TI bd) w∧RoundIn Fence.wide 0 P l fn tmps TI bd w fun e w'=>∃t,e= .returned (.bool t)∧T t w'
structure Jq (O:Nat->Prop) (w w':World):Prop where
 os:w'.os=w.os
 tape:w'.tape=w.tape
 output:w'.output=w.output
 size:w.heap.size≤w'.heap.size
 block:∀b,b<w.heap.size-> ¬O b->w'.heap[b]?=w.heap[b]?
def jP (J:(Nat->Prop)->(Nat->Prop)->World->Prop):Prop :=
 ∀O K w O' K' w',J O K w->Jq O w w'->(∀b,O' b->O b∨w.heap.size≤b)->(∀b,K' b->K b∨w.heap.size≤b)->J O' K' w'
def wT (P:Program) (f:Nat) (lz:List AV) (A:Nat->List AV) (N:Nat):Prop :=
 ∀(l:Nat) (w:World) (S:Nat->Prop) (cv:List Value) (J:Nat->(Nat->Prop)->(Nat->Prop)->World->Prop) (X:(Nat->Prop)->(Nat->Prop)->World->Prop),
  Good w->(∀b,S b->b<w.heap.size)->cv.length=lz.length->(∀(j:Nat) v x,cv[j]?=some v->lz[j]?=some x->cA S w v x) ->
  (∀i,jP (J i))->jP X ->
  (∀i,i<N-> ∀(O K:Nat->Prop) (w1:World) (vs:List Value),J i O K w1->(∀b,O b->K b)->(∀b,K b->b<w1.heap.size)->vs.length=(A i).length->(∀(j:Nat) v x,vs[j]?=some v->(A i)[j]?=some x->cA K w1 v x) ->
   oc P l vs w1 fun t w2=>Good w2∧w1.heap.size≤w2.heap.size∧(∀b,K b->w2.heap[b]?=w1.heap[b]?)∧(t=true->J (i+1) O K w2)∧(t=false->X O K w2)) ->
  J 0 (fun _=>False) S w ->
  Calls P f (Value.func (.yield l) #[] #[]::cv).toArray w fun e w'=>∃v O K,e= .returned v∧(J N O K w'∨X O K w')
def QU (H:List (Nat×Row)):AV->Bool
 | .val _=>true
 | .nil=>true
 | .arr _=>true
 | .sl _ _=>true
 | .ptr _ _=>true
 | .lB _ _=>true
 | .agg cs=>dR cs
 | .dead=>true
 | .addr id _=>(match Nat.ble 1000000000000 id,look H id with|true,some r=>(match r.cells with| []=>false|_::_=>true)|_,_=>false)
 | _=>false
def Ol (F:List (Nat×AV)) (H:List (Nat×Row)):Prop:=∀i x,look F i=some x->QU H x=true
def B1 (H:List (Nat×Row)):List (Nat×AV)->Bool
 | []=>true
 | (_,x)::F=>match QU H x with|true=>B1 H F|false=>false
theorem pN {H:List (Nat×Row)}:∀ {F:List (Nat×AV)},B1 H F=true->Ol F H
 | [],_,i,x,h=>by cases h
 | (k,y)::F,hb,i,x,h=>by
  simp only [B1] at hb
  split at hb
  ·rename_i hy
   rw [aD] at h
   by_cases e:k=i
   ·rw [if_pos e] at h;injection h with h;subst h;exact hy
   ·rw [if_neg e] at h;exact pN hb i x h
  ·cases hb
structure ED (op:List (Value×AV)) (S0:bm) (w0:World) (n:Nat) (tm:Array Value) (fx:Nat->Option Nat) (r l:Nat) (we:World) (rc:Loop) (s:AS) (O K:Nat->Prop) (w:World):Prop where
 ex:∃(wb:World) (φ:Nat->Option Nat) (Z:bm),aG Z wb n [] s ⟨tm,[]⟩ wb φ∧Z.fix=fx∧we.heap.size≤wb.heap.size∧wb.heap.size≤w.heap.size∧(∀b,Z.S b->b<wb.heap.size->w.heap[b]?=wb.heap[b]?)∧(∀b,Z.S b->b<wb.heap.size->S0.S b) ∧
  (∀id g,φ id=some g->w0.heap.size≤g∨S0.X g)∧(∀b,O b->b<wb.heap.size-> ¬Z.S b)∧(∀b,K b-> ∀id,φ id≠some b)∧ ¬Z.S l∧ ¬Z.S r∧ ∀p∈op,cA (aM Z wb φ []) wb p.1 p.2
 kept:Kept S0 w0 w
 base:w0.heap.size≤we.heap.size
 PO:∀b,O b->we.heap.size≤b
 hl:l<we.heap.size
 hr:r<we.heap.size
 Kl:¬K l
 G4:w.heap[l]?=some (.loop rc)
 Kf:∀b,w0.heap.size≤b->S0.S b
 NK:w0.heap.size≤l
 rl:r≠l
 Kr:¬K r
 jO:w.heap[r]?=some (.deferred (some []))
section
variable {op:List (Value×AV)} {P:Program} {S0:bm} {w0:World} {n:Nat} {tm:Array Value} {fx:Nat->Option Nat} {r l:Nat} {we:World} {rc:Loop} {s:AS}
theorem ED.Gy:jP (ED op S0 w0 n tm fx r l we rc s):=by
 intro O K w O' K' w' h st hO hK
 obtain ⟨wb,φ,Z,h1,h2,h3,h4,h5,h6,h7,h8,h9,JG,Ii,M8⟩:=h.ex
 have hle:we.heap.size≤w.heap.size:=Nat.le_trans h3 h4
 refine ⟨⟨wb,φ,Z,h1,h2,h3,Nat.le_trans h4 st.size,fun b hb dd=>(st.block b aj fun ho=>h8 b ho dd hb).trans (h5 b hb dd),h6,h7,fun b hb dd=>?_,fun b hb id hid=>?_,JG,Ii,M8⟩,?_,h.base,fun b hb=>?_,h.hl,h.hr,fun hb=>?_,?_,?_,?_,?_,?_,?_⟩
 ·rcases hO b hb with hb|hb
  ·exact h8 b hb dd
  ·omega
 ·rcases hK b hb with hb|hb
  ·exact h9 b hb id hid
  ·have:=(h1.cU id b hid).2;omega
 ·exact ⟨st.os.trans h.kept.os,st.tape.trans h.kept.tape,st.output.trans h.kept.output,Nat.le_trans h.kept.size st.size,fun k hk hx=>(st.block k (Nat.lt_of_lt_of_le hk h.kept.size) fun ho=>by have:=h.PO k ho;have:=h.base;omega).trans (h.kept.block k hk hx),h.kept.g0,h.kept.gx⟩
 ·rcases hO b hb with hb|hb
  ·exact h.PO b hb
  ·omega
 ·rcases hK l hb with hb|hb
  ·exact h.Kl hb
  ·have:=h.hl;omega
 ·exact (st.block l (by have:=h.hl;omega) fun ho=>by have:=h.PO l ho;have:=h.hl;omega).trans h.G4
 ·exact h.Kf
 ·exact h.NK
 ·exact h.rl
 ·intro hb
  rcases hK r hb with hb|hb
  ·exact h.Kr hb
  ·have:=h.hr;omega
 ·exact (st.block r (by have:=h.hr;omega) fun ho=>by have:=h.PO r ho;have:=h.hr;omega).trans h.jO
def G8:List Nat->List AV->AS->AS
 | p::ps,x::xs,s=>G8 ps xs (lg s p x)
 | _,_,s=>s
theorem wj {Z:bm} {w:World} {φ:Nat->Option Nat}:∀(ps:List Nat) (vs:List Value) (xs:List AV) (s:AS) (a:Act),aG Z w0 n [] s a w φ->vs.length=xs.length->(∀p∈ps,p<n) ->
  (∀(j:Nat) v x,vs[j]?=some v->xs[j]?=some x->Den (az s.H φ) (aM Z w φ []) w v x)->aG Z w0 n [] (G8 ps xs s) ⟨(ps.zip vs).foldl (fun t p=>t.setIfInBounds p.1 p.2) a.tmps,a.defers⟩ w φ
 | [],vs,xs,s,a,h,_,_,_=>by
  cases xs<;>exact h
 | p::ps,[],xs,s,a,h,hl,_,_=>by
  cases xs with
  | nil=>exact h
  | cons=>simp at hl
 | p::ps,v::vs,[],s,a,h,hl,_,_=>by simp at hl
 | p::ps,v::vs,x::xs,s,a,h,hl,hp,hd=>by
  have h1:=h.put (hp p (by simp)) (hd 0 v x rfl rfl)
  exact wj ps vs xs (lg s p x) (a.put (some p) v) h1 (by simpa using hl) (fun q hq=>hp q (by simp [hq])) fun j u y hu hy=>hd (j+1) u y (by simpa using hu) (by simpa using hy)
theorem Hq {F:List (Nat×AV)} {H X:List (Nat×Row)} {O K:Nat->Prop} {w1 w3 QO:World} {S3:bm} {a3:Act} {vj:Nat->Option Nat} {po:Loop} {φ:Nat->Option Nat} {wb:World} {Z:bm}
  (hM:ED op S0 w0 n tm fx r l we rc ⟨F,H⟩ O K w1) (Oc:∀b,O b->K b) (hK:∀b,K b->b<w1.heap.size)
  (h1:aG Z wb n [] ⟨F,H⟩ ⟨tm,[]⟩ wb φ) (h2:Z.fix=fx) (h3:we.heap.size≤wb.heap.size) (h4:wb.heap.size≤w1.heap.size) (h5:∀b,Z.S b->b<wb.heap.size->w1.heap[b]?=wb.heap[b]?) (h6:∀b,Z.S b->b<wb.heap.size->S0.S b)
  (h7:∀id g,φ id=some g->w0.heap.size≤g∨S0.X g) (h8:∀b,O b->b<wb.heap.size-> ¬Z.S b) (h9:∀b,K b-> ∀id,φ id≠some b) (JG:¬Z.S l) (Ii:¬Z.S r) (M8:∀p∈op,cA (aM Z wb φ []) wb p.1 p.2)
  (Fi:aG S3 QO n [] ⟨[],X⟩ a3 w3 vj) (KF:S3.fix=fx) (N_:∀id g,vj id=some g->w1.heap.size≤g∨lC φ g) (RB:¬S3.S l) (Ug:¬S3.S r)
  (HW:w3.os=w1.os) (ur:w3.tape=w1.tape) (uu:w3.output=w1.output) (dq:w1.heap.size≤w3.heap.size) (AD:∀b,b<w1.heap.size-> ¬lC φ b->b≠l->w3.heap[b]?=w1.heap[b]?)
  (hX:jy X) (hF:Ol F H) (Sc:Ol F X) :
  ED op S0 w0 n tm fx r l we po ⟨F,X⟩ O K (w3.putObj l (.loop po))∧(∀b,K b->(w3.putObj l (.loop po)).heap[b]?=w1.heap[b]?):=by
 have LF:l<w3.heap.size:=by have:=hM.hl;omega
 have Cg:∀b,b≠l->(w3.putObj l (.loop po)).heap[b]?=w3.heap[b]?:=fun b hb=>World.putObj_heap_other hb
 have D9:∀b,b<w1.heap.size-> ¬lC φ b->b≠l->(w3.putObj l (.loop po)).heap[b]?=w1.heap[b]?:=fun b hb hn cT=>(Cg b cT).trans (AD b hb hn cT)
 have own:∀id g,φ id=some g->Z.S g∧g<wb.heap.size:=fun id g hg=>⟨h1.new g (h1.cU id g hg).1.2,(h1.cU id g hg).2⟩
 have Mm:∀id g,vj id=some g->S3.S g∧g<w3.heap.size:=fun id g hg=>⟨Fi.new g (Fi.cU id g hg).1.2,(Fi.cU id g hg).2⟩
 have QW:∀id g,vj id=some g->g≠l:=fun id g hg e=>RB (e ▸ (Mm id g hg).1)
 have U2:∀id e m g,az X vj id=some (e,m,some g)->aV (w3.putObj l (.loop po)) g=aV w3 g:=fun id e m g hi=>by
  obtain ⟨_,-,-,-,hg⟩:=aO hi
  unfold aV;rw [Cg g (QW id g hg)]
 let Z4:bm:=⟨fun b=>(Z.S b∧b<wb.heap.size)∨lC vj b∨(w3.putObj l (.loop po)).heap.size≤b,lC vj,fx,[]⟩
 have Kw:(w3.putObj l (.loop po)).heap.size=w3.heap.size:=World.putObj_size
 have fq:Kept S0 w0 (w3.putObj l (.loop po)):=by
  refine ⟨HW.trans hM.kept.os,ur.trans hM.kept.tape,uu.trans hM.kept.output,by rw [Kw];exact Nat.le_trans hM.kept.size dq,fun k hk hx=>?_,hM.kept.g0,hM.kept.gx⟩
  have Uu:k<w1.heap.size:=Nat.lt_of_lt_of_le hk hM.kept.size
  refine (D9 k Uu (fun ⟨id,hid⟩=>?_) (fun e=>?_)).trans (hM.kept.block k hk hx)
  ·rcases h7 id k hid with h|h
   ·omega
   ·exact hx h
  ·have:=hM.NK;omega
 have SP:∀b,lC vj b->b<wb.heap.size->Z.S b:=fun b ⟨id,hid⟩ dd=>by
  rcases N_ id b hid with h|⟨j,hj⟩
  ·omega
  ·exact (own j b hj).1
 have ux:∀b,aM Z wb φ [] b->aM Z4 (w3.putObj l (.loop po)) vj [] b∧(w3.putObj l (.loop po)).heap[b]?=wb.heap[b]?:=by
  intro b ⟨f1,f2,f3,f4⟩
  have cT:b≠l:=fun e=>JG (e ▸ f4)
  have hn:¬lC φ b:=fun ⟨id,hid⟩=>f3 id hid
  refine ⟨⟨by rw [Kw];omega,by simp,fun id hid=>?_,.inl ⟨f4,f1⟩⟩,(D9 b aj hn cT).trans (h5 b f4 f1)⟩
  rcases N_ id b hid with h|h
  ·omega
  ·exact hn h
 have f_:aG Z4 (w3.putObj l (.loop po)) n [] ⟨F,X⟩ ⟨tm,[]⟩ (w3.putObj l (.loop po)) vj:=by
  refine ⟨h1.jL,rfl,⟨rfl,rfl,rfl,Nat.le_refl _,fun _ _ _=>rfl,fq.mw,fun b hb=>Fi.sq hb⟩,fun i av hi=>?_,fun id q hq=>?_,Fi.only,Fi.inj,fun id g hg=>⟨⟨?_,.inr ⟨id,hg⟩⟩,by rw [Kw];exact (Mm id g hg).2⟩,fun _ _ _ h=>(by cases h),fun b hb=>?_⟩
  ·
   have dM:Den (az H φ) (aM Z wb φ []) wb (tm.getD i undef) av:=h1.cB i av hi
   show Den (az X vj) (aM Z4 (w3.putObj l (.loop po)) vj []) (w3.putObj l (.loop po)) (tm.getD i undef) av
   generalize tm.getD i undef=tv at dM ⊢
   have Eb:=hF i av hi
   have H0:=Sc i av hi
   have qu:cA (aM Z wb φ []) wb tv av->Den (az X vj) (aM Z4 (w3.putObj l (.loop po)) vj []) (w3.putObj l (.loop po)) tv av:=fun h=>.rep (h.mono ux)
   cases av with
   | val=>exact qu (by cases dM with|rep h=>exact h)
   | nil=>exact qu (by cases dM with|rep h=>exact h)
   | arr=>exact qu (by cases dM with|rep h=>exact h)
   | sl=>exact qu (by cases dM with|rep h=>exact h)
   | ptr=>exact qu (by cases dM with|rep h=>exact h)
   | lB=>exact qu (by cases dM with|rep h=>exact h)
   | dead=>exact .dead _
   | agg cs =>
    obtain ⟨vs,hv,qY,hd⟩:=ka dM
    rw [hv]
    exact .rep ((cA.agg vs cs qY fun j v c hv hc=>(eE (hd j v c hv hc) (iz Eb hc)).1).mono ux)
   | addr id off =>
    simp only [QU] at H0
    split at H0
    ·rename_i q hb lu
     split at H0
     ·cases H0
     ·rename_i x0 xs wE
      have uz:=Nat.le_of_ble_eq_true hb
      cases dM with
      | rep h=>cases h
      | addr _ _ e m g hi =>
       obtain ⟨_,-,-,-,hg⟩:=aO hi
       have UD:fx id=some g:=by
        rcases (h1.cU id g hg).1.1 with h|h
        ·omega
        ·rw [←h2];exact h
       have aN:=Fi.rows id q lu
       unfold bN at aN
       cases RJ:vj id with
       | none=>rw [RJ] at aN;simp only at aN;rw [wE] at aN;cases aN
       | some g4 =>
        have:fx id=some g4:=by
         rcases (Fi.cU id g4 RJ).1.1 with h|h
         ·omega
         ·rw [←KF];exact h
        rw [UD] at this;injection this with this;subst this
        exact .addr id off q.e q.cells.length g (by unfold az;rw [lu,RJ];rfl)
    ·cases H0
   | _=>cases Eb
  ·
   have aN:=Fi.rows id q hq
   unfold bN at aN ⊢
   cases hg:vj id with
   | none=>rw [hg] at aN;exact aN
   | some g =>
    rw [hg] at aN
    obtain ⟨cur,te,fr,u1,u2,u3,u4,u5⟩:=aN
    refine ⟨cur,te,fr,(Cg g (QW id g hg)).trans u1,u2,u3,u4,fun j u x hu hx=>?_⟩
    have:=u5 j u x hu hx
    have hc:=hX id q hq j x hx
    unfold bh at this ⊢
    cases hp:q.pure with
    | true=>rw [hp] at this;exact BO this hc
    | false=>rw [hp] at this;exact C5 this hc U2
  ·rcases (Fi.cU id g hg).1.1 with h|h
   ·exact .inl h
   ·right;show fx id=some g;rw [←KF];exact h
  ·rcases hb with h|h
   ·exact .inr (.inr h)
   ·exact .inr (.inl h)
 refine ⟨⟨⟨w3.putObj l (.loop po),vj,Z4,f_,rfl,by rw [Kw];omega,Nat.le_refl _,fun _ _ _=>rfl,fun b hb dd=>?_,fun id g hg=>?_,fun b hb dd hS=>?_,fun b hb id hid=>?_,fun hS=>?_,fun hS=>?_,fun p hp=>(M8 p hp).mono ux⟩,?_,hM.base,hM.PO,hM.hl,hM.hr,hM.Kl,World.putObj_heap_same LF,hM.Kf,hM.NK,hM.rl,hM.Kr,?_⟩,fun b hb=>?_⟩
 ·rcases hb with h|⟨id,hid⟩|h
  ·exact h6 b h.1 h.2
  ·rcases N_ id b hid with h|⟨j,hj⟩
   ·
    have:=hM.base;exact hM.Kf b aj
   ·exact h6 b (own j b hj).1 (own j b hj).2
  ·omega
 ·rcases N_ id g hg with h|⟨j,hj⟩
  ·left;have:=hM.base;omega
  ·exact h7 j g hj
 ·rcases hS with h|h|h
  ·exact h8 b hb h.2 h.1
  ·obtain ⟨id,hid⟩:=h
   rcases N_ id b hid with h|⟨j,hj⟩
   ·have:=hK b (Oc b hb);omega
   ·exact h8 b hb (own j b hj).2 (own j b hj).1
  ·have:=hK b (Oc b hb);omega
 ·rcases N_ id b hid with h|⟨j,hj⟩
  ·have:=hK b hb;omega
  ·exact h9 b hb j hj
 ·rcases hS with h|⟨id,hid⟩|h
  ·exact JG h.1
  ·exact QW id l hid rfl
  ·omega
 ·rcases hS with h|⟨id,hid⟩|h
  ·exact Ii h.1
  ·exact Ug (Mm id r hid).1
  ·have:=hM.hr;omega
 ·exact fq
 ·have cT:r≠l:=hM.rl
  refine (D9 r (by have:=hM.hr;omega) (fun ⟨id,hid⟩=>Ii (own id r hid).1) cT).trans hM.jO
 ·refine D9 b (hK b hb) (fun ⟨id,hid⟩=>h9 b hb id hid) fun e=>hM.Kl (e ▸ hb)
end
def Ml:Code->Option (Operand×Array Tmp×Code×Code)
 | .rangeFunc g ps x b=>some (g,ps,x,b)
 | _=>none
def J_:List (Nat×Nat)->AS->AS
 | [],s=>s
 | (x,y):: ρ,s=>J_ ρ (rename x y (cm y s))
def lf:List (Nat×Nat)->AS->AS
 | [],s=>s
 | (x,y):: ρ,s=>lf ρ (rename y x (cm x s))
def ng:List (Nat×Nat)->Bool
 | []=>true
 | (x,y):: ρ =>match Nat.ble x 999999999999,Nat.ble 1000000000000 y with|true,true=>ng ρ |_,_=>false
section
variable {n:Nat} {a:Act} {w w0:World}
theorem Hc:∀(ρ :List (Nat×Nat)) (s:AS) (Z:bm) (φ:Nat->Option Nat),ng ρ =true->aG Z w0 n [] s a w φ-> ∃fx cz,aG ⟨Z.S,Z.X,fx,Z.r8⟩ w0 n [] (J_ ρ s) a w cz∧(∀i,i ∉ ρ.map (·.2)->fx i=Z.fix i)∧(∀id g,cz id=some g->lC φ g)
 | [],s,Z,φ,_,h=>⟨Z.fix,φ,h,fun _ _=>rfl,fun id g hg=>⟨id,hg⟩⟩
 | (x,y):: ρ,s,Z,φ,hp,h=>by
  simp only [ng] at hp
  split at hp
  ·rename_i hx hy
   have hx:=Nat.le_of_ble_eq_true hx
   have hy:=Nat.le_of_ble_eq_true hy
   have h1:=h.l9 y
   let Z2:bm:=⟨Z.S,Z.X,fun i=>if i=y then erase φ y x else Z.fix i,Z.r8⟩
   have h2:aG Z2 w0 n [] (cm y s) a w (erase φ y):=⟨h1.jL,h1.jO,⟨h1.cV.os,h1.cV.tape,h1.cV.output,h1.cV.size,h1.cV.block,h1.cV.g0,h1.cV.gx⟩,h1.cB,h1.rows,h1.only,h1.inj,fun id g hg=>⟨⟨(h1.cU id g hg).1.1.imp (fun h=>h) fun hf=>by
     show (if id=y then erase φ y x else Z.fix id)=some g
     have cT:id≠y:=fun e=>by subst e;unfold erase at hg;rw [if_pos rfl] at hg;cases hg
     rw [if_neg cT];exact hf,(h1.cU id g hg).1.2⟩,(h1.cU id g hg).2⟩,h1.apart,h1.new⟩
   have h3:=h2.DM x y (.inr fun g hg=>by show (if y=y then erase φ y x else Z.fix y)=some g;rw [if_pos rfl];exact hg) aj (di y)
   obtain ⟨fx,cz,h4,h5,h6⟩:=Hc ρ _ Z2 _ hp h3
   refine ⟨fx,cz,h4,fun i hi=>?_,fun id g hg=>?_⟩
   ·simp only [List.map_cons,List.mem_cons,not_or] at hi
    rw [h5 i hi.2]
    show (if i=y then erase φ y x else Z.fix i)=Z.fix i
    rw [if_neg hi.1]
   ·obtain ⟨j,hj⟩:=h6 id g hg
    unfold zz erase at hj
    split at hj
    ·split at hj
     ·cases hj
     ·exact ⟨_,hj⟩
    ·split at hj
     ·cases hj
     ·exact ⟨_,hj⟩
  ·cases hp
theorem zd {Z:bm}:∀(ρ :List (Nat×Nat)) (s:AS) (φ:Nat->Option Nat),ng ρ =true->aG Z w0 n [] s a w φ-> ∃ cz,aG Z w0 n [] (lf ρ s) a w cz∧(∀id g,cz id=some g->lC φ g)∧(∀id,1000000000000≤id->id∈ ρ.map (·.2)∨φ id=none->cz id=none)
 | [],s,φ,_,h=>⟨φ,h,fun id g hg=>⟨id,hg⟩,fun id _ hid=>hid.resolve_left (by simp)⟩
 | (x,y):: ρ,s,φ,hp,h=>by
  simp only [ng] at hp
  split at hp
  ·rename_i hx hy
   have hx:=Nat.le_of_ble_eq_true hx
   have hy:=Nat.le_of_ble_eq_true hy
   have h1:=h.l9 x
   have h3:=h1.DM y x (.inl aj) aj (di x)
   obtain ⟨cz,h4,h5,h6⟩:=zd ρ _ _ hp h3
   refine ⟨cz,h4,fun id g hg=>?_,fun id hid sP=>h6 id hid ?_⟩
   ·obtain ⟨j,hj⟩:=h5 id g hg
    unfold zz erase at hj
    split at hj
    ·split at hj
     ·cases hj
     ·exact ⟨_,hj⟩
    ·split at hj
     ·cases hj
     ·exact ⟨_,hj⟩
   ·have key:(id=y∨φ id=none)->zz y x (erase φ x) id=none:=by
     intro sP
     unfold zz erase
     rw [if_neg aj]
     rcases sP with e|e
     ·rw [if_pos e]
     ·split
      ·rfl
      ·rw [if_neg aj];exact e
    rcases sP with sP|sP
    ·simp only [List.map_cons,List.mem_cons] at sP
     rcases sP with sP|sP
     ·exact .inr (key (.inl sP))
     ·exact .inl sP
    ·exact .inr (key (.inr sP))
  ·cases hp
end
def Dq (op:List (Value×AV)) (s s1:AS):Prop:=∀Z w0 n a w φ,aG Z w0 n [] s a w φ->(∀p∈op,cA (aM Z w φ []) w p.1 p.2)->aG Z w0 n [] s1 a w φ
def RQ (op:List (Value×AV)) (Q:Exit->AS->Prop) (ρ :List (Nat×Nat)) (F:List (Nat×AV)) (H:List (Nat×Row)):Exit->AS->Prop
 | .normal,s'=>bR s' ⟨[],H⟩
 | .exit id,s'=>∃X s1,jy X∧B1 X F=true∧bR s' ⟨[],X⟩∧Dq op ⟨F,X⟩ s1∧Q (.exit id) (lf ρ s1)
 | .ret,s'=>∃X s1,jy X∧B1 X F=true∧bR s' ⟨[],X⟩∧Dq op ⟨F,X⟩ s1∧Q .ret (lf ρ s1)
 | _,_=>False
def Jr (op:List (Value×AV)) (Q:Exit->AS->Prop) (ρ :List (Nat×Nat)) (s:AS) (c:Code):Prop:=∃s1,Dq op s s1∧((∃id,c= .exit id∧Q (.exit id) (lf ρ s1))∨(c= .ret∧Q .ret (lf ρ s1)))
section
variable {op:List (Value×AV)} {P:Program} {S0:bm} {w0:World} {n:Nat} {tm:Array Value} {fx:Nat->Option Nat} {r l:Nat} {we:World} {Q:Exit->AS->Prop} {ρ :List (Nat×Nat)}
theorem E6 {fn:FuncId} {ps:Array Tmp} {x bd:Code} {F:List (Nat×AV)} {H H':List (Nat×Row)} {As:List AV} {O K:Nat->Prop} {w1:World} {vs:List Value}
  (hM:ED op S0 w0 n tm fx r l we {state:=.ready,pending:=none,fn:=fn,tmps:=tm,params:=ps,assign:=x,body:=bd,defers:=r} ⟨F,H⟩ O K w1) (Oc:∀b,O b->K b) (hK:∀b,K b->b<w1.heap.size)
  (hl:vs.length=As.length) (hd:∀(j:Nat) v x,vs[j]?=some v->As[j]?=some x->cA K w1 v x) (Pc:ps.toList.length=As.length) (Ph:∀p∈ps.toList,p<n) (KK:kO x=true) (PF:kO bd=true)
  (hA:bf P n x (rD (bf P n bd (RQ op Q ρ F H')) (fun _ _=>False)) (G8 ps.toList As ⟨F,H⟩)) (U3:jy H') (hF:Ol F H) (U6:Ol F H') :
  oc P l vs w1 fun t w2=>Good w2∧w1.heap.size≤w2.heap.size∧(∀b,K b->w2.heap[b]?=w1.heap[b]?) ∧
   (t=true->ED op S0 w0 n tm fx r l we {state:=.ready,pending:=none,fn:=fn,tmps:=tm,params:=ps,assign:=x,body:=bd,defers:=r} ⟨F,H'⟩ O K w2) ∧
   (t=false-> ∃X c,ED op S0 w0 n tm fx r l we {state:=.done,pending:=some c,fn:=fn,tmps:=tm,params:=ps,assign:=x,body:=bd,defers:=r} ⟨F,X⟩ O K w2∧Jr op Q ρ ⟨F,X⟩ c):=by
 obtain ⟨wb,φ,Z,h1,h2,h3,h4,h5,h6,h7,h8,h9,JG,Ii,M8⟩:=hM.ex
 have own:∀id g,φ id=some g->Z.S g∧g<wb.heap.size:=fun id g hg=>⟨h1.new g (h1.cU id g hg).1.2,(h1.cU id g hg).2⟩
 have LF:l<w1.heap.size:=by have:=hM.hl;omega
 have Ec:¬lC φ l:=fun ⟨id,hid⟩=>JG (own id l hid).1
 have Tb:¬lC φ r:=fun ⟨id,hid⟩=>Ii (own id r hid).1
 refine ⟨_,_,_,_,run_yield hM.G4 (by simp [hl,←Pc]),?_⟩
 refine roundIn_of_wpIn trivial ?_
 let Z1:bm:=⟨fun b=>(Z.S b∧b<wb.heap.size)∨w1.heap.size≤b∨K b,lC φ,fx,[]⟩
 have Gb:¬Z1.S l:=fun h=>by
  rcases h with h|h|h
  ·exact JG h.1
  ·omega
  ·exact hM.Kl h
 have O_:¬Z1.S r:=fun h=>by
  rcases h with h|h|h
  ·exact Ii h.1
  ·have:=hM.hr;omega
  ·exact hM.Kr h
 have Pl:∀b,(w1.heap.size≤b∨lC φ b)->Z1.S b:=fun b hb=>hb.elim (fun h=>.inr (.inl h)) fun ⟨id,hid⟩=>.inl (own id b hid)
 have s1:aG Z1 w1 n [] ⟨F,H⟩ ⟨tm,[]⟩ w1 φ:=h1.qH h4 (fun b hb dd=>h5 b hb dd) (fun b hb dd=>.inl ⟨hb,dd⟩) Pl (fun id g hg=>⟨id,hg⟩) (fun id g hg=>by
  rcases (h1.cU id g hg).1.1 with h|h
  ·exact .inl h
  ·right;show fx id=some g;rw [←h2];exact h) rfl rfl hM.kept.mw (fun b hb=>h1.sq hb)
 have s2:=wj ps.toList vs As ⟨F,H⟩ ⟨tm,[]⟩ s1 hl Ph fun j v x hv hx=>.rep ((hd j v x hv hx).mono fun b hb=>⟨⟨hK b hb,by simp,h9 b hb,.inr (.inr hb)⟩,rfl⟩)
 have e0:((ps.zip vs.toArray).foldl (fun (t:Array Value) (p:Tmp×Value)=>t.setIfInBounds p.1 p.2) tm)=((ps.toList.zip vs).foldl (fun t p=>t.setIfInBounds p.1 p.2) tm):=by
  rw [←Array.foldl_toList];simp
 have hx:=hA Z1 w1 _ w1 ⟨φ,s2⟩
 have e1:({tmps:=((ps.zip vs.toArray).foldl (fun (t:Array Value) (p:Tmp×Value)=>t.setIfInBounds p.1 p.2) tm),defers:=[]}:Act)=⟨(ps.toList.zip vs).foldl (fun t p=>t.setIfInBounds p.1 p.2) tm,[]⟩:=by rw [e0]
 show x.wpIn (Fence.wide.inRound l) 0 P _ ({tmps:=((ps.zip vs.toArray).foldl (fun (t:Array Value) (p:Tmp×Value)=>t.setIfInBounds p.1 p.2) tm),defers:=[]}:Act) w1
 rw [e1]
 refine iw (ro:=some l) x _ _ _ KK (by rintro ⟨_,_,h⟩;exact h) (dX x _ _ (fun e a1 Ln ⟨s',hq,bZ⟩=>?_) _ _ hx)
 cases e with
 | normal =>
  obtain ⟨S1,Vy,ms,hE,iG,gS⟩:=bZ
  have k1:=hE.kept.trans gS.cV hE.X
  have O9:=(k1.block l LF Ec).trans hM.G4
  refine ⟨_,run_beginRound O9 rfl,?_⟩
  generalize NP:Ln.putObj l _=w2
  have Fg:w2.heap.size=Ln.heap.size:=by rw [←NP];exact World.putObj_size
  have Ga:∀b,b≠l->w2.heap[b]?=Ln.heap[b]?:=fun b hb=>by rw [←NP];exact World.putObj_heap_other hb
  have O8:w2.heap[l]?=some (.loop {state:=.busy,pending:=none,fn:=fn,tmps:=tm,params:=ps,assign:=x,body:=bd,defers:=r}):=by rw [←NP];exact World.putObj_heap_same (Nat.lt_of_lt_of_le LF k1.size)
  have OE:∀id g,iG id=some g->S1.S g∧g<Ln.heap.size:=fun id g hg=>⟨gS.new g (gS.cU id g hg).1.2,(gS.cU id g hg).2⟩
  have M1:∀b,S1.S b->b≠l:=fun b hb e=>Gb (hE.sub l (e ▸ hb))
  have Ow:∀id g,iG id=some g->w1.heap.size≤g∨lC φ g:=fun id g hg=>by
   rcases (gS.cU id g hg).1.2 with h|h
   ·exact .inl (Nat.le_trans hE.kept.size h)
   ·exact hE.X g h
  let Z2:bm:=⟨fun b=>(S1.S b∧b<Ln.heap.size)∨w2.heap.size≤b,lC iG,fx,a1.defers⟩
  have s3:aG Z2 w2 n [] s' a1 w2 iG:=gS.qH aj (fun b hb _=>Ga b (M1 b hb)) (fun b hb dd=>.inl ⟨hb,dd⟩) (fun b hb=>hb.elim .inr fun ⟨id,hid⟩=>.inl (OE id b hid)) (fun id g hg=>⟨id,hg⟩) (fun id g hg=>by
   rcases (gS.cU id g hg).1.1 with h|h
   ·exact .inl h
   ·right;show fx id=some g;rw [hE.fix] at h;exact h) rfl rfl (gS.cV.mw.aa fun b hb=>Ga b fun e=>hM.kept.sq (.inl hM.NK) (e ▸ hb)) (fun b hb=>gS.sq hb)
  have hb:=hq Z2 w2 a1 w2 ⟨iG,s3⟩
  refine iw (ro:=some l) bd _ _ _ PF (by rintro ⟨_,_,h⟩;exact h) (dX bd _ _ (fun e a3 w3 ⟨TR,Qm,Qj⟩=>?_) _ _ hb)
  obtain ⟨S3,QO,VH,M7,wU,Qj⟩:=Qj
  have k3:=M7.kept.trans Qj.cV M7.X
  have Rq:¬lC iG l:=fun ⟨id,hid⟩=>M1 l (OE id l hid).1 rfl
  have HU:=(k3.block l (by rw [Fg];exact Nat.lt_of_lt_of_le LF k1.size) Rq).trans O8
  have Kx:w1.heap.size≤w3.heap.size:=Nat.le_trans k1.size (by rw [←Fg];exact k3.size)
  have AD:∀b,b<w1.heap.size-> ¬lC φ b->b≠l->w3.heap[b]?=w1.heap[b]?:=fun b dd hn cT =>
   (k3.block b (by rw [Fg];exact Nat.lt_of_lt_of_le dd k1.size) fun ⟨id,hid⟩=>(Ow id b hid).elim (fun h=>aj) hn).trans ((Ga b cT).trans (k1.block b dd hn))
  have HW:w2.os=Ln.os∧w2.tape=Ln.tape∧w2.output=Ln.output:=by rw [←NP];exact ⟨rfl,rfl,rfl⟩
  have R4:¬S3.S l:=fun h=>(M7.sub l h).elim (fun h=>M1 l h.1 rfl) fun h=>by have:=k1.size;omega
  have R3:¬S3.S r:=fun h=>(M7.sub r h).elim (fun h=>O_ (hE.sub r h.1)) fun h=>by have:=k1.size;have:=hM.hr;omega
  have next:∀(X:List (Nat×Row)) (po:Loop),bR TR ⟨[],X⟩->jy X->Ol F X->ED op S0 w0 n tm fx r l we po ⟨F,X⟩ O K (w3.putObj l (.loop po))∧(∀b,K b->(w3.putObj l (.loop po)).heap[b]?=w1.heap[b]?):=by
   intro X po hw hX Sc
   obtain ⟨vj,Fi⟩:=hw S3 QO n a3 w3 ⟨wU,Qj⟩
   exact Hq hM Oc hK h1 h2 h3 h4 h5 h6 h7 h8 h9 JG Ii M8 Fi M7.fix (fun id g hg=>by
    rcases (Fi.cU id g hg).1.2 with h|h
    ·left;have:=M7.kept.size;have:=k1.size;omega
    ·rcases M7.X g h with h|⟨j,hj⟩
     ·left;have:=k1.size;omega
     ·exact Ow j g hj) R4 R3 (k3.os.trans (HW.1.trans k1.os)) (k3.tape.trans (HW.2.1.trans k1.tape)) (k3.output.trans (HW.2.2.trans k1.output)) Kx AD hX hF Sc
  cases e with
  | normal =>
   obtain ⟨g1,g2⟩:=next H' {state:=.ready,pending:=none,fn:=fn,tmps:=tm,params:=ps,assign:=x,body:=bd,defers:=r} Qm U3 U6
   exact ⟨_,_,run_endRound none HU,true,rfl,g1.kept.mw,by rw [World.putObj_size];exact Kx,g2,fun _=>g1,fun h=>(by cases h)⟩
  | exit id =>
   obtain ⟨X,s1,q1,q2,q3,q5,q4⟩:=Qm
   obtain ⟨g1,g2⟩:=next X {state:=.done,pending:=some (.exit id),fn:=fn,tmps:=tm,params:=ps,assign:=x,body:=bd,defers:=r} q3 q1 (pN q2)
   exact ⟨_,_,run_endRound (some (.exit id)) HU,false,rfl,g1.kept.mw,by rw [World.putObj_size];exact Kx,g2,fun h=>(by cases h),fun _=>⟨X,.exit id,g1,s1,q5,.inl ⟨id,rfl,q4⟩⟩⟩
  | ret =>
   obtain ⟨X,s1,q1,q2,q3,q5,q4⟩:=Qm
   obtain ⟨g1,g2⟩:=next X {state:=.done,pending:=some .ret,fn:=fn,tmps:=tm,params:=ps,assign:=x,body:=bd,defers:=r} q3 q1 (pN q2)
   exact ⟨_,_,run_endRound (some .ret) HU,false,rfl,g1.kept.mw,by rw [World.putObj_size];exact Kx,g2,fun h=>(by cases h),fun _=>⟨X,.ret,g1,s1,q5,.inr ⟨rfl,q4⟩⟩⟩
  | _=>exact Qm.elim
 | _=>exact hq.elim
theorem DT {rc:Loop} {s s1:AS} {O K:Nat->Prop} {w':World} {a a':Act} (hM:ED op S0 w0 n a.tmps fx r l we rc s O K w') (Mu :ng ρ =true) (UE:∀i,i ∉ ρ.map (·.2)->fx i=S0.fix i) (Rk:w0.heap.size≤r) (ht:a'.tmps=a.tmps) (hd:a'.defers=mark r::S0.r8) (gC:Dq op s s1) (po:Loop) :
  mP S0 w0 n (lf ρ s1) a' (w'.putObj l (.loop po)):=by
 obtain ⟨wb,φ,Z,h1,h2,h3,h4,h5,h6,h7,h8,h9,JG,Ii,M8⟩:=hM.ex
 obtain ⟨cz,u1,u2,u3⟩:=zd ρ _ _ Mu (gC _ _ _ _ _ _ h1 M8)
 have LF:l<w'.heap.size:=by have:=hM.hl;omega
 have dq:(w'.putObj l (.loop po)).heap.size=w'.heap.size:=World.putObj_size
 have ho:∀b,b≠l->(w'.putObj l (.loop po)).heap[b]?=w'.heap[b]?:=fun b hb=>World.putObj_heap_other hb
 have own:∀id g,cz id=some g->Z.S g∧g<wb.heap.size:=fun id g hg=>⟨u1.new g (u1.cU id g hg).1.2,(u1.cU id g hg).2⟩
 let S1:bm:=⟨fun b=>(Z.S b∧b<wb.heap.size)∨w'.heap.size≤b,lC cz,S0.fix,mark r::S0.r8⟩
 have hs:aG S1 (w'.putObj l (.loop po)) n [] (lf ρ s1) a' (w'.putObj l (.loop po)) cz:=u1.qH (by rw [dq];exact h4) (fun b hb dd=>(ho b fun e=>JG (e ▸ hb)).trans (h5 b hb dd)) (fun b hb dd=>.inl ⟨hb,dd⟩) (fun b hb=>by
   rcases hb with h|⟨id,hid⟩
   ·right;rw [dq] at h;exact h
   ·exact .inl (own id b hid)) (fun id g hg=>⟨id,hg⟩) (fun id g hg=>by
  rcases Nat.lt_or_ge id 1000000000000 with h|h
  ·exact .inl h
  ·right
   rcases (u1.cU id g hg).1.1 with h'|h'
   ·omega
   ·show S0.fix id=some g
    have gb:id ∉ ρ.map (·.2):=fun hm=>(by rw [u3 id h (.inl hm)] at hg;cases hg)
    rw [←UE id gb,←h2];exact h') ht hd (hM.kept.mw.aa fun b hb=>ho b fun e=>hM.kept.sq (.inl hM.NK) (e ▸ hb)) (fun b hb=>u1.sq hb)
 refine ⟨S1,w'.putObj l (.loop po),[r],⟨⟨hM.kept.os,hM.kept.tape,hM.kept.output,by rw [dq];exact hM.kept.size,fun k hk hx=>(ho k fun e=>by have:=hM.NK;omega).trans (hM.kept.block k hk hx),hM.kept.g0,hM.kept.gx⟩,fun b hb=>?_,fun b ⟨id,hid⟩=>?_,rfl,rfl,by simp,fun r' il=>?_⟩,cz,hs⟩
 ·rcases hb with h|h
  ·exact h6 b h.1 h.2
  ·exact hM.Kf b (Nat.le_trans hM.kept.size h)
 ·obtain ⟨j,hj⟩:=u2 id b hid
  exact h7 j b hj
 ·obtain rfl:r'=r:=by simpa using il
  refine ⟨Rk,by rw [dq];have:=hM.hr;omega,(ho _ hM.rl).trans hM.jO,fun h=>?_,fun ⟨id,hid⟩=>Ii (own id _ hid).1⟩
  rcases h with h|h
  ·exact Ii h.1
  ·have:=hM.hr;omega
theorem bf.range {c:Code} {s:AS} {g:Operand} {ps:Array Tmp} {x bd:Code} (hc:Ml c=some (g,ps,x,bd)) {f:Nat} {lz:List AV} (A:Nat->List AV) (N:Nat) (hit:wT P f lz A N) (hE:ia P f=true) (KK:kO x=true) (PF:kO bd=true)
  (ρ :List (Nat×Nat)) (Mu :ng ρ =true) (xs:List AV) (F:List (Nat×AV)) (I:List Value->Nat->List (Nat×Row)) (sN:AS)
  (hw:∀Z w0 a w φ,aG Z w0 n [] (J_ ρ s) a w φ-> ∃ jW vs,vs.length=xs.length∧aG Z w0 n [] ⟨F,I vs 0⟩ a w jW∧ ∀p∈vs.zip xs,cA (aM Z w jW []) w p.1 p.2) (hg:∀vs,vs.length=xs.length->bp ⟨F,I vs 0⟩ g= .lB f lz) (Pc:∀i,ps.toList.length=(A i).length) (Ph:(ps.toList.all fun p=>Nat.blt p n)=true)
  (hI:∀vs i,vs.length=xs.length->i≤N->jy (I vs i)∧B1 (I vs i) F=true) (o7:∀vs i,vs.length=xs.length->i<N->bf P n x (rD (bf P n bd (RQ (vs.zip xs) Q ρ F (I vs (i+1)))) (fun _ _=>False)) (G8 ps.toList (A i) ⟨F,I vs i⟩)) (gC:∀vs,vs.length=xs.length->Dq (vs.zip xs) ⟨F,I vs N⟩ sN) (MO:Q .normal (lf ρ sN)):bf P n c Q s:=by
 cases c with
 | rangeFunc g' VG x' V9 =>
  cases hc
  intro S0 w0 a w ⟨φ,hs⟩
  show (Code.rangeFunc g ps x bd).wp P _ a w
  refine wpIn_wide.1 (wpIn_rangeFunc (n:=0) fun fn _=>?_)
  obtain ⟨fx,iG,Pj,NR,-⟩:=Hc ρ s S0 φ Mu hs
  obtain ⟨jW,us,yU,mN,vf⟩:=hw _ _ _ _ _ Pj
  have dg:=mN.bp g
  rw [hg us yU] at dg
  obtain ⟨cv,hv,Gb,Ci⟩:=DL dg
  generalize NN:(w.alloc (.deferred (some []))).alloc (.loop {state:=.ready,pending:=none,fn:=fn,tmps:=a.tmps,params:=ps,assign:=x,body:=bd,defers:=w.heap.size})=we
  have dq:we.heap.size=w.heap.size+2:=by rw [←NN];simp
  have hold:∀b,b<w.heap.size->we.heap[b]?=w.heap[b]?:=fun b hb=>by
   rw [←NN,Below.heap_alloc _ _ _ (by simp;omega),Below.heap_alloc _ _ _ hb]
  have Tb:we.heap[w.heap.size]?=some (.deferred (some [])):=by rw [←NN,Below.heap_alloc _ _ _ (by simp)];exact World.alloc_heap_new w _
  have Ec:we.heap[w.heap.size+1]?=some (.loop {state:=.ready,pending:=none,fn:=fn,tmps:=a.tmps,params:=ps,assign:=x,body:=bd,defers:=w.heap.size}):=by
   rw [←NN]
   have:=World.alloc_heap_new (w.alloc (.deferred (some []))) (.loop {state:=.ready,pending:=none,fn:=fn,tmps:=a.tmps,params:=ps,assign:=x,body:=bd,defers:=w.heap.size})
   rw [World.size_alloc] at this;exact this
  have Q9:we.os=w.os∧we.tape=w.tape∧we.output=w.output:=by rw [←NN];exact ⟨rfl,rfl,rfl⟩
  refine ⟨w.heap.size+1,[mark w.heap.size],we,{target:=.fn (.func f) cv.toArray,args:= #[.func (.yield (w.heap.size+1)) #[] #[]]},we,f,(Value.func (.yield (w.heap.size+1)) #[] #[]::cv).toArray,we,?_,?_,fun _ _=>trivial,?_,fun h=>by simp [Fence.wide] at h,?_⟩
  ·rw [←NN];exact run_enterLoop_outer fn a.tmps ps x bd
  ·have ec:a.eval (.const (Value.func (.yield (w.heap.size+1)) #[] #[]))=Value.func (.yield (w.heap.size+1)) #[] #[]:=rfl
   unfold resolve;simp [hv,ec,Deferred.ofValue]
  ·have e:(Value.func (.yield (w.heap.size+1)) #[] #[]::cv).toArray= #[Value.func (.yield (w.heap.size+1)) #[] #[]]++cv.toArray:=by apply Array.ext';simp
   rw [e]
   exact oY hE _ _
  ·refine callsIn_wide.2 ?_
   have vg:w0.heap.size≤w.heap.size:=mN.cV.size
   have QT:∀id g,jW id=some g->S0.S g∧g<w.heap.size:=fun id g hg=>⟨mN.new g (mN.cU id g hg).1.2,(mN.cU id g hg).2⟩
   let Z:bm:=⟨fun b=>(S0.S b∧b<w.heap.size)∨we.heap.size≤b,lC jW,fx,[]⟩
   have hZ:aG Z we n [] ⟨F,I us 0⟩ ⟨a.tmps,[]⟩ we jW:=mN.qH aj (fun b _ dd=>hold b dd) (fun b hb dd=>.inl ⟨hb,dd⟩) (fun b hb=>hb.elim .inr fun ⟨id,hid⟩=>.inl (QT id b hid)) (fun id g hg=>⟨id,hg⟩) (fun id g hg=>(mN.cU id g hg).1.1) rfl rfl (mN.cV.mw.aa fun b hb=>hold b (mN.cV.mw.lt hb)) (fun b hb=>mN.sq hb)
   have U0:ED (us.zip xs) S0 w0 n a.tmps fx w.heap.size (w.heap.size+1) we {state:=.ready,pending:=none,fn:=fn,tmps:=a.tmps,params:=ps,assign:=x,body:=bd,defers:=w.heap.size} ⟨F,I us 0⟩ (fun _=>False) (aM ⟨S0.S,S0.X,fx,S0.r8⟩ w jW []) we:=by
    refine ⟨⟨we,jW,Z,hZ,rfl,Nat.le_refl _,Nat.le_refl _,fun _ _ _=>rfl,fun b hb dd=>?_,fun id g hg=>(mN.cU id g hg).1.2,fun _ h=>h.elim,fun b hb=>hb.2.2.1,fun h=>?_,fun h=>?_,fun p hp=>(vf p hp).mono fun b hb=>⟨⟨by rw [dq];have:=hb.1;omega,by simp,hb.2.2.1,.inl ⟨hb.2.2.2,hb.1⟩⟩,hold b hb.1⟩⟩,?_,aj,fun _ h=>h.elim,aj,aj,fun h=>?_,Ec,fun b hb=>mN.new b (.inl hb),aj,aj,fun h=>?_,Tb⟩
    ·rcases hb with h|h
     ·exact h.1
     ·omega
    ·rcases h with h|h<;>omega
    ·rcases h with h|h<;>omega
    ·exact ⟨Q9.1.trans mN.cV.os,Q9.2.1.trans mN.cV.tape,Q9.2.2.trans mN.cV.output,aj,fun k hk hx=>(hold k aj).trans (mN.cV.block k hk hx),mN.cV.g0,mN.cV.gx⟩
    ·have:=h.1;omega
    ·have:=h.1;omega
   have mJ:=hit (w.heap.size+1) we (aM ⟨S0.S,S0.X,fx,S0.r8⟩ w jW []) cv
    (fun i=>ED (us.zip xs) S0 w0 n a.tmps fx w.heap.size (w.heap.size+1) we {state:=.ready,pending:=none,fn:=fn,tmps:=a.tmps,params:=ps,assign:=x,body:=bd,defers:=w.heap.size} ⟨F,I us i⟩)
    (fun O K w'=>∃X c,ED (us.zip xs) S0 w0 n a.tmps fx w.heap.size (w.heap.size+1) we {state:=.done,pending:=some c,fn:=fn,tmps:=a.tmps,params:=ps,assign:=x,body:=bd,defers:=w.heap.size} ⟨F,X⟩ O K w'∧Jr (us.zip xs) Q ρ ⟨F,X⟩ c)
    hZ.cV.mw (fun b hb=>by have:=hb.1;omega) Gb (fun j v c hv hc=>(Ci j v c hv hc).mono fun b hb=>⟨hb,hold b hb.1⟩) (fun i=>ED.Gy)
    (fun O K w' O' K' fp ⟨X,c,hX,hc⟩ st h1 h2=>⟨X,c,ED.Gy O K w' O' K' fp hX st h1 h2,hc⟩)
    (fun i hi O K w1 vs hJ Oc hK hl hd=>E6 hJ Oc hK hl hd (Pc i) (fun p hp=>Nat.le_of_ble_eq_true (List.all_eq_true.1 Ph p hp)) KK PF (o7 us i yU hi) (hI us (i+1) yU hi).1 (pN (hI us i yU (Nat.le_of_lt hi)).2) (pN (hI us (i+1) yU hi).2)) U0
   refine mJ.mono fun e w' ⟨v,O,K,he,sP⟩=>?_
   subst he
   rcases sP with hM|⟨X,c,hM,s1,Tp,hj⟩
   ·exact ⟨_,_,run_endLoop hM.G4 (by simp),_,MO,DT (a:=a) (a':={a with defers:=[mark w.heap.size]++a.defers}) hM Mu NR vg rfl (by show mark w.heap.size::a.defers=_;rw [hs.jO]) (gC us yU) _⟩
   ·refine ⟨_,_,run_endLoop hM.G4 (by simp),?_⟩
    have j8:=DT (a:=a) (a':={a with defers:=[mark w.heap.size]++a.defers}) hM Mu NR vg rfl (by show mark w.heap.size::a.defers=_;rw [hs.jO]) Tp
    rcases hj with ⟨id,rfl,hq⟩|⟨rfl,hq⟩
    ·exact wpIn_exit ⟨_,hq,j8 _⟩
    ·exact wpIn_ret ⟨_,hq,j8 _⟩
 | _=>cases hc
end
def It (n:Nat) (J:(Nat->Prop)->(Nat->Prop)->World->Prop) (s:AS) (a:Act) (w:World):Prop :=
 ∃(wb:World) (Z:bm) (φ:Nat->Option Nat) (ms:List Nat),aG Z wb n [] s a w φ∧Z.r8=ms.map mark∧ms.Nodup∧(∀r∈ms,r<w.heap.size∧w.heap[r]?=some (.deferred (some []))∧ ¬Z.S r)∧J (fun b=>lC φ b∨b∈ms) (fun b=>(Z.S b∨b∈ms)∧b<w.heap.size) w
section
variable {P:Program} {n:Nat} {J:(Nat->Prop)->(Nat->Prop)->World->Prop} {s s':AS} {a:Act} {w:World} {Q:Exit->Act->World->Prop}
theorem It.begin (h:It n J s a w) (hJ:jP J):∃Z:bm,iv Z w n s a w∧ ∀(s':AS) (a':Act) (w':World),mP Z w n s' a' w'->It n J s' a' w':=by
 obtain ⟨wb,Z,φ,ms,h1,h2,h3,h4,h5⟩:=h
 have own:∀id g,φ id=some g->Z.S g∧g<w.heap.size:=fun id g hg=>⟨h1.new g (h1.cU id g hg).1.2,(h1.cU id g hg).2⟩
 let Z':bm:=⟨fun b=>(Z.S b∧b<w.heap.size)∨w.heap.size≤b,lC φ,φ,Z.r8⟩
 have hs:aG Z' w n [] s a w φ:=h1.qH (Nat.le_refl _) (fun _ _ _=>rfl) (fun b hb dd=>.inl ⟨hb,dd⟩) (fun b hb=>hb.elim .inr fun ⟨id,hid⟩=>.inl (own id b hid)) (fun id g hg=>⟨id,hg⟩) (fun id g hg=>.inr hg) rfl h1.jO h1.cV.mw (fun b hb=>h1.sq hb)
 refine ⟨Z',⟨φ,hs⟩,fun s' a' w' ⟨S1,w1,Qd,hE,cz,bZ⟩=>?_⟩
 have k:=hE.kept.trans bZ.cV hE.X
 have Um:∀r∈ms,¬lC φ r:=fun r hr ⟨id,hid⟩=>(h4 r hr).2.2 (own id r hid).1
 refine ⟨w1,S1,cz,Qd++ms,bZ,by rw [hE.r8,List.map_append];exact congrArg _ h2,?_,fun r hr=>?_,hJ _ _ _ _ _ _ h5 ⟨k.os,k.tape,k.output,k.size,fun b hb hn=>k.block b hb fun h=>hn (.inl h)⟩ (fun b hb=>?_) fun b hb=>?_⟩
 ·rw [List.nodup_append]
  refine ⟨hE.nodup,h3,fun r hr r' il e=>?_⟩
  subst e
  have:=(hE.marks r hr).1
  have:=(h4 r il).1
  omega
 ·rcases List.mem_append.1 hr with hr|hr
  ·obtain ⟨u1,u2,u3,u4,u5⟩:=hE.marks r hr
   exact ⟨Nat.lt_of_lt_of_le u2 bZ.cV.size,(bZ.cV.block r u2 u5).trans u3,u4⟩
  ·obtain ⟨u1,u2,u3⟩:=h4 r hr
   refine ⟨Nat.lt_of_lt_of_le u1 k.size,(k.block r u1 (Um r hr)).trans u2,fun h=>?_⟩
   rcases hE.sub r h with h|h
   ·exact u3 h.1
   ·omega
 ·rcases hb with ⟨id,hid⟩|hb
  ·rcases (bZ.cU id b hid).1.2 with h|h
   ·right;have:=hE.kept.size;omega
   ·exact (hE.X b h).elim .inr fun h=>.inl (.inl h)
  ·rcases List.mem_append.1 hb with hb|hb
   ·exact .inr (hE.marks b hb).1
   ·exact .inl (.inr hb)
 ·obtain ⟨hb,dd⟩:=hb
  rcases hb with hb|hb
  ·rcases hE.sub b hb with h|h
   ·exact .inl ⟨.inl h.1,h.2⟩
   ·exact .inr h
  ·rcases List.mem_append.1 hb with hb|hb
   ·exact .inr (hE.marks b hb).1
   ·exact .inl ⟨.inr hb,(h4 b hb).1⟩
theorem It.SF {c:Code} {Qs:Exit->AS->Prop} (h:It n J s a w) (hJ:jP J) (hc:bf P n c Qs s):BB P c (fun e a' w'=>∃s',Qs e s'∧It n J s' a' w') a w:=by
 obtain ⟨Z,hs,AH⟩:=h.begin hJ
 exact dX _ _ _ (fun e a' w' ⟨s',hq,bZ⟩=>⟨s',hq,AH s' a' w' bZ⟩) _ _ (hc Z w a w hs)
theorem It.oe (h:It n J s a w) (hJ:jP J) (hw:bR s s'):It n J s' a w:=by
 obtain ⟨Z,hs,AH⟩:=h.begin hJ
 exact AH _ _ _ (hw _ _ _ _ _ hs).one
theorem It.ops {ops:List Oper} {hs:List (Nat×Hint)} {l:List Oper} {i:Nat} {C:List Prop} (h:It n J s a w) (hJ:jP J) (he:jV P n ops hs l i s=some (s',C)) (hC:bx C) (hQ:∀a' w',It n J s' a' w'->Q .normal a' w'):wpList P ops.toArray Q l a w:=by
 obtain ⟨Z,hs,AH⟩:=h.begin hJ
 exact jJ (S0:=Z) (w0:=w) _ _ _ _ _ he hC a w hs fun a' w' bZ=>hQ a' w' (AH _ _ _ bZ.one)
theorem e_ {F:Fence} {m:Nat} {ops:Array Oper}:∀(l1 l2:List Oper) (a:Act) (w:World),wpListIn F m P ops (Exit.then (wpListIn F m P ops Q l2) Q) l1 a w->wpListIn F m P ops Q (l1++l2) a w
 | [],l2,a,w,h=>h
 | o::l1,l2,a,w,h=>by
  rw [List.cons_append]
  unfold wpListIn at h ⊢
  split at h
  ·rename_i hw
   rw [if_pos hw]
   refine ⟨h.1,?_⟩
   have h2:=h.2
   generalize (o.semAt F.round a.eval).run P w=r at *
   cases r with
   | ok x w'=>cases x with
    | value v=>exact e_ l1 l2 _ _ h2
    | skip=>exact e_ l1 l2 _ _ h2
    | defer d=>exact e_ l1 l2 _ _ h2
    | enter f args=>exact ⟨h2.1,CallsIn.mono h2.2 fun e fp he=>by cases e<;>first|exact e_ l1 l2 _ _ he|exact he⟩
    | row row args=>exact ⟨h2.1,RowsIn.mono h2.2 fun v fp he=>e_ l1 l2 _ _ he⟩
    | round l' f tmps x b=>exact ⟨h2.1,RoundIn.mono h2.2 fun e fp he=>by cases e<;>first|exact e_ l1 l2 _ _ he|exact he⟩
    | _=>exact h2
   | halt x w'=>cases x<;>exact h2
  ·rename_i hw
   rw [if_neg hw]
   exact ⟨h.1,e_ l1 l2 _ _ h.2⟩
theorem Gl {id d:Nat} {l1 l2:List Oper} {o:Oper} {y:Operand} {xs:Array Operand} {ts:Array TypeId} {full:List Oper} (H_:full=l1++o::l2) (ho:o.op= .call ⟨.value y,xs,ts⟩) (hg:o.guard=none) (hd:o.dst=some d) (hQ:¬LetsOut Q) (h1:l1.all j7=true) (h2:l2.all j7=true)
  (h:wpList P full.toArray (Exit.then (fun a1 w1=>∃l,a1.eval y= .func (.yield l) #[] #[]∧oc P l (xs.toList.map a1.eval) w1 fun t w2=>wpList P full.toArray Q l2 (a1.put (some d) (.bool t)) w2) Q) l1 a w):(Code.region id full.toArray false).wp P Q a w:=by
 refine (wpIn_wide (n:=0)).1 (wpIn_region_lit ?_)
 have e:wpListIn Fence.wide 0 P full.toArray Q full=wpListIn Fence.wide 0 P full.toArray Q (l1++o::l2):=by rw [←H_]
 rw [e]
 refine e_ l1 _ a w (list_round (ro:=none) (by rintro ⟨_,_,h⟩;exact hQ ⟨_,_,h⟩) l1 h1 a w (jX (lG (fun a1 w1 ⟨l,hy,fn,tmps,x,bd,hr,o7⟩=>?_) fun _ _ _ h=>h) l1 a w h))
 have hw:Region.wanted o (yielded full.toArray a1.tmps)=true:=by unfold Region.wanted;rw [hg]
 unfold wpListIn
 rw [if_pos hw]
 refine ⟨fun _ _=>trivial,?_⟩
 have ct:(o.semAt Fence.wide.round a1.eval).run P w1= .ok (.round l fn tmps x bd) w1:=by
  rw [Oper.semAt_eq _ _ _ (by intro c e;rw [ho] at e;cases e)]
  have e:xs.map a1.eval=(xs.toList.map a1.eval).toArray:=by apply Array.ext';simp
  unfold execOp
  simp [ho,resolve,hy,Deferred.ofValue,invoke]
  rw [e];simpa using hr
 rw [ct]
 refine ⟨fun h=>by simp [Fence.wide] at h,RoundIn.mono o7 fun e w2 ⟨t,he,ht⟩=>?_⟩
 subst he
 rw [hd]
 exact list_round (ro:=none) hQ l2 h2 _ _ ht
theorem It.yield {A:Nat->List AV} {N:Nat} {J:Nat->(Nat->Prop)->(Nat->Prop)->World->Prop} {X:(Nat->Prop)->(Nat->Prop)->World->Prop} {l i d:Nat} {xs:List Operand} {s1:AS} (hJ:∀i,jP (J i)) (hX:jP X) (hd:d<n)
  (hy:∀i,i<N-> ∀(O K:Nat->Prop) (w1:World) (vs:List Value),J i O K w1->(∀b,O b->K b)->(∀b,K b->b<w1.heap.size)->vs.length=(A i).length->(∀(j:Nat) v x,vs[j]?=some v->(A i)[j]?=some x->cA K w1 v x) ->
   oc P l vs w1 fun t w2=>Good w2∧w1.heap.size≤w2.heap.size∧(∀b,K b->w2.heap[b]?=w1.heap[b]?)∧(t=true->J (i+1) O K w2)∧(t=false->X O K w2))
  (h:It n (J i) s a w) (hi:i<N) (HQ:fN s ((xs.map (bp s)).flatMap oo)=some s1) (vv:lp (xs.map (bp s1))=true) (hA:xs.map (bp s1)=A i) (T:Bool->World->Prop)
  (h1:∀w2,It n (J (i+1)) (lg s d (ao true)) (a.put (some d) (.bool true)) w2->T true w2) (h2:∀w2,It n X (lg s d (ao false)) (a.put (some d) (.bool false)) w2->T false w2) :
  oc P l (xs.map a.eval) w T:=by
 obtain ⟨wb,Z,φ,ms,k1,k2,k3,k4,k5⟩:=h
 obtain ⟨iG,gS⟩:=fM _ _ _ _ HQ k1
 have own:∀id g,φ id=some g->Z.S g∧g<w.heap.size:=fun id g hg=>⟨k1.new g (k1.cU id g hg).1.2,(k1.cU id g hg).2⟩
 have o7:=hy i hi (fun b=>lC φ b∨b∈ms) (fun b=>(Z.S b∨b∈ms)∧b<w.heap.size) w (xs.map a.eval) k5 (fun b hb=>hb.elim (fun ⟨id,hid⟩=>⟨.inl (own id b hid).1,(own id b hid).2⟩) fun hb=>⟨.inr hb,(k4 b hb).1⟩) (fun b hb=>hb.2) (by rw [←hA];simp)
  (fun j v x hv hx=>(ma gS vv j v x hv (by rw [hA];exact hx)).mono fun b hb=>⟨⟨.inl hb.2.2.2,hb.1⟩,rfl⟩)
 obtain ⟨fn,tmps,x,bd,hr,vg⟩:=o7
 refine ⟨fn,tmps,x,bd,hr,RoundIn.mono vg fun e w2 ⟨t,he,RI,dq,hk,ht,hf⟩=>⟨t,he,?_⟩⟩
 let Z2:bm:=⟨fun b=>(Z.S b∧b<w.heap.size)∨w2.heap.size≤b,lC φ,φ,Z.r8⟩
 have mN:aG Z2 w2 n [] s a w2 φ:=k1.qH dq (fun b hb dd=>hk b ⟨.inl hb,dd⟩) (fun b hb dd=>.inl ⟨hb,dd⟩) (fun b hb=>hb.elim .inr fun ⟨id,hid⟩=>.inl (own id b hid)) (fun id g hg=>⟨id,hg⟩) (fun id g hg=>.inr hg) rfl k1.jO RI (fun b hb=>k1.sq hb)
 have hK:∀b,((Z2.S b∨b∈ms)∧b<w2.heap.size)->((Z.S b∨b∈ms)∧b<w.heap.size)∨w2.heap.size≤b:=fun b ⟨hb,dd⟩=>by
  rcases hb with (hb|hb)|hb
  ·exact .inl ⟨.inl hb.1,hb.2⟩
  ·exact .inr hb
  ·exact .inl ⟨.inr hb,(k4 b hb).1⟩
 have hm:∀r∈ms,r<w2.heap.size∧w2.heap[r]?=some (.deferred (some []))∧ ¬Z2.S r:=fun r hr=>by
  obtain ⟨u1,u2,u3⟩:=k4 r hr
  refine ⟨aj,(hk r ⟨.inr hr,u1⟩).trans u2,fun h=>?_⟩
  rcases h with h|h
  ·exact u3 h.1
  ·omega
 have dL:Jq (fun b=>lC φ b∨b∈ms) w2 w2:=⟨rfl,rfl,rfl,Nat.le_refl _,fun _ _ _=>rfl⟩
 cases t with
 | true=>exact h1 w2 ⟨w2,Z2,φ,ms,mN.put hd (.rep (.val _)),k2,k3,hm,hJ (i+1) _ _ _ _ _ _ (ht rfl) dL (fun b hb=>.inl hb) hK⟩
 | false=>exact h2 w2 ⟨w2,Z2,φ,ms,mN.put hd (.rep (.val _)),k2,k3,hm,hX _ _ _ _ _ _ (hf rfl) dL (fun b hb=>.inl hb) hK⟩
end
theorem wT.pO {P:Program} {f:FuncId} {fn:Func} {c:Code} {lz:List AV} {A:Nat->List AV} {N n:Nat} (hf:P.funcs[f]?=some fn) (hb:fn.body=some c) (hn:fn.ntmps=n) (HT:fn.results= #[]) (To:lz.length+1≤n)
  (h:∀(l:Nat) (J:Nat->(Nat->Prop)->(Nat->Prop)->World->Prop) (X:(Nat->Prop)->(Nat->Prop)->World->Prop),(∀i,jP (J i))->jP X ->
   (∀i,i<N-> ∀(O K:Nat->Prop) (w1:World) (vs:List Value),J i O K w1->(∀b,O b->K b)->(∀b,K b->b<w1.heap.size)->vs.length=(A i).length->(∀(j:Nat) v x,vs[j]?=some v->(A i)[j]?=some x->cA K w1 v x) ->
    oc P l vs w1 fun t w2=>Good w2∧w1.heap.size≤w2.heap.size∧(∀b,K b->w2.heap[b]?=w1.heap[b]?)∧(t=true->J (i+1) O K w2)∧(t=false->X O K w2)) ->
   ∀(a:Act) (w:World),It n (J 0) ⟨kP 0 (AV.val (.func (.yield l) #[] #[])::lz),[]⟩ a w->c.wp P (fun e a' w'=>(e= .normal∨e= .ret)∧ ∃s',It n (J N) s' a' w'∨It n X s' a' w') a w):wT P f lz A N:=by
 intro l w S cv J X jU hS gC UL hJ hX hy h0
 refine callsIn_wide.1 (callsIn_of_wp_marks (F:=Fence.wide) (n:=0) hf hb trivial ?_)
 have iC:∀(j:Nat) v x,(Value.func (.yield l) #[] #[]::cv)[j]?=some v->(AV.val (.func (.yield l) #[] #[])::lz)[j]?=some x->cA S w v x:=by
  intro j v x hv hx
  cases j with
  | zero=>simp at hv hx;subst hv;subst hx;exact .val _
  | succ j=>exact UL j v x (by simpa using hv) (by simpa using hx)
 let Z:bm:=⟨fun b=>S b∨w.heap.size≤b,fun _=>False,fun _=>none,[]⟩
 have LN:aG Z w n [] ⟨kP 0 (AV.val (.func (.yield l) #[] #[])::lz),[]⟩ {tmps:=(Value.func (.yield l) #[] #[]::cv).toArray++Array.replicate (fn.ntmps-(Value.func (.yield l) #[] #[]::cv).toArray.size) undef,defers:=[]} w (fun _=>none):=by
  refine ⟨by simp;omega,rfl,⟨rfl,rfl,rfl,Nat.le_refl _,fun _ _ _=>rfl,jU,fun _ _ h=>h⟩,fun i av hi=>?_,fun id r hr=>(by cases hr),fun _ _=>rfl,fun _ _ _ h=>(by cases h),fun _ _ h=>(by cases h),fun _ _ h=>(by cases h),fun b hb=>Or.inr (hb.elim id fun h=>h.elim)⟩
  obtain ⟨k,rfl,hk⟩:=mi _ 0 i av hi
  generalize D6:(Value.func (.yield l) #[] #[]::cv)=vs at *
  have NU:vs.length=lz.length+1:=by rw [←D6];simp [gC]
  have iF:k<vs.length:=by have:=(List.getElem?_eq_some_iff.1 hk).1;simp at this;omega
  have hv:vs[k]?=some vs[k]:=List.getElem?_eq_getElem iF
  have e:(vs.toArray++Array.replicate (fn.ntmps-vs.toArray.size) undef).getD (0+k) undef=vs[k]:=by
   rw [Nat.zero_add,Array.getD_eq_getD_getElem?,Array.getElem?_append_left (by simpa using iF)]
   simp [iF]
  simp only [e]
  exact .rep ((iC k vs[k] av hv hk).mono fun b hb=>⟨⟨hS b hb,by simp,fun _ h=>(by cases h),Or.inl hb⟩,rfl⟩)
 have hit:It n (J 0) ⟨kP 0 (AV.val (.func (.yield l) #[] #[])::lz),[]⟩ {tmps:=(Value.func (.yield l) #[] #[]::cv).toArray++Array.replicate (fn.ntmps-(Value.func (.yield l) #[] #[]::cv).toArray.size) undef,defers:=[]} w :=
  ⟨w,Z,fun _=>none,[],LN,rfl,List.nodup_nil,fun _ h=>(by cases h),hJ 0 _ _ _ _ _ _ h0 ⟨rfl,rfl,rfl,Nat.le_refl _,fun _ _ _=>rfl⟩ (fun b hb=>hb.elim (fun ⟨_,h⟩=>(by cases h)) fun h=>(by cases h)) fun b ⟨hb,dd⟩=>hb.elim (fun hb=>hb) fun h=>(by cases h)⟩
 refine wpIn_wide.2 (wp_mono (h l J X hJ hX hy _ w hit) fun e a' w' ⟨he,s',sP⟩=>?_)
 have fin:∀(J':(Nat->Prop)->(Nat->Prop)->World->Prop),jP J'->(∀O K fp,J' O K fp-> ∃O K,J N O K fp∨X O K fp)->It n J' s' a' w'->LeavesInM Fence.wide 0 P fn a'.tmps (fun e w'=>∃v O K,e= .returned v∧(J N O K w'∨X O K w')) a'.defers .returning w':=by
  intro J' M4 JB ⟨wb,Z1,φ,ms,k1,k2,k3,k4,k5⟩
  have MW:a'.defers=ms.map mark:=by rw [k1.jO,k2]
  rw [MW]
  refine mm ms w' k3 (fun r hr=>(k4 r hr).2.1) (fun fp h1 h2 h3 h4 h5=>?_)
  obtain ⟨O,K,sP⟩:=JB _ _ _ (M4 (fun b=>lC φ b∨b∈ms) _ w' (fun b=>lC φ b∨b∈ms) (fun b=>(Z1.S b∨b∈ms)∧b<w'.heap.size) fp k5 ⟨h1,h2,h3,aj,fun b hb hn=>h5 b fun hm=>hn (.inr hm)⟩ (fun b hb=>.inl hb) fun b hb=>.inl hb)
  exact ⟨.tuple #[],by simp [results,HT],.tuple #[],O,K,rfl,sP⟩
 have Sm:LeavesInM Fence.wide 0 P fn a'.tmps (fun e w'=>∃v O K,e= .returned v∧(J N O K w'∨X O K w')) a'.defers .returning w':=by
  rcases sP with sP|sP
  ·exact fin _ (hJ N) (fun O K fp h=>⟨O,K,.inl h⟩) sP
  ·exact fin _ hX (fun O K fp h=>⟨O,K,.inr h⟩) sP
 rcases he with rfl|rfl<;>exact Sm
theorem bR.Jc {s:AS} (id j new e:Nat) {r:Row} (hr:look s.H id=some r) (hp:r.pure=false) (hj:r.cells[j]?=some .nil) (hn:look s.H new=none):bR s ⟨s.F,(new,⟨e,true,false,[]⟩)::(id,⟨r.e,false,r.full,r.cells.set j (.ref new)⟩)::cN s.H id⟩:=by
 intro S0 w0 n a w ⟨φ,hs⟩
 have cT:id≠new:=fun h=>by rw [h,hn] at hr;cases hr
 have cp:φ new=none:=hs.only new hn
 have lu:∀i,look ((new,(⟨e,true,false,[]⟩:Row))::(id,(⟨r.e,false,r.full,r.cells.set j (.ref new)⟩:Row))::cN s.H id) i=if new=i then some ⟨e,true,false,[]⟩ else if id=i then some ⟨r.e,false,r.full,r.cells.set j (.ref new)⟩ else look s.H i:=by
  intro i
  rw [aD,aD,bH]
  by_cases e1:new=i<;>by_cases e2:id=i<;>simp [e1,e2]
 have hI:∀i x,az s.H φ i=some x->az ((new,(⟨e,true,false,[]⟩:Row))::(id,(⟨r.e,false,r.full,r.cells.set j (.ref new)⟩:Row))::cN s.H id) φ i=some x:=by
  intro i x hx
  unfold az at hx ⊢
  rw [lu]
  by_cases e1:new=i
  ·subst e1;rw [hn] at hx;cases hx
  ·rw [if_neg e1]
   by_cases e2:id=i
   ·subst e2;rw [if_pos rfl];rw [hr] at hx;simpa using hx
   ·rw [if_neg e2];exact hx
 have lP:az ((new,(⟨e,true,false,[]⟩:Row))::(id,(⟨r.e,false,r.full,r.cells.set j (.ref new)⟩:Row))::cN s.H id) φ new=some (e,0,none):=by
  unfold az;rw [lu,if_pos rfl,cp];rfl
 have mono:∀v x,Den (az s.H φ) (aM S0 w φ []) w v x->Den (az ((new,(⟨e,true,false,[]⟩:Row))::(id,(⟨r.e,false,r.full,r.cells.set j (.ref new)⟩:Row))::cN s.H id) φ) (aM S0 w φ []) w v x:=fun v x h=>h.mono hI (fun b hb=>⟨hb,rfl⟩) (fun _ _ _ _ _=>rfl)
 refine ⟨φ,hs.jL,hs.jO,hs.cV,fun i av hi=>mono _ _ (hs.cB i av hi),fun i q hq=>?_,fun i hi=>?_,hs.inj,hs.cU,hs.apart,hs.new⟩
 ·simp only [lu] at hq
  by_cases e1:new=i
  ·subst e1
   rw [if_pos rfl] at hq;injection hq with hq;subst hq
   unfold bN;rw [cp]
  ·rw [if_neg e1] at hq
   by_cases e2:id=i
   ·subst e2
    rw [if_pos rfl] at hq;injection hq with hq;subst hq
    have aN:=hs.rows id r hr
    unfold bN at aN ⊢
    cases hg:φ id with
    | none=>rw [hg] at aN;simp only at aN;rw [aN] at hj;cases hj
    | some g =>
     rw [hg] at aN
     obtain ⟨cur,te,fr,u1,u2,u3,u4,u5⟩:=aN
     refine ⟨cur,te,fr,u1,u2,by simpa using u3,fun h=>by simpa using u4 h,fun k u x hu hx=>?_⟩
     unfold bh
     simp only at hx ⊢
     rw [List.getElem?_set] at hx
     by_cases hk:j=k
     ·subst hk
      have dd:j<r.cells.length:=(List.getElem?_eq_some_iff.1 hj).1
      simp [dd] at hx
      subst hx
      have:=u5 j u .nil hu hj
      unfold bh at this
      rw [hp] at this
      rw [sY this]
      exact .cC new e lP
     ·rw [if_neg hk] at hx
      have:=u5 k u x hu hx
      unfold bh at this
      rw [hp] at this
      exact mono u x this
   ·rw [if_neg e2] at hq
    have aN:=hs.rows i q hq
    unfold bN at aN ⊢
    cases hg:φ i with
    | none=>rw [hg] at aN;exact aN
    | some g =>
     rw [hg] at aN
     obtain ⟨cur,te,fr,u1,u2,u3,u4,u5⟩:=aN
     refine ⟨cur,te,fr,u1,u2,u3,u4,fun k u x hu hx=>?_⟩
     have:=u5 k u x hu hx
     unfold bh at this ⊢
     cases HV:q.pure with
     | true=>rw [HV] at this;exact this
     | false=>rw [HV] at this;exact mono u x this
 ·simp only [lu] at hi
  by_cases e1:new=i
  ·rw [if_pos e1] at hi;cases hi
  ·rw [if_neg e1] at hi
   by_cases e2:id=i
   ·rw [if_pos e2] at hi;cases hi
   ·rw [if_neg e2] at hi;exact hs.only i hi
theorem u7:jy []:=fun id r h=>by cases h
theorem eg {id:Nat} {r:Row} {H:List (Nat×Row)} (h1:∀x∈r.cells,mA x=true) (h2:jy H):jy ((id,r)::H):=by
 intro i q hq j x hx
 rw [aD] at hq
 by_cases e:id=i
 ·rw [if_pos e] at hq;injection hq with hq;subst hq;exact h1 x (List.mem_of_getElem? hx)
 ·rw [if_neg e] at hq;exact h2 i q hq j x hx
theorem iE {l:List AV} (h:l.all mA=true):∀x∈l,mA x=true:=fun x hx=>List.all_eq_true.1 h x hx
theorem qj (l:List UInt64):∀x∈ah l,mA x=true:=by
 intro x hx;simp only [ah,List.mem_map] at hx;obtain ⟨c,_,rfl⟩:=hx;rfl
def Kp:Code->Bool
 | .rangeFunc _ _ _ _=>true
 | _=>false
def TT:Code->Operand
 | .rangeFunc g _ _ _=>g
 | _=>.tmp 0
def QP:Code->Array Tmp
 | .rangeFunc _ ps _ _=>ps
 | _=> #[]
def SG:Code->Code
 | .rangeFunc _ _ x _=>x
 | c=>c
def SH:Code->Code
 | .rangeFunc _ _ _ b=>b
 | c=>c
theorem bf.Mk {P:Program} {n:Nat} {c:Code} {Q:Exit->AS->Prop} {s:AS} (hc:Kp c=true) {f:Nat} {lz:List AV} (A:Nat->List AV) (N:Nat) (hit:wT P f lz A N) (hE:ia P f=true) (KK:kO (SG c)=true) (PF:kO (SH c)=true)
  (ρ :List (Nat×Nat)) (Mu :ng ρ =true) (xs:List AV) (F:List (Nat×AV)) (I:List Value->Nat->List (Nat×Row)) (sN:AS)
  (hw:∀Z w0 a w φ,aG Z w0 n [] (J_ ρ s) a w φ-> ∃ jW vs,vs.length=xs.length∧aG Z w0 n [] ⟨F,I vs 0⟩ a w jW∧ ∀p∈vs.zip xs,cA (aM Z w jW []) w p.1 p.2) (hg:∀vs,vs.length=xs.length->bp ⟨F,I vs 0⟩ (TT c)= .lB f lz) (Pc:∀i,(QP c).toList.length=(A i).length) (Ph:((QP c).toList.all fun p=>Nat.blt p n)=true)
  (hI:∀vs i,vs.length=xs.length->i≤N->jy (I vs i)∧B1 (I vs i) F=true) (o7:∀vs i,vs.length=xs.length->i<N->bf P n (SG c) (rD (bf P n (SH c) (RQ (vs.zip xs) Q ρ F (I vs (i+1)))) (fun _ _=>False)) (G8 (QP c).toList (A i) ⟨F,I vs i⟩)) (gC:∀vs,vs.length=xs.length->Dq (vs.zip xs) ⟨F,I vs N⟩ sN) (MO:Q .normal (lf ρ sN)):bf P n c Q s:=by
 cases c with
 | rangeFunc g ps x b=>exact bf.range rfl A N hit hE KK PF ρ Mu xs F I sN hw hg Pc Ph hI o7 gC MO
 | _=>cases hc
section
variable {Z:bm} {w0 w:World} {n:Nat} {s:AS} {a:Act} {φ:Nat->Option Nat}
theorem aG.congr {O:List Nat} {F:List (Nat×AV)} {H H':List (Nat×Row)} (h:aG Z w0 n O ⟨F,H⟩ a w φ) (e:∀i,look H' i=look H i):aG Z w0 n O ⟨F,H'⟩ a w φ:=by
 have hI:az H' φ=az H φ:=by funext i;unfold az;rw [e]
 refine ⟨h.jL,h.jO,h.cV,fun i av hi=>?_,fun i q hq=>?_,fun i hi=>?_,h.inj,h.cU,h.apart,h.new⟩
 ·simp only [hI];exact h.cB i av hi
 ·simp only [hI];exact h.rows i q (by rw [←e];exact hq)
 ·exact h.only i (by rw [←e];exact hi)
theorem aG.G3 (h:aG Z w0 n [] s a w φ) (id j:Nat) {r:Row} {y:AV} (hr:look s.H id=some r) (hp:r.pure=false)
  (hy:∀g cur te fr u x,φ id=some g->w.heap[g]?=some (.cells cur te fr)->cur[j]?=some u->r.cells[j]?=some x->Den (az s.H φ) (aM Z w φ []) w u x->Den (az s.H φ) (aM Z w φ []) w u y):aG Z w0 n [] ⟨s.F,(id,⟨r.e,false,r.full,r.cells.set j y⟩)::cN s.H id⟩ a w φ:=by
 have lu:∀i,look ((id,(⟨r.e,false,r.full,r.cells.set j y⟩:Row))::cN s.H id) i=if id=i then some ⟨r.e,false,r.full,r.cells.set j y⟩ else look s.H i:=by
  intro i
  rw [aD,bH]
  by_cases e:id=i<;>simp [e]
 have hI:az ((id,(⟨r.e,false,r.full,r.cells.set j y⟩:Row))::cN s.H id) φ=az s.H φ:=by
  funext i
  unfold az
  rw [lu]
  by_cases e:id=i
  ·subst e;rw [if_pos rfl,hr];simp
  ·rw [if_neg e]
 refine ⟨h.jL,h.jO,h.cV,fun i av hi=>?_,fun i q hq=>?_,fun i hi=>?_,h.inj,h.cU,h.apart,h.new⟩
 ·simp only [hI];exact h.cB i av hi
 ·simp only [hI]
  simp only [lu] at hq
  by_cases e:id=i
  ·subst e
   rw [if_pos rfl] at hq;injection hq with hq;subst hq
   have aN:=h.rows id _ hr
   unfold bN at aN ⊢
   cases cp:φ id with
   | none=>rw [cp] at aN;simp only at aN ⊢;rw [aN];rfl
   | some g =>
    rw [cp] at aN
    obtain ⟨cur,te,fr,hg,hf,hl,mI,hc⟩:=aN
    refine ⟨cur,te,fr,hg,hf,by simpa using hl,fun h=>by simpa using mI h,fun k u x hu hx=>?_⟩
    unfold bh
    simp only at hx ⊢
    rw [List.getElem?_set] at hx
    by_cases hk:j=k
    ·subst hk
     rw [if_pos rfl] at hx
     split at hx
     ·rename_i dd
      injection hx with hx;subst hx
      have HK:r.cells[j]?=some r.cells[j]:=List.getElem?_eq_getElem dd
      have:=hc j u _ hu HK
      unfold bh at this;rw [hp] at this
      exact hy g cur te fr u _ cp hg hu HK this
     ·cases hx
    ·rw [if_neg hk] at hx
     have:=hc k u x hu hx
     unfold bh at this;rw [hp] at this
     exact this
  ·rw [if_neg e] at hq;exact h.rows i q hq
 ·simp only [lu] at hi
  by_cases e:id=i
  ·rw [if_pos e] at hi;cases hi
  ·rw [if_neg e] at hi;exact h.only i hi
theorem aG.open_ (h:aG Z w0 n [] s a w φ) (id j:Nat) {r:Row} {x:AV} (hr:look s.H id=some r) (hp:r.pure=false) (hj:r.cells[j]?=some x) (hx:ic x=true):∃v,aG Z w0 n [] ⟨s.F,(id,⟨r.e,false,r.full,r.cells.set j (.val v)⟩)::cN s.H id⟩ a w φ∧cA (aM Z w φ []) w v x:=by
 have aN:=h.rows id _ hr
 unfold bN at aN
 cases cp:φ id with
 | none=>rw [cp] at aN;simp only at aN;rw [aN] at hj;cases hj
 | some g =>
  rw [cp] at aN
  obtain ⟨cur,te,fr,hg,hf,hl,mI,hc⟩:=aN
  have dd:j<cur.size:=by have:=(List.getElem?_eq_some_iff.1 hj).1;omega
  have hu:cur[j]?=some cur[j]:=Array.getElem?_eq_getElem dd
  have hd:=hc j _ _ hu hj
  unfold bh at hd;rw [hp] at hd
  refine ⟨cur[j],h.G3 id j hr hp fun g' cur' TN QC u x' h1 h2 h3 h4 h5=>?_,(eE hd hx).1⟩
  rw [cp] at h1;injection h1 with h1;subst h1
  rw [hg] at h2;injection h2 with h2;injection h2 with h2;subst h2
  rw [hu] at h3;injection h3 with h3;subst h3
  exact .rep (.val _)
theorem aG.close_ (h:aG Z w0 n [] s a w φ) (id j:Nat) {r:Row} {x:AV} {v:Value} (hr:look s.H id=some r) (hp:r.pure=false) (hj:r.cells[j]?=some (.val v)) (hx:cA (aM Z w φ []) w v x):aG Z w0 n [] ⟨s.F,(id,⟨r.e,false,r.full,r.cells.set j x⟩)::cN s.H id⟩ a w φ:=by
 refine h.G3 id j hr hp fun g cur te fr u x' _ _ _ h4 h5=>?_
 rw [hj] at h4;injection h4 with h4;subst h4
 rw [bJ h5]
 exact .rep hx
end
theorem bf.QD {P:Program} {n:Nat} {c:Code} {Q:Exit->AS->Prop} {s:AS} (s':AS) (h:s=s') (h2:bf P n c Q s'):bf P n c Q s:=h ▸ h2
end Go.Proofs.YtjgbhhnghedgdaaGreatDoor
