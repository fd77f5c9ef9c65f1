import Derived.Test.YtjgbhhnghedgdaaGreatDoorZsRJ
import Derived.RangeFuncRecord
import Derived.OrdersIn
import Derived.TacticsIn
set_option linter.all false
namespace Go.Proofs.YtjgbhhnghedgdaaGreatDoor
open Go.RowKit
set_option linter.unusedVariables false
abbrev Wd (ro:Option Nat):Fence:={Fence.wide with round:=ro}
def noDefer (o:Oper):Bool:=match o.op with| .defer _=>false|_=>true
def calmC:Code->Bool
 | .skip=>true
 | .region _ ops _=>ops.toList.all noDefer
 | .seq x y=>calmC x && calmC y
 | .cond _ x y=>calmC x && calmC y
 | .block _ c=>calmC c
 | .loop c=>calmC c
 | .exit _=>true
 | .ret=>true
 | _=>false
section
variable {P:Program} {Q:Exit->Act->World->Prop} {ro:Option Nat} {n:Nat}
theorem noDefer_ok {o:Oper} (h:noDefer o=true) (c):o.op≠ .defer c:=by
 intro e;unfold noDefer at h;rw [e] at h;cases h
theorem oper_round {o:Oper} {a:Act} {w:World} {K:Act->World->Prop} (ho:noDefer o=true) (hQ:¬LetsOut Q) (h:o.wp P a w K Q):o.wpIn (Wd ro) n P a w K Q:=by
 refine ⟨fun _ _=>trivial,?_⟩
 rw [Oper.semAt_eq _ _ _ (noDefer_ok ho)]
 unfold Oper.wp at h
 generalize (execOp a.eval o).run P w=r at *
 cases r with
 | ok x w' =>
  cases x with
  | enter f args=>exact ⟨fun h=>by simp [Fence.wide] at h,(callsIn_wide (n:=n-1)).2 h⟩
  | row row args =>
   refine ⟨fun h=>by simp [Fence.wide] at h,fun c cs _=>?_⟩
   obtain ⟨v,w'',h1,h2⟩:=h c cs
   exact ⟨v,w'',h1,stepsIn_wide.2 h2⟩
  | round=>exact h.elim
  | _=>exact h
 | halt x w'=>cases x<;>exact h
theorem list_round {ops:Array Oper} (hQ:¬LetsOut Q):∀(m:List Oper),m.all noDefer=true-> ∀(a:Act) (w:World),wpList P ops Q m a w->wpListIn (Wd ro) n P ops Q m a w
 | [],_,a,w,h=>h
 | o::m,hm,a,w,h=>by
  rw [List.all_cons,Bool.and_eq_true] at hm
  unfold wpList at h
  unfold wpListIn
  split at h
  ·rename_i hw
   rw [if_pos hw]
   rcases h with h|⟨-,h⟩
   ·have:=oper_round (ro:=ro) (n:=n) hm.1 hQ h
    refine ⟨this.1,?_⟩
    have h2:=this.2
    generalize (o.semAt (Wd ro).round a.eval).run P w=r at *
    cases r with
    | ok x w'=>cases x with
     | value v=>exact list_round hQ m hm.2 _ _ h2
     | skip=>exact list_round hQ m hm.2 _ _ h2
     | defer d=>exact list_round hQ m hm.2 _ _ h2
     | enter f args=>exact ⟨h2.1,(callsIn_wide (n:=n-1)).2 (Calls.mono ((callsIn_wide (n:=n-1)).1 h2.2) fun e w'' he=>by cases e<;>first|exact list_round hQ m hm.2 _ _ he|exact he)⟩
     | row row args=>exact ⟨h2.1,RowsIn.mono h2.2 fun v w'' he=>list_round hQ m hm.2 _ _ he⟩
     | round l' f tmps x b=>exact ⟨h2.1,RoundIn.mono h2.2 fun e w'' he=>by cases e<;>first|exact list_round hQ m hm.2 _ _ he|exact he⟩
     | _=>exact h2
    | halt x w'=>cases x<;>exact h2
   ·exact absurd h hQ
  ·rename_i hw
   rw [if_neg hw]
   exact ⟨fun _ _=>trivial,list_round hQ m hm.2 _ _ h⟩
theorem wpIn_mono_K {o:Oper} {a:Act} {w:World} {K K':Act->World->Prop} (hK:∀a w,K a w->K' a w) (h:o.wpIn (Wd ro) n P a w K Q):o.wpIn (Wd ro) n P a w K' Q:=by
 refine ⟨h.1,?_⟩
 have h2:=h.2
 generalize (o.semAt (Wd ro).round a.eval).run P w=r at *
 cases r with
 | ok x w'=>cases x with
  | value v=>exact hK _ _ h2
  | skip=>exact hK _ _ h2
  | defer d=>exact hK _ _ h2
  | enter f args=>exact ⟨h2.1,(callsIn_wide (n:=n-1)).2 (Calls.mono ((callsIn_wide (n:=n-1)).1 h2.2) fun e w'' he=>by cases e<;>first|exact hK _ _ he|exact he)⟩
  | row row args=>exact ⟨h2.1,RowsIn.mono h2.2 fun v w'' he=>hK _ _ he⟩
  | round l' f tmps x b=>exact ⟨h2.1,RoundIn.mono h2.2 fun e w'' he=>by cases e<;>first|exact hK _ _ he|exact he⟩
  | _=>exact h2
 | halt x w'=>cases x<;>exact h2
theorem any_round {md:Region.Mode} {ops:Array Oper} (hc:ops.toList.all noDefer=true) (hQ:¬LetsOut Q):∀(fuel:Nat) (listed:Array Bool) (a:Act) (w:World),wpAny P md ops Q fuel listed a w->wpAnyIn (Wd ro) n P md ops Q fuel listed a w
 | 0,_,_,_,h=>h
 | fuel+1,listed,a,w,h=>⟨h.1,fun i hi=>by
   have h':=h.2 i hi
   unfold wpOp at h'
   unfold wpOpIn
   split
   ·rename_i ho;simp only [ho] at h';exact any_round hc hQ fuel _ _ _ h'
   ·rename_i o ho
    simp only [ho] at h'
    have hno:noDefer o=true:=List.all_eq_true.1 hc o (by
     have:=Array.mem_of_getElem? ho;simpa using this)
    split
    ·rename_i hw
     rw [if_pos hw] at h'
     rcases h' with h'|⟨-,h'⟩
     ·exact wpIn_mono_K (any_round hc hQ fuel _) (oper_round hno hQ h')
     ·exact absurd h' hQ
    ·rename_i hw
     rw [if_neg hw] at h'
     exact ⟨fun _ _=>trivial,any_round hc hQ fuel _ _ _ h'⟩⟩
theorem loopIn_by {F:Fence} {c:Code} {a:Act} {w:World} (J:Nat->Act->World->Prop) (k0:Nat) (h0:J k0 a w)
  (round:∀k a w,J k a w->c.wpIn F n P (Exit.then (fun a' w'=>∃k',k'<k∧J k' a' w') Q) a w):(Code.loop c).wpIn F n P Q a w:=by
 have hleast:∀a w,∃m,(∃k,J k a w)->J m a w∧ ∀k,J k a w->m≤k:=by
  intro a w
  by_cases h:∃k,J k a w
  ·obtain ⟨k,hk⟩:=h
   induction k using Nat.strongRecOn with
   | _ k ih =>
    by_cases hs:∃j,j<k∧J j a w
    ·obtain ⟨j,hj,hJ⟩:=hs;exact ih j hj hJ
    ·exact ⟨k,fun _=>⟨hk,fun j hJ=>Classical.byContradiction fun hlt=>hs ⟨j,by omega,hJ⟩⟩⟩
  ·exact ⟨0,fun h'=>absurd h' h⟩
 let μ :Act->World->Nat:=fun a w=>Classical.choose (hleast a w)
 have hμ :∀a w (h:∃k,J k a w),J (μ a w) a w∧ ∀k,J k a w-> μ a w≤k:=fun a w h=>Classical.choose_spec (hleast a w) h
 refine wpIn_loop (fun a w=>∃k,J k a w) μ ⟨k0,h0⟩ fun a w h=>?_
 refine wpIn_mono (round _ a w (hμ a w h).1) fun e a' w' hq=>?_
 cases e with
 | normal =>
  obtain ⟨k',hk,hJ⟩:=hq
  exact ⟨⟨k',hJ⟩,Nat.lt_of_le_of_lt ((hμ a' w' ⟨k',hJ⟩).2 k' hJ) hk⟩
 | _=>exact hq
theorem swp_round:∀(c:Code) (Q:Exit->Act->World->Prop) (a:Act) (w:World),calmC c=true-> ¬LetsOut Q->swp P c Q a w->c.wpIn (Wd ro) n P Q a w
 | .skip,_,a,w,_,_,h=>wpIn_skip h
 | .region _ ops false,_,a,w,hc,hQ,h=>wpIn_region_list (list_round hQ _ hc _ _ h)
 | .region _ ops true,_,a,w,hc,hQ,h=>wpIn_region_any h.1 (any_round hc hQ _ _ _ _ h.2)
 | .seq x y,Q,a,w,hc,hQ,h=>by
  simp only [calmC,Bool.and_eq_true] at hc
  exact wpIn_seq (swp_round x _ a w hc.1 (by rintro ⟨a,w,h⟩;exact hQ ⟨a,w,h⟩) (swp_mono x _ _ (then_mono (fun a w h=>swp_round y Q a w hc.2 hQ h) fun _ _ _ h=>h) a w h))
 | .cond c x y,Q,a,w,hc,hQ,⟨t,h1,h2,h3⟩=>by
  simp only [calmC,Bool.and_eq_true] at hc
  exact wpIn_cond_split h1 (fun e=>swp_round x Q a w hc.1 hQ (h2 e)) (fun e=>swp_round y Q a w hc.2 hQ (h3 e))
 | .block id c,_,a,w,hc,hQ,h=>wpIn_block (swp_round c _ a w hc (by rintro ⟨a,w,h⟩;exact hQ ⟨a,w,h⟩) h)
 | .loop c,_,a,w,hc,hQ,⟨J,k0,h0,h⟩=>loopIn_by J k0 h0 fun k a w hJ=>swp_round c _ a w hc (by rintro ⟨a,w,h⟩;exact hQ ⟨a,w,h⟩) (h k a w hJ)
 | .exit id,_,a,w,_,_,h=>wpIn_exit h
 | .ret,_,a,w,_,_,h=>wpIn_ret h
 | .rangeFunc ..,_,_,_,hc,_,_=>by cases hc
 | .scope _,_,_,_,hc,_,_=>by cases hc
 | .label _,_,_,_,hc,_,_=>by cases hc
 | .goto _,_,_,_,hc,_,_=>by cases hc
 | .refuse _,_,_,_,hc,_,_=>by cases hc
end
section
variable {S0:Zone} {w0 w:World} {n:Nat} {s:AS} {a:Act} {φ:Nat->Option Nat}
def renφ (x y:Nat) (φ:Nat->Option Nat):Nat->Option Nat:=fun i=>if i=y then φ x else if i=x then none else φ i
theorem SimO.renameG (h:SimO S0 w0 n [] s a w φ) (x y:Nat) (hylt:y<1000000000000∨ ∀g,φ x=some g->S0.fix y=some g) (hne:x≠y) (hy:look s.H y=none):SimO S0 w0 n [] (rename x y s) a w (renφ x y φ):=by
 let φ':Nat->Option Nat:=fun i=>if i=y then φ x else if i=x then none else φ i
 show SimO S0 w0 n [] (rename x y s) a w φ'
 have hφy:φ y=none:=h.only y hy
 have hrange:∀i g,φ' i=some g-> ∃j,φ j=some g∧(i=y->j=x)∧(i≠y->j=i):=by
  intro i g hi
  by_cases e:i=y
  ·have:φ x=some g:=by simpa [φ',e] using hi
   exact ⟨x,this,fun _=>rfl,fun h=>absurd e h⟩
  ·by_cases e2:i=x
   ·simp [φ',e2,hne] at hi
   ·have:φ i=some g:=by simpa [φ',e,e2] using hi
    exact ⟨i,this,fun h=>absurd h e,fun _=>rfl⟩
 have hFiff:∀b,Free S0 w φ [] b->Free S0 w φ' [] b:=by
  intro b ⟨h1,h2,h3,h4⟩
  refine ⟨h1,h2,fun i hi=>?_,h4⟩
  obtain ⟨j,hj,-⟩:=hrange i b hi
  exact h3 j hj
 have hlook:∀i,look (rename x y s).H i=(if i=y then look s.H x else if i=x then none else look s.H i).map (renRow x y):=by
  intro i
  unfold rename
  rw [look_mapv,look_renKey x y _ hy]
 have hI:∀i z,infoOf s.H φ i=some z->infoOf (rename x y s).H φ' (if i=x then y else i)=some z:=by
  intro i z hi
  obtain ⟨e,m,b⟩:=z
  obtain ⟨r,hl,h1,h2,h3⟩:=info_some hi
  by_cases e1:i=x
  ·subst e1
   rw [if_pos rfl,info_of (r:=renRow i y r) (by rw [hlook,if_pos rfl,hl];rfl),(renRow_len i y r).1,(renRow_len i y r).2.1,h1,h2]
   simp [φ',h3]
  ·have e2:i≠y:=fun e=>by subst e;rw [hy] at hl;cases hl
   rw [if_neg e1,info_of (r:=renRow x y r) (by rw [hlook,if_neg e2,if_neg e1,hl];rfl),(renRow_len x y r).1,(renRow_len x y r).2.1,h1,h2]
   simp [φ',e1,e2,h3]
 have hS2:∀b,Free S0 w φ [] b->Free S0 w φ' [] b∧w.heap[b]?=w.heap[b]?:=fun b h=>⟨hFiff b h,rfl⟩
 have ok:LeafOK (infoOf s.H φ) (infoOf (rename x y s).H φ') (Free S0 w φ []) (Free S0 w φ' []) w (ren0 x y):=by
  refine ⟨fun v av hv h1 h2=>?_,fun _=>rfl,fun _=>rfl⟩
  have pick:∀i z,infoOf s.H φ i=some z->(Nat.beq i x=true∧infoOf (rename x y s).H φ' y=some z)∨(Nat.beq i x=false∧infoOf (rename x y s).H φ' i=some z):=by
   intro i z hi
   have:=hI i z hi
   rcases beq_cases i x with ⟨hb,e⟩|⟨hb,e⟩
   ·rw [if_pos e] at this;exact .inl ⟨hb,this⟩
   ·rw [if_neg e] at this;exact .inr ⟨hb,this⟩
  cases hv with
  | rep h=>cases h with
   | val v=>exact .rep (.val v)
   | nil=>exact .rep .nil
   | agg vs cs _ _=>exact absurd rfl (h1 cs)
   | tup vs cs _ _=>exact absurd rfl (h2 cs)
   | arr vs cs hl h=>exact .rep ((Rep.arr vs cs hl h).mono hS2)
   | sl A n c e us row hl hn hc hm ha h=>exact .rep ((Rep.sl A n c e us row hl hn hc hm ha h).mono hS2)
   | ful A n e us row hl hn hm ha h=>exact .rep ((Rep.ful A n e us row hl hn hm ha h).mono hS2)
   | ptr ad us row off hl hs ha h=>exact .rep ((Rep.ptr ad us row off hl hs ha h).mono hS2)
   | clo f vs cs hl h=>exact .rep ((Rep.clo f vs cs hl h).mono hS2)
  | agg vs cs _ _=>exact absurd rfl (h1 cs)
  | tup vs cs _ _=>exact absurd rfl (h2 cs)
  | ref i e m g l c hi hm hc hx hs=>rcases pick i _ hi with ⟨hb,hi'⟩|⟨hb,hi'⟩<;>simp only [ren0,hb]<;>exact .ref _ e m g l c hi' hm hc hx hs
  | refnil i e hi=>rcases pick i _ hi with ⟨hb,hi'⟩|⟨hb,hi'⟩<;>simp only [ren0,hb]<;>exact .refnil _ e hi'
  | pre i k e m g l c hi hn hm hc hx hs=>rcases pick i _ hi with ⟨hb,hi'⟩|⟨hb,hi'⟩<;>simp only [ren0,hb]<;>exact .pre _ k e m g l c hi' hn hm hc hx hs
  | prenil i e hi=>rcases pick i _ hi with ⟨hb,hi'⟩|⟨hb,hi'⟩<;>simp only [ren0,hb]<;>exact .prenil _ e hi'
  | win i off k e m l c g A hi hn hm hc hx ha=>rcases pick i _ hi with ⟨hb,hi'⟩|⟨hb,hi'⟩<;>simp only [ren0,hb]<;>exact .win _ off k e m l c g A hi' hn hm hc hx ha
  | addr i off e m g hi=>rcases pick i _ hi with ⟨hb,hi'⟩|⟨hb,hi'⟩<;>simp only [ren0,hb]<;>exact .addr _ off e m g hi'
  | dead v=>exact .dead _
 have other1:∀z:AV,(∀cs,z≠ .agg cs)->ren1 x y z=ren0 x y z:=by
  intro z hz
  cases z with
  | agg cs=>exact absurd rfl (hz cs)
  | _=>rfl
 have other2:∀z:AV,(∀cs,z≠ .tup cs)->ren2 x y z=ren1 x y z:=by
  intro z hz
  cases z with
  | tup cs=>exact absurd rfl (hz cs)
  | _=>rfl
 refine ⟨h.tsz,h.dfr,h.bel,fun i av hi=>?_,fun i r hr=>?_,fun i hi=>?_,fun i j g hi hj=>?_,fun i g hi=>?_,fun i g hi=>by simp,h.new⟩
 ·unfold rename at hi
  rw [look_mapv] at hi
  cases hl:look s.F i with
  | none=>rw [hl] at hi;cases hi
  | some z =>
   rw [hl] at hi;injection hi with hi;subst hi
   exact ok.two (h.slots i z hl) (fun _=>rfl) other1 (fun _=>rfl) other2
 ·rw [hlook] at hr
  have:∃j q,look s.H j=some q∧φ' i=φ j∧r=renRow x y q:=by
   by_cases e:i=y
   ·rw [if_pos e] at hr
    cases hl:look s.H x with
    | none=>rw [hl] at hr;cases hr
    | some q=>rw [hl] at hr;injection hr with hr;exact ⟨x,q,hl,by simp [φ',e],hr.symm⟩
   ·rw [if_neg e] at hr
    by_cases e2:i=x
    ·rw [if_pos e2] at hr;cases hr
    ·rw [if_neg e2] at hr
     cases hl:look s.H i with
     | none=>rw [hl] at hr;cases hr
     | some q=>rw [hl] at hr;injection hr with hr;exact ⟨i,q,hl,by simp [φ',e,e2],hr.symm⟩
  obtain ⟨j,q,hq,hφj,rfl⟩:=this
  have hrow:=h.rows j q hq
  rw [hφj]
  unfold RowDen at hrow ⊢
  cases hb:φ j with
  | none =>
   rw [hb] at hrow
   have:=(renRow_len x y q).2.1
   simp only at hrow ⊢
   rw [hrow] at this;exact List.length_eq_zero_iff.1 this
  | some g =>
   rw [hb] at hrow
   obtain ⟨cur,te,fr,hg,hf,hlen,hfu,hc⟩:=hrow
   refine ⟨cur,te,fr,hg,hf,by rw [(renRow_len x y q).2.1];exact hlen,by rw [(renRow_len x y q).2.1,(renRow_len x y q).2.2.2];exact hfu,fun j u z hu hz=>?_⟩
   rw [(renRow_len x y q).2.2.1]
   unfold CellDen
   cases hp:q.pure with
   | true =>
    have:renRow x y q=q:=by unfold renRow;rw [hp]
    rw [this] at hz
    have:=hc j u z hu hz
    unfold CellDen at this;rw [hp] at this
    exact this.mono hS2
   | false =>
    have:(renRow x y q).cells=q.cells.map (ren0 x y):=by unfold renRow;rw [hp]
    rw [this,List.getElem?_map] at hz
    cases hj:q.cells[j]? with
    | none=>rw [hj] at hz;cases hz
    | some z' =>
     rw [hj] at hz;injection hz with hz;subst hz
     have:=hc j u z' hu hj
     unfold CellDen at this;rw [hp] at this
     exact ok.all this
 ·rw [hlook] at hi
  by_cases e:i=y
  ·rw [if_pos e] at hi
   cases hl:look s.H x with
   | none=>simp [φ',e,h.only x hl]
   | some q=>rw [hl] at hi;cases hi
  ·rw [if_neg e] at hi
   by_cases e2:i=x
   ·simp [φ',e2,hne]
   ·rw [if_neg e2] at hi
    cases hl:look s.H i with
    | none=>simp [φ',e,e2,h.only i hl]
    | some q=>rw [hl] at hi;cases hi
 ·obtain ⟨i',h1,h2,h3⟩:=hrange i g hi
  obtain ⟨j',h4,h5,h6⟩:=hrange j g hj
  have e:=h.inj i' j' g h1 h4
  by_cases ei:i=y<;>by_cases ej:j=y
  ·rw [ei,ej]
  ·have:=h2 ei;have:=h6 ej
   have:j=x:=by omega
   subst this
   simp [φ',hne] at hj
  ·have:=h3 ei;have:=h5 ej
   have:i=x:=by omega
   subst this
   simp [φ',hne] at hi
  ·have:=h3 ei;have:=h6 ej;omega
 ·obtain ⟨j,h1,h2,h3⟩:=hrange i g hi
  have:=h.rng j g h1
  refine ⟨⟨?_,this.1.2⟩,this.2⟩
  by_cases e:i=y
  ·have hj:=h2 e
   subst hj
   rw [e]
   exact hylt.imp (fun h=>h) fun h=>h g h1
  ·rw [←h3 e];exact this.1.1
end
section
variable {Z Z':Zone} {w0 w w':World} {n:Nat} {O:List Nat} {s:AS} {a a':Act} {φ:Nat->Option Nat}
theorem SimO.rebase (h:SimO Z w0 n O s a w φ) (hsz:w.heap.size≤w'.heap.size) (hb:∀b,Z.S b->b<w.heap.size->w'.heap[b]?=w.heap[b]?) (hS:∀b,Z.S b->b<w.heap.size->Z'.S b) (hnew:∀b,(w'.heap.size≤b∨Z'.X b)->Z'.S b) (hX:∀id g,φ id=some g->Z'.X g)
  (hfix:∀id g,φ id=some g->id<1000000000000∨Z'.fix id=some g) (ht:a'.tmps=a.tmps) (hd:a'.defers=Z'.dfs) (hgw:Good w') (hgx:∀b,TB b-> ¬Z'.X b):SimO Z' w' n O s a' w' φ:=by
 have hF:∀b,Free Z w φ O b->Free Z' w' φ O b∧w'.heap[b]?=w.heap[b]?:=fun b hb'=>⟨⟨Nat.lt_of_lt_of_le hb'.1 hsz,hb'.2.1,hb'.2.2.1,hS b hb'.2.2.2 hb'.1⟩,hb b hb'.2.2.2 hb'.1⟩
 have hφ:∀id g,φ id=some g->w'.heap[g]?=w.heap[g]?:=fun id g hg=>hb g (h.new g (h.rng id g hg).1.2) (h.rng id g hg).2
 have hL:∀id e m g,infoOf s.H φ id=some (e,m,some g)->cellsLen w' g=cellsLen w g:=fun id e m g hi=>by
  obtain ⟨_,-,-,-,hg⟩:=info_some hi
  unfold cellsLen;rw [hφ id g hg]
 refine ⟨by rw [ht];exact h.tsz,hd,⟨rfl,rfl,rfl,Nat.le_refl _,fun _ _ _=>rfl,hgw,hgx⟩,fun i av hi=>?_,fun id r hr=>?_,h.only,h.inj,fun id g hg=>⟨⟨hfix id g hg,.inr (hX id g hg)⟩,Nat.lt_of_lt_of_le (h.rng id g hg).2 hsz⟩,h.apart,hnew⟩
 ·rw [ht];exact (h.slots i av hi).mono (fun _ _ h=>h) hF hL
 ·have hrow:=h.rows id r hr
  unfold RowDen at hrow ⊢
  cases hg:φ id with
  | none=>rw [hg] at hrow;exact hrow
  | some g =>
   rw [hg] at hrow
   obtain ⟨cur,te,fr,u1,u2,u3,u4,u5⟩:=hrow
   refine ⟨cur,te,fr,(hφ id g hg).trans u1,u2,u3,u4,fun j u x hu hx=>?_⟩
   have:=u5 j u x hu hx
   unfold CellDen at this ⊢
   cases hp:r.pure with
   | true=>rw [hp] at this;exact this.mono hF
   | false=>rw [hp] at this;exact this.mono (fun _ _ h=>h) hF hL
end
def closed0:AV->Bool
 | .val _=>true
 | .nil=>true
 | .ref _=>true
 | .pre _ _=>true
 | .win _ _ _=>true
 | .addr _ _=>true
 | _=>false
def ClosedH (H:List (Nat×Row)):Prop:=∀id r,look H id=some r-> ∀(j:Nat) x,r.cells[j]?=some x->closed0 x=true
theorem den_closed {I:Info} {S S':Nat->Prop} {w w':World} {v:Value} {x:AV} (h:Den I S w v x) (hc:closed0 x=true) (hL:∀id e m g,I id=some (e,m,some g)->cellsLen w' g=cellsLen w g):Den I S' w' v x:=by
 cases h with
 | rep h=>cases h with
  | val v=>exact .rep (.val v)
  | nil=>exact .rep .nil
  | _=>cases hc
 | agg=>cases hc
 | tup=>cases hc
 | ref id e m g l c hi hm hc' hx hs=>exact .ref id e m g l c hi hm hc' hx ((hL _ _ _ _ hi).trans hs)
 | refnil id e hi=>exact .refnil id e hi
 | pre id n e m g l c hi hn hm hc' hx hs=>exact .pre id n e m g l c hi hn hm hc' hx ((hL _ _ _ _ hi).trans hs)
 | prenil id e hi=>exact .prenil id e hi
 | win id off n e m l c g A hi hn hm hc' hx ha=>exact .win id off n e m l c g A hi hn hm hc' hx ha
 | addr id off e m g hi=>exact .addr id off e m g hi
 | dead v=>exact .dead v
theorem rep_closed {S S':Nat->Prop} {w w':World} {v:Value} {x:AV} (h:Rep S w v x) (hc:closed0 x=true):Rep S' w' v x:=by
 cases h with
 | val v=>exact .val v
 | nil=>exact .nil
 | _=>cases hc
def YieldAt (P:Program) (l:Nat) (vs:List Value) (w:World) (T:Bool->World->Prop):Prop :=
 ∃fn tmps asg bd,(Instr.yield l vs.toArray).run P w= .ok (.round l fn tmps asg bd) w∧RoundIn Fence.wide 0 P l fn tmps asg bd w fun e w'=>∃t,e= .returned (.bool t)∧T t w'
structure Steps_ (O:Nat->Prop) (w w':World):Prop where
 os:w'.os=w.os
 tape:w'.tape=w.tape
 output:w'.output=w.output
 size:w.heap.size≤w'.heap.size
 block:∀b,b<w.heap.size-> ¬O b->w'.heap[b]?=w.heap[b]?
def Stable (J:(Nat->Prop)->(Nat->Prop)->World->Prop):Prop :=
 ∀O K w O' K' w',J O K w->Steps_ O w w'->(∀b,O' b->O b∨w.heap.size≤b)->(∀b,K' b->K b∨w.heap.size≤b)->J O' K' w'
def IterP (P:Program) (f:Nat) (caps:List AV) (A:Nat->List AV) (N:Nat):Prop :=
 ∀(l:Nat) (w:World) (S:Nat->Prop) (cv:List Value) (J:Nat->(Nat->Prop)->(Nat->Prop)->World->Prop) (X:(Nat->Prop)->(Nat->Prop)->World->Prop),
  Good w->(∀b,S b->b<w.heap.size)->cv.length=caps.length->(∀(j:Nat) v x,cv[j]?=some v->caps[j]?=some x->Rep S w v x) ->
  (∀i,Stable (J i))->Stable X ->
  (∀i,i<N-> ∀(O K:Nat->Prop) (w1:World) (vs:List Value),J i O K w1->(∀b,O b->K b)->(∀b,K b->b<w1.heap.size)->vs.length=(A i).length->(∀(j:Nat) v x,vs[j]?=some v->(A i)[j]?=some x->Rep K w1 v x) ->
   YieldAt P l vs w1 fun t w2=>Good w2∧w1.heap.size≤w2.heap.size∧(∀b,K b->w2.heap[b]?=w1.heap[b]?)∧(t=true->J (i+1) O K w2)∧(t=false->X O K w2)) ->
  J 0 (fun _=>False) S w ->
  Calls P f (Value.func (.yield l) #[] #[]::cv).toArray w fun e w'=>∃v O K,e= .returned v∧(J N O K w'∨X O K w')
def okA (H:List (Nat×Row)):AV->Bool
 | .val _=>true
 | .nil=>true
 | .arr _=>true
 | .sl _ _=>true
 | .ptr _ _=>true
 | .clo _ _=>true
 | .agg cs=>plainL cs
 | .dead=>true
 | .addr id _=>(match Nat.ble 1000000000000 id,look H id with|true,some r=>(match r.cells with| []=>false|_::_=>true)|_,_=>false)
 | _=>false
def OkF (F:List (Nat×AV)) (H:List (Nat×Row)):Prop:=∀i x,look F i=some x->okA H x=true
def okFB (H:List (Nat×Row)):List (Nat×AV)->Bool
 | []=>true
 | (_,x)::F=>match okA H x with|true=>okFB H F|false=>false
theorem okFB_ok {H:List (Nat×Row)}:∀ {F:List (Nat×AV)},okFB H F=true->OkF F H
 | [],_,i,x,h=>by cases h
 | (k,y)::F,hb,i,x,h=>by
  simp only [okFB] at hb
  split at hb
  ·rename_i hy
   rw [look_cons] at h
   by_cases e:k=i
   ·rw [if_pos e] at h;injection h with h;subst h;exact hy
   ·rw [if_neg e] at h;exact okFB_ok hb i x h
  ·cases hb
structure Mid (op:List (Value×AV)) (S0:Zone) (w0:World) (n:Nat) (tm:Array Value) (fx:Nat->Option Nat) (r l:Nat) (we:World) (rc:Loop) (s:AS) (O K:Nat->Prop) (w:World):Prop where
 ex:∃(wb:World) (φ:Nat->Option Nat) (Z:Zone),SimO Z wb n [] s ⟨tm,[]⟩ wb φ∧Z.fix=fx∧we.heap.size≤wb.heap.size∧wb.heap.size≤w.heap.size∧(∀b,Z.S b->b<wb.heap.size->w.heap[b]?=wb.heap[b]?)∧(∀b,Z.S b->b<wb.heap.size->S0.S b) ∧
  (∀id g,φ id=some g->w0.heap.size≤g∨S0.X g)∧(∀b,O b->b<wb.heap.size-> ¬Z.S b)∧(∀b,K b-> ∀id,φ id≠some b)∧ ¬Z.S l∧ ¬Z.S r∧ ∀p∈op,Rep (Free Z wb φ []) wb p.1 p.2
 kept:Kept S0 w0 w
 base:w0.heap.size≤we.heap.size
 geO:∀b,O b->we.heap.size≤b
 hl:l<we.heap.size
 hr:r<we.heap.size
 Kl:¬K l
 recd:w.heap[l]?=some (.loop rc)
 new0:∀b,w0.heap.size≤b->S0.S b
 lge:w0.heap.size≤l
 rl:r≠l
 Kr:¬K r
 dfr:w.heap[r]?=some (.deferred (some []))
section
variable {op:List (Value×AV)} {P:Program} {S0:Zone} {w0:World} {n:Nat} {tm:Array Value} {fx:Nat->Option Nat} {r l:Nat} {we:World} {rc:Loop} {s:AS}
theorem Mid.stable:Stable (Mid op S0 w0 n tm fx r l we rc s):=by
 intro O K w O' K' w' h st hO hK
 obtain ⟨wb,φ,Z,h1,h2,h3,h4,h5,h6,h7,h8,h9,h10,h11,h12⟩:=h.ex
 have hle:we.heap.size≤w.heap.size:=Nat.le_trans h3 h4
 refine ⟨⟨wb,φ,Z,h1,h2,h3,Nat.le_trans h4 st.size,fun b hb hlt=>(st.block b (by omega) fun ho=>h8 b ho hlt hb).trans (h5 b hb hlt),h6,h7,fun b hb hlt=>?_,fun b hb id hid=>?_,h10,h11,h12⟩,?_,h.base,fun b hb=>?_,h.hl,h.hr,fun hb=>?_,?_,?_,?_,?_,?_,?_⟩
 ·rcases hO b hb with hb|hb
  ·exact h8 b hb hlt
  ·omega
 ·rcases hK b hb with hb|hb
  ·exact h9 b hb id hid
  ·have:=(h1.rng id b hid).2;omega
 ·exact ⟨st.os.trans h.kept.os,st.tape.trans h.kept.tape,st.output.trans h.kept.output,Nat.le_trans h.kept.size st.size,fun k hk hx=>(st.block k (Nat.lt_of_lt_of_le hk h.kept.size) fun ho=>by have:=h.geO k ho;have:=h.base;omega).trans (h.kept.block k hk hx),h.kept.g0,h.kept.gx⟩
 ·rcases hO b hb with hb|hb
  ·exact h.geO b hb
  ·omega
 ·rcases hK l hb with hb|hb
  ·exact h.Kl hb
  ·have:=h.hl;omega
 ·exact (st.block l (by have:=h.hl;omega) fun ho=>by have:=h.geO l ho;have:=h.hl;omega).trans h.recd
 ·exact h.new0
 ·exact h.lge
 ·exact h.rl
 ·intro hb
  rcases hK r hb with hb|hb
  ·exact h.Kr hb
  ·have:=h.hr;omega
 ·exact (st.block r (by have:=h.hr;omega) fun ho=>by have:=h.geO r ho;have:=h.hr;omega).trans h.dfr
def putP:List Nat->List AV->AS->AS
 | p::ps,x::xs,s=>putP ps xs (setF s p x)
 | _,_,s=>s
theorem params_ok {Z:Zone} {w:World} {φ:Nat->Option Nat}:∀(ps:List Nat) (vs:List Value) (xs:List AV) (s:AS) (a:Act),SimO Z w0 n [] s a w φ->vs.length=xs.length->(∀p∈ps,p<n) ->
  (∀(j:Nat) v x,vs[j]?=some v->xs[j]?=some x->Den (infoOf s.H φ) (Free Z w φ []) w v x)->SimO Z w0 n [] (putP ps xs s) ⟨(ps.zip vs).foldl (fun t p=>t.setIfInBounds p.1 p.2) a.tmps,a.defers⟩ w φ
 | [],vs,xs,s,a,h,_,_,_=>by
  cases xs<;>exact h
 | p::ps,[],xs,s,a,h,hl,_,_=>by
  cases xs with
  | nil=>exact h
  | cons=>simp at hl
 | p::ps,v::vs,[],s,a,h,hl,_,_=>by simp at hl
 | p::ps,v::vs,x::xs,s,a,h,hl,hp,hd=>by
  have h1:=h.put (hp p (by simp)) (hd 0 v x rfl rfl)
  exact params_ok ps vs xs (setF s p x) (a.put (some p) v) h1 (by simpa using hl) (fun q hq=>hp q (by simp [hq])) fun j u y hu hy=>hd (j+1) u y (by simpa using hu) (by simpa using hy)
theorem mid_next {F:List (Nat×AV)} {H X:List (Nat×Row)} {O K:Nat->Prop} {w1 w3 wb3:World} {S3:Zone} {a3:Act} {φ4:Nat->Option Nat} {rc':Loop} {φ:Nat->Option Nat} {wb:World} {Z:Zone}
  (hM:Mid op S0 w0 n tm fx r l we rc ⟨F,H⟩ O K w1) (hOK:∀b,O b->K b) (hK:∀b,K b->b<w1.heap.size)
  (h1:SimO Z wb n [] ⟨F,H⟩ ⟨tm,[]⟩ wb φ) (h2:Z.fix=fx) (h3:we.heap.size≤wb.heap.size) (h4:wb.heap.size≤w1.heap.size) (h5:∀b,Z.S b->b<wb.heap.size->w1.heap[b]?=wb.heap[b]?) (h6:∀b,Z.S b->b<wb.heap.size->S0.S b)
  (h7:∀id g,φ id=some g->w0.heap.size≤g∨S0.X g) (h8:∀b,O b->b<wb.heap.size-> ¬Z.S b) (h9:∀b,K b-> ∀id,φ id≠some b) (h10:¬Z.S l) (h11:¬Z.S r) (h12:∀p∈op,Rep (Free Z wb φ []) wb p.1 p.2)
  (hs4:SimO S3 wb3 n [] ⟨[],X⟩ a3 w3 φ4) (hfix:S3.fix=fx) (hR4:∀id g,φ4 id=some g->w1.heap.size≤g∨InR φ g) (hl4:¬S3.S l) (hr4:¬S3.S r)
  (hos:w3.os=w1.os) (htape:w3.tape=w1.tape) (hout:w3.output=w1.output) (hsz:w1.heap.size≤w3.heap.size) (hblk:∀b,b<w1.heap.size-> ¬InR φ b->b≠l->w3.heap[b]?=w1.heap[b]?)
  (hX:ClosedH X) (hF:OkF F H) (hFX:OkF F X) :
  Mid op S0 w0 n tm fx r l we rc' ⟨F,X⟩ O K (w3.putObj l (.loop rc'))∧(∀b,K b->(w3.putObj l (.loop rc')).heap[b]?=w1.heap[b]?):=by
 have hlw:l<w3.heap.size:=by have:=hM.hl;omega
 have hother:∀b,b≠l->(w3.putObj l (.loop rc')).heap[b]?=w3.heap[b]?:=fun b hb=>World.putObj_heap_other hb
 have hsame:∀b,b<w1.heap.size-> ¬InR φ b->b≠l->(w3.putObj l (.loop rc')).heap[b]?=w1.heap[b]?:=fun b hb hn hne=>(hother b hne).trans (hblk b hb hn hne)
 have own:∀id g,φ id=some g->Z.S g∧g<wb.heap.size:=fun id g hg=>⟨h1.new g (h1.rng id g hg).1.2,(h1.rng id g hg).2⟩
 have own4:∀id g,φ4 id=some g->S3.S g∧g<w3.heap.size:=fun id g hg=>⟨hs4.new g (hs4.rng id g hg).1.2,(hs4.rng id g hg).2⟩
 have ne4:∀id g,φ4 id=some g->g≠l:=fun id g hg e=>hl4 (e ▸ (own4 id g hg).1)
 have hL4:∀id e m g,infoOf X φ4 id=some (e,m,some g)->cellsLen (w3.putObj l (.loop rc')) g=cellsLen w3 g:=fun id e m g hi=>by
  obtain ⟨_,-,-,-,hg⟩:=info_some hi
  unfold cellsLen;rw [hother g (ne4 id g hg)]
 let Z4:Zone:=⟨fun b=>(Z.S b∧b<wb.heap.size)∨InR φ4 b∨(w3.putObj l (.loop rc')).heap.size≤b,InR φ4,fx,[]⟩
 have hsz4:(w3.putObj l (.loop rc')).heap.size=w3.heap.size:=World.putObj_size
 have hkept:Kept S0 w0 (w3.putObj l (.loop rc')):=by
  refine ⟨hos.trans hM.kept.os,htape.trans hM.kept.tape,hout.trans hM.kept.output,by rw [hsz4];exact Nat.le_trans hM.kept.size hsz,fun k hk hx=>?_,hM.kept.g0,hM.kept.gx⟩
  have hk1:k<w1.heap.size:=Nat.lt_of_lt_of_le hk hM.kept.size
  refine (hsame k hk1 (fun ⟨id,hid⟩=>?_) (fun e=>?_)).trans (hM.kept.block k hk hx)
  ·rcases h7 id k hid with h|h
   ·omega
   ·exact hx h
  ·have:=hM.lge;omega
 have inφ4:∀b,InR φ4 b->b<wb.heap.size->Z.S b:=fun b ⟨id,hid⟩ hlt=>by
  rcases hR4 id b hid with h|⟨j,hj⟩
  ·omega
  ·exact (own j b hj).1
 have hmono:∀b,Free Z wb φ [] b->Free Z4 (w3.putObj l (.loop rc')) φ4 [] b∧(w3.putObj l (.loop rc')).heap[b]?=wb.heap[b]?:=by
  intro b ⟨f1,f2,f3,f4⟩
  have hne:b≠l:=fun e=>h10 (e ▸ f4)
  have hn:¬InR φ b:=fun ⟨id,hid⟩=>f3 id hid
  refine ⟨⟨by rw [hsz4];omega,by simp,fun id hid=>?_,.inl ⟨f4,f1⟩⟩,(hsame b (by omega) hn hne).trans (h5 b f4 f1)⟩
  rcases hR4 id b hid with h|h
  ·omega
  ·exact hn h
 have hsim:SimO Z4 (w3.putObj l (.loop rc')) n [] ⟨F,X⟩ ⟨tm,[]⟩ (w3.putObj l (.loop rc')) φ4:=by
  refine ⟨h1.tsz,rfl,⟨rfl,rfl,rfl,Nat.le_refl _,fun _ _ _=>rfl,hkept.good,fun b hb=>hs4.noTB hb⟩,fun i av hi=>?_,fun id q hq=>?_,hs4.only,hs4.inj,fun id g hg=>⟨⟨?_,.inr ⟨id,hg⟩⟩,by rw [hsz4];exact (own4 id g hg).2⟩,fun _ _ _ h=>(by cases h),fun b hb=>?_⟩
  ·
   have hden:Den (infoOf H φ) (Free Z wb φ []) wb (tm.getD i undef) av:=h1.slots i av hi
   show Den (infoOf X φ4) (Free Z4 (w3.putObj l (.loop rc')) φ4 []) (w3.putObj l (.loop rc')) (tm.getD i undef) av
   generalize tm.getD i undef=tv at hden ⊢
   have hok:=hF i av hi
   have hokX:=hFX i av hi
   have viaRep:Rep (Free Z wb φ []) wb tv av->Den (infoOf X φ4) (Free Z4 (w3.putObj l (.loop rc')) φ4 []) (w3.putObj l (.loop rc')) tv av:=fun h=>.rep (h.mono hmono)
   cases av with
   | val=>exact viaRep (by cases hden with|rep h=>exact h)
   | nil=>exact viaRep (by cases hden with|rep h=>exact h)
   | arr=>exact viaRep (by cases hden with|rep h=>exact h)
   | sl=>exact viaRep (by cases hden with|rep h=>exact h)
   | ptr=>exact viaRep (by cases hden with|rep h=>exact h)
   | clo=>exact viaRep (by cases hden with|rep h=>exact h)
   | dead=>exact .dead _
   | agg cs =>
    obtain ⟨vs,hv,hl',hd⟩:=den_agg hden
    rw [hv]
    exact .rep ((Rep.agg vs cs hl' fun j v c hv hc=>(plain0_rep (hd j v c hv hc) (plainL_at hok hc)).1).mono hmono)
   | addr id off =>
    simp only [okA] at hokX
    split at hokX
    ·rename_i q hb hlk
     split at hokX
     ·cases hokX
     ·rename_i x0 xs hcs
      have hge:=Nat.le_of_ble_eq_true hb
      cases hden with
      | rep h=>cases h
      | addr _ _ e m g hi =>
       obtain ⟨_,-,-,-,hg⟩:=info_some hi
       have hgf:fx id=some g:=by
        rcases (h1.rng id g hg).1.1 with h|h
        ·omega
        ·rw [←h2];exact h
       have hrow:=hs4.rows id q hlk
       unfold RowDen at hrow
       cases hg4:φ4 id with
       | none=>rw [hg4] at hrow;simp only at hrow;rw [hcs] at hrow;cases hrow
       | some g4 =>
        have:fx id=some g4:=by
         rcases (hs4.rng id g4 hg4).1.1 with h|h
         ·omega
         ·rw [←hfix];exact h
        rw [hgf] at this;injection this with this;subst this
        exact .addr id off q.e q.cells.length g (by unfold infoOf;rw [hlk,hg4];rfl)
    ·cases hokX
   | _=>cases hok
  ·
   have hrow:=hs4.rows id q hq
   unfold RowDen at hrow ⊢
   cases hg:φ4 id with
   | none=>rw [hg] at hrow;exact hrow
   | some g =>
    rw [hg] at hrow
    obtain ⟨cur,te,fr,u1,u2,u3,u4,u5⟩:=hrow
    refine ⟨cur,te,fr,(hother g (ne4 id g hg)).trans u1,u2,u3,u4,fun j u x hu hx=>?_⟩
    have:=u5 j u x hu hx
    have hc:=hX id q hq j x hx
    unfold CellDen at this ⊢
    cases hp:q.pure with
    | true=>rw [hp] at this;exact rep_closed this hc
    | false=>rw [hp] at this;exact den_closed this hc hL4
  ·rcases (hs4.rng id g hg).1.1 with h|h
   ·exact .inl h
   ·right;show fx id=some g;rw [←hfix];exact h
  ·rcases hb with h|h
   ·exact .inr (.inr h)
   ·exact .inr (.inl h)
 refine ⟨⟨⟨w3.putObj l (.loop rc'),φ4,Z4,hsim,rfl,by rw [hsz4];omega,Nat.le_refl _,fun _ _ _=>rfl,fun b hb hlt=>?_,fun id g hg=>?_,fun b hb hlt hS=>?_,fun b hb id hid=>?_,fun hS=>?_,fun hS=>?_,fun p hp=>(h12 p hp).mono hmono⟩,?_,hM.base,hM.geO,hM.hl,hM.hr,hM.Kl,World.putObj_heap_same hlw,hM.new0,hM.lge,hM.rl,hM.Kr,?_⟩,fun b hb=>?_⟩
 ·rcases hb with h|⟨id,hid⟩|h
  ·exact h6 b h.1 h.2
  ·rcases hR4 id b hid with h|⟨j,hj⟩
   ·
    have:=hM.base;exact hM.new0 b (by omega)
   ·exact h6 b (own j b hj).1 (own j b hj).2
  ·omega
 ·rcases hR4 id g hg with h|⟨j,hj⟩
  ·left;have:=hM.base;omega
  ·exact h7 j g hj
 ·rcases hS with h|h|h
  ·exact h8 b hb h.2 h.1
  ·obtain ⟨id,hid⟩:=h
   rcases hR4 id b hid with h|⟨j,hj⟩
   ·have:=hK b (hOK b hb);omega
   ·exact h8 b hb (own j b hj).2 (own j b hj).1
  ·have:=hK b (hOK b hb);omega
 ·rcases hR4 id b hid with h|⟨j,hj⟩
  ·have:=hK b hb;omega
  ·exact h9 b hb j hj
 ·rcases hS with h|⟨id,hid⟩|h
  ·exact h10 h.1
  ·exact ne4 id l hid rfl
  ·omega
 ·rcases hS with h|⟨id,hid⟩|h
  ·exact h11 h.1
  ·exact hr4 (own4 id r hid).1
  ·have:=hM.hr;omega
 ·exact hkept
 ·have hne:r≠l:=hM.rl
  refine (hsame r (by have:=hM.hr;omega) (fun ⟨id,hid⟩=>h11 (own id r hid).1) hne).trans hM.dfr
 ·refine hsame b (hK b hb) (fun ⟨id,hid⟩=>h9 b hb id hid) fun e=>hM.Kl (e ▸ hb)
end
def rangeC:Code->Option (Operand×Array Tmp×Code×Code)
 | .rangeFunc g ps x b=>some (g,ps,x,b)
 | _=>none
def pinS:List (Nat×Nat)->AS->AS
 | [],s=>s
 | (x,y):: ρ,s=>pinS ρ (rename x y (retire y s))
def unpinS:List (Nat×Nat)->AS->AS
 | [],s=>s
 | (x,y):: ρ,s=>unpinS ρ (rename y x (retire x s))
def pinsOK:List (Nat×Nat)->Bool
 | []=>true
 | (x,y):: ρ =>match Nat.ble x 999999999999,Nat.ble 1000000000000 y with|true,true=>pinsOK ρ |_,_=>false
section
variable {n:Nat} {a:Act} {w w0:World}
theorem pin_ok:∀(ρ :List (Nat×Nat)) (s:AS) (Z:Zone) (φ:Nat->Option Nat),pinsOK ρ =true->SimO Z w0 n [] s a w φ-> ∃fx φ',SimO ⟨Z.S,Z.X,fx,Z.dfs⟩ w0 n [] (pinS ρ s) a w φ'∧(∀i,i ∉ ρ.map (·.2)->fx i=Z.fix i)∧(∀id g,φ' id=some g->InR φ g)
 | [],s,Z,φ,_,h=>⟨Z.fix,φ,h,fun _ _=>rfl,fun id g hg=>⟨id,hg⟩⟩
 | (x,y):: ρ,s,Z,φ,hp,h=>by
  simp only [pinsOK] at hp
  split at hp
  ·rename_i hx hy
   have hx:=Nat.le_of_ble_eq_true hx
   have hy:=Nat.le_of_ble_eq_true hy
   have h1:=h.retire0 y
   let Z2:Zone:=⟨Z.S,Z.X,fun i=>if i=y then erase φ y x else Z.fix i,Z.dfs⟩
   have h2:SimO Z2 w0 n [] (retire y s) a w (erase φ y):=⟨h1.tsz,h1.dfr,⟨h1.bel.os,h1.bel.tape,h1.bel.output,h1.bel.size,h1.bel.block,h1.bel.g0,h1.bel.gx⟩,h1.slots,h1.rows,h1.only,h1.inj,fun id g hg=>⟨⟨(h1.rng id g hg).1.1.imp (fun h=>h) fun hf=>by
     show (if id=y then erase φ y x else Z.fix id)=some g
     have hne:id≠y:=fun e=>by subst e;unfold erase at hg;rw [if_pos rfl] at hg;cases hg
     rw [if_neg hne];exact hf,(h1.rng id g hg).1.2⟩,(h1.rng id g hg).2⟩,h1.apart,h1.new⟩
   have h3:=h2.renameG x y (.inr fun g hg=>by show (if y=y then erase φ y x else Z.fix y)=some g;rw [if_pos rfl];exact hg) (by omega) (look_retire_none y)
   obtain ⟨fx,φ',h4,h5,h6⟩:=pin_ok ρ _ Z2 _ hp h3
   refine ⟨fx,φ',h4,fun i hi=>?_,fun id g hg=>?_⟩
   ·simp only [List.map_cons,List.mem_cons,not_or] at hi
    rw [h5 i hi.2]
    show (if i=y then erase φ y x else Z.fix i)=Z.fix i
    rw [if_neg hi.1]
   ·obtain ⟨j,hj⟩:=h6 id g hg
    unfold renφ erase at hj
    split at hj
    ·split at hj
     ·cases hj
     ·exact ⟨_,hj⟩
    ·split at hj
     ·cases hj
     ·exact ⟨_,hj⟩
  ·cases hp
theorem unpin_ok {Z:Zone}:∀(ρ :List (Nat×Nat)) (s:AS) (φ:Nat->Option Nat),pinsOK ρ =true->SimO Z w0 n [] s a w φ-> ∃ φ',SimO Z w0 n [] (unpinS ρ s) a w φ'∧(∀id g,φ' id=some g->InR φ g)∧(∀id,1000000000000≤id->id∈ ρ.map (·.2)∨φ id=none->φ' id=none)
 | [],s,φ,_,h=>⟨φ,h,fun id g hg=>⟨id,hg⟩,fun id _ hid=>hid.resolve_left (by simp)⟩
 | (x,y):: ρ,s,φ,hp,h=>by
  simp only [pinsOK] at hp
  split at hp
  ·rename_i hx hy
   have hx:=Nat.le_of_ble_eq_true hx
   have hy:=Nat.le_of_ble_eq_true hy
   have h1:=h.retire0 x
   have h3:=h1.renameG y x (.inl (by omega)) (by omega) (look_retire_none x)
   obtain ⟨φ',h4,h5,h6⟩:=unpin_ok ρ _ _ hp h3
   refine ⟨φ',h4,fun id g hg=>?_,fun id hid hor=>h6 id hid ?_⟩
   ·obtain ⟨j,hj⟩:=h5 id g hg
    unfold renφ erase at hj
    split at hj
    ·split at hj
     ·cases hj
     ·exact ⟨_,hj⟩
    ·split at hj
     ·cases hj
     ·exact ⟨_,hj⟩
   ·have key:(id=y∨φ id=none)->renφ y x (erase φ x) id=none:=by
     intro hor
     unfold renφ erase
     rw [if_neg (by omega)]
     rcases hor with e|e
     ·rw [if_pos e]
     ·split
      ·rfl
      ·rw [if_neg (by omega)];exact e
    rcases hor with hor|hor
    ·simp only [List.map_cons,List.mem_cons] at hor
     rcases hor with hor|hor
     ·exact .inr (key (.inl hor))
     ·exact .inl hor
    ·exact .inr (key (.inr hor))
  ·cases hp
end
def Clos (op:List (Value×AV)) (s s1:AS):Prop:=∀Z w0 n a w φ,SimO Z w0 n [] s a w φ->(∀p∈op,Rep (Free Z w φ []) w p.1 p.2)->SimO Z w0 n [] s1 a w φ
def RQ (op:List (Value×AV)) (Q:Exit->AS->Prop) (ρ :List (Nat×Nat)) (F:List (Nat×AV)) (H:List (Nat×Row)):Exit->AS->Prop
 | .normal,s'=>Weaks s' ⟨[],H⟩
 | .exit id,s'=>∃X s1,ClosedH X∧okFB X F=true∧Weaks s' ⟨[],X⟩∧Clos op ⟨F,X⟩ s1∧Q (.exit id) (unpinS ρ s1)
 | .ret,s'=>∃X s1,ClosedH X∧okFB X F=true∧Weaks s' ⟨[],X⟩∧Clos op ⟨F,X⟩ s1∧Q .ret (unpinS ρ s1)
 | _,_=>False
def JumpOK (op:List (Value×AV)) (Q:Exit->AS->Prop) (ρ :List (Nat×Nat)) (s:AS) (c:Code):Prop:=∃s1,Clos op s s1∧((∃id,c= .exit id∧Q (.exit id) (unpinS ρ s1))∨(c= .ret∧Q .ret (unpinS ρ s1)))
section
variable {op:List (Value×AV)} {P:Program} {S0:Zone} {w0:World} {n:Nat} {tm:Array Value} {fx:Nat->Option Nat} {r l:Nat} {we:World} {Q:Exit->AS->Prop} {ρ :List (Nat×Nat)}
theorem mid_round {fn:FuncId} {ps:Array Tmp} {x bd:Code} {F:List (Nat×AV)} {H H':List (Nat×Row)} {As:List AV} {O K:Nat->Prop} {w1:World} {vs:List Value}
  (hM:Mid op S0 w0 n tm fx r l we {state:=.ready,pending:=none,fn:=fn,tmps:=tm,params:=ps,assign:=x,body:=bd,defers:=r} ⟨F,H⟩ O K w1) (hOK:∀b,O b->K b) (hK:∀b,K b->b<w1.heap.size)
  (hl:vs.length=As.length) (hd:∀(j:Nat) v x,vs[j]?=some v->As[j]?=some x->Rep K w1 v x) (hps:ps.toList.length=As.length) (hpn:∀p∈ps.toList,p<n) (hcx:calmC x=true) (hcb:calmC bd=true)
  (hA:AWP P n x (Then (AWP P n bd (RQ op Q ρ F H')) (fun _ _=>False)) (putP ps.toList As ⟨F,H⟩)) (hH':ClosedH H') (hF:OkF F H) (hFH:OkF F H') :
  YieldAt P l vs w1 fun t w2=>Good w2∧w1.heap.size≤w2.heap.size∧(∀b,K b->w2.heap[b]?=w1.heap[b]?) ∧
   (t=true->Mid op S0 w0 n tm fx r l we {state:=.ready,pending:=none,fn:=fn,tmps:=tm,params:=ps,assign:=x,body:=bd,defers:=r} ⟨F,H'⟩ O K w2) ∧
   (t=false-> ∃X c,Mid op S0 w0 n tm fx r l we {state:=.done,pending:=some c,fn:=fn,tmps:=tm,params:=ps,assign:=x,body:=bd,defers:=r} ⟨F,X⟩ O K w2∧JumpOK op Q ρ ⟨F,X⟩ c):=by
 obtain ⟨wb,φ,Z,h1,h2,h3,h4,h5,h6,h7,h8,h9,h10,h11,h12⟩:=hM.ex
 have own:∀id g,φ id=some g->Z.S g∧g<wb.heap.size:=fun id g hg=>⟨h1.new g (h1.rng id g hg).1.2,(h1.rng id g hg).2⟩
 have hlw:l<w1.heap.size:=by have:=hM.hl;omega
 have hnl:¬InR φ l:=fun ⟨id,hid⟩=>h10 (own id l hid).1
 have hnr:¬InR φ r:=fun ⟨id,hid⟩=>h11 (own id r hid).1
 refine ⟨_,_,_,_,run_yield hM.recd (by simp [hl,←hps]),?_⟩
 refine roundIn_of_wpIn trivial ?_
 let Z1:Zone:=⟨fun b=>(Z.S b∧b<wb.heap.size)∨w1.heap.size≤b∨K b,InR φ,fx,[]⟩
 have hl1:¬Z1.S l:=fun h=>by
  rcases h with h|h|h
  ·exact h10 h.1
  ·omega
  ·exact hM.Kl h
 have hr1:¬Z1.S r:=fun h=>by
  rcases h with h|h|h
  ·exact h11 h.1
  ·have:=hM.hr;omega
  ·exact hM.Kr h
 have hnew1:∀b,(w1.heap.size≤b∨InR φ b)->Z1.S b:=fun b hb=>hb.elim (fun h=>.inr (.inl h)) fun ⟨id,hid⟩=>.inl (own id b hid)
 have s1:SimO Z1 w1 n [] ⟨F,H⟩ ⟨tm,[]⟩ w1 φ:=h1.rebase h4 (fun b hb hlt=>h5 b hb hlt) (fun b hb hlt=>.inl ⟨hb,hlt⟩) hnew1 (fun id g hg=>⟨id,hg⟩) (fun id g hg=>by
  rcases (h1.rng id g hg).1.1 with h|h
  ·exact .inl h
  ·right;show fx id=some g;rw [←h2];exact h) rfl rfl hM.kept.good (fun b hb=>h1.noTB hb)
 have s2:=params_ok ps.toList vs As ⟨F,H⟩ ⟨tm,[]⟩ s1 hl hpn fun j v x hv hx=>.rep ((hd j v x hv hx).mono fun b hb=>⟨⟨hK b hb,by simp,h9 b hb,.inr (.inr hb)⟩,rfl⟩)
 have e0:((ps.zip vs.toArray).foldl (fun (t:Array Value) (p:Tmp×Value)=>t.setIfInBounds p.1 p.2) tm)=((ps.toList.zip vs).foldl (fun t p=>t.setIfInBounds p.1 p.2) tm):=by
  rw [←Array.foldl_toList];simp
 have hx:=hA Z1 w1 _ w1 ⟨φ,s2⟩
 have e1:({tmps:=((ps.zip vs.toArray).foldl (fun (t:Array Value) (p:Tmp×Value)=>t.setIfInBounds p.1 p.2) tm),defers:=[]}:Act)=⟨(ps.toList.zip vs).foldl (fun t p=>t.setIfInBounds p.1 p.2) tm,[]⟩:=by rw [e0]
 show x.wpIn (Fence.wide.inRound l) 0 P _ ({tmps:=((ps.zip vs.toArray).foldl (fun (t:Array Value) (p:Tmp×Value)=>t.setIfInBounds p.1 p.2) tm),defers:=[]}:Act) w1
 rw [e1]
 refine swp_round (ro:=some l) x _ _ _ hcx (by rintro ⟨_,_,h⟩;exact h) (swp_mono x _ _ (fun e a1 w1' ⟨s',hq,hs'⟩=>?_) _ _ hx)
 cases e with
 | normal =>
  obtain ⟨S1,wb1,ms,hE,φ1,hs1⟩:=hs'
  have k1:=hE.kept.trans hs1.bel hE.X
  have hrec1:=(k1.block l hlw hnl).trans hM.recd
  refine ⟨_,run_beginRound hrec1 rfl,?_⟩
  generalize hw2:w1'.putObj l _=w2
  have hsz2:w2.heap.size=w1'.heap.size:=by rw [←hw2];exact World.putObj_size
  have ho2:∀b,b≠l->w2.heap[b]?=w1'.heap[b]?:=fun b hb=>by rw [←hw2];exact World.putObj_heap_other hb
  have hrec2:w2.heap[l]?=some (.loop {state:=.busy,pending:=none,fn:=fn,tmps:=tm,params:=ps,assign:=x,body:=bd,defers:=r}):=by rw [←hw2];exact World.putObj_heap_same (Nat.lt_of_lt_of_le hlw k1.size)
  have own1:∀id g,φ1 id=some g->S1.S g∧g<w1'.heap.size:=fun id g hg=>⟨hs1.new g (hs1.rng id g hg).1.2,(hs1.rng id g hg).2⟩
  have hS1l:∀b,S1.S b->b≠l:=fun b hb e=>hl1 (hE.sub l (e ▸ hb))
  have rng1:∀id g,φ1 id=some g->w1.heap.size≤g∨InR φ g:=fun id g hg=>by
   rcases (hs1.rng id g hg).1.2 with h|h
   ·exact .inl (Nat.le_trans hE.kept.size h)
   ·exact hE.X g h
  let Z2:Zone:=⟨fun b=>(S1.S b∧b<w1'.heap.size)∨w2.heap.size≤b,InR φ1,fx,a1.defers⟩
  have s3:SimO Z2 w2 n [] s' a1 w2 φ1:=hs1.rebase (by omega) (fun b hb _=>ho2 b (hS1l b hb)) (fun b hb hlt=>.inl ⟨hb,hlt⟩) (fun b hb=>hb.elim .inr fun ⟨id,hid⟩=>.inl (own1 id b hid)) (fun id g hg=>⟨id,hg⟩) (fun id g hg=>by
   rcases (hs1.rng id g hg).1.1 with h|h
   ·exact .inl h
   ·right;show fx id=some g;rw [hE.fix] at h;exact h) rfl rfl (hs1.bel.good.keep fun b hb=>ho2 b fun e=>hM.kept.noTB (.inl hM.lge) (e ▸ hb)) (fun b hb=>hs1.noTB hb)
  have hb:=hq Z2 w2 a1 w2 ⟨φ1,s3⟩
  refine swp_round (ro:=some l) bd _ _ _ hcb (by rintro ⟨_,_,h⟩;exact h) (swp_mono bd _ _ (fun e a3 w3 ⟨s'',hq3,hs3⟩=>?_) _ _ hb)
  obtain ⟨S3,wb3,ms3,hE3,φ3,hs3⟩:=hs3
  have k3:=hE3.kept.trans hs3.bel hE3.X
  have hnl1:¬InR φ1 l:=fun ⟨id,hid⟩=>hS1l l (own1 id l hid).1 rfl
  have hrec3:=(k3.block l (by rw [hsz2];exact Nat.lt_of_lt_of_le hlw k1.size) hnl1).trans hrec2
  have hsz3:w1.heap.size≤w3.heap.size:=Nat.le_trans k1.size (by rw [←hsz2];exact k3.size)
  have hblk:∀b,b<w1.heap.size-> ¬InR φ b->b≠l->w3.heap[b]?=w1.heap[b]?:=fun b hlt hn hne =>
   (k3.block b (by rw [hsz2];exact Nat.lt_of_lt_of_le hlt k1.size) fun ⟨id,hid⟩=>(rng1 id b hid).elim (fun h=>by omega) hn).trans ((ho2 b hne).trans (k1.block b hlt hn))
  have hos:w2.os=w1'.os∧w2.tape=w1'.tape∧w2.output=w1'.output:=by rw [←hw2];exact ⟨rfl,rfl,rfl⟩
  have hS3l:¬S3.S l:=fun h=>(hE3.sub l h).elim (fun h=>hS1l l h.1 rfl) fun h=>by have:=k1.size;omega
  have hS3r:¬S3.S r:=fun h=>(hE3.sub r h).elim (fun h=>hr1 (hE.sub r h.1)) fun h=>by have:=k1.size;have:=hM.hr;omega
  have next:∀(X:List (Nat×Row)) (rc':Loop),Weaks s'' ⟨[],X⟩->ClosedH X->OkF F X->Mid op S0 w0 n tm fx r l we rc' ⟨F,X⟩ O K (w3.putObj l (.loop rc'))∧(∀b,K b->(w3.putObj l (.loop rc')).heap[b]?=w1.heap[b]?):=by
   intro X rc' hw hX hFX
   obtain ⟨φ4,hs4⟩:=hw S3 wb3 n a3 w3 ⟨φ3,hs3⟩
   exact mid_next hM hOK hK h1 h2 h3 h4 h5 h6 h7 h8 h9 h10 h11 h12 hs4 hE3.fix (fun id g hg=>by
    rcases (hs4.rng id g hg).1.2 with h|h
    ·left;have:=hE3.kept.size;have:=k1.size;omega
    ·rcases hE3.X g h with h|⟨j,hj⟩
     ·left;have:=k1.size;omega
     ·exact rng1 j g hj) hS3l hS3r (k3.os.trans (hos.1.trans k1.os)) (k3.tape.trans (hos.2.1.trans k1.tape)) (k3.output.trans (hos.2.2.trans k1.output)) hsz3 hblk hX hF hFX
  cases e with
  | normal =>
   obtain ⟨g1,g2⟩:=next H' {state:=.ready,pending:=none,fn:=fn,tmps:=tm,params:=ps,assign:=x,body:=bd,defers:=r} hq3 hH' hFH
   exact ⟨_,_,run_endRound none hrec3,true,rfl,g1.kept.good,by rw [World.putObj_size];exact hsz3,g2,fun _=>g1,fun h=>(by cases h)⟩
  | exit id =>
   obtain ⟨X,s1,q1,q2,q3,q5,q4⟩:=hq3
   obtain ⟨g1,g2⟩:=next X {state:=.done,pending:=some (.exit id),fn:=fn,tmps:=tm,params:=ps,assign:=x,body:=bd,defers:=r} q3 q1 (okFB_ok q2)
   exact ⟨_,_,run_endRound (some (.exit id)) hrec3,false,rfl,g1.kept.good,by rw [World.putObj_size];exact hsz3,g2,fun h=>(by cases h),fun _=>⟨X,.exit id,g1,s1,q5,.inl ⟨id,rfl,q4⟩⟩⟩
  | ret =>
   obtain ⟨X,s1,q1,q2,q3,q5,q4⟩:=hq3
   obtain ⟨g1,g2⟩:=next X {state:=.done,pending:=some .ret,fn:=fn,tmps:=tm,params:=ps,assign:=x,body:=bd,defers:=r} q3 q1 (okFB_ok q2)
   exact ⟨_,_,run_endRound (some .ret) hrec3,false,rfl,g1.kept.good,by rw [World.putObj_size];exact hsz3,g2,fun h=>(by cases h),fun _=>⟨X,.ret,g1,s1,q5,.inr ⟨rfl,q4⟩⟩⟩
  | _=>exact hq3.elim
 | _=>exact hq.elim
theorem mid_end {rc:Loop} {s s1:AS} {O K:Nat->Prop} {w':World} {a a':Act} (hM:Mid op S0 w0 n a.tmps fx r l we rc s O K w') (hρ :pinsOK ρ =true) (hfx:∀i,i ∉ ρ.map (·.2)->fx i=S0.fix i) (hrge:w0.heap.size≤r) (ht:a'.tmps=a.tmps) (hd:a'.defers=mark r::S0.dfs) (hcl:Clos op s s1) (rc':Loop) :
  Sim1 S0 w0 n (unpinS ρ s1) a' (w'.putObj l (.loop rc')):=by
 obtain ⟨wb,φ,Z,h1,h2,h3,h4,h5,h6,h7,h8,h9,h10,h11,h12⟩:=hM.ex
 obtain ⟨φ',u1,u2,u3⟩:=unpin_ok ρ _ _ hρ (hcl _ _ _ _ _ _ h1 h12)
 have hlw:l<w'.heap.size:=by have:=hM.hl;omega
 have hsz:(w'.putObj l (.loop rc')).heap.size=w'.heap.size:=World.putObj_size
 have ho:∀b,b≠l->(w'.putObj l (.loop rc')).heap[b]?=w'.heap[b]?:=fun b hb=>World.putObj_heap_other hb
 have own:∀id g,φ' id=some g->Z.S g∧g<wb.heap.size:=fun id g hg=>⟨u1.new g (u1.rng id g hg).1.2,(u1.rng id g hg).2⟩
 let S1:Zone:=⟨fun b=>(Z.S b∧b<wb.heap.size)∨w'.heap.size≤b,InR φ',S0.fix,mark r::S0.dfs⟩
 have hs:SimO S1 (w'.putObj l (.loop rc')) n [] (unpinS ρ s1) a' (w'.putObj l (.loop rc')) φ':=u1.rebase (by rw [hsz];exact h4) (fun b hb hlt=>(ho b fun e=>h10 (e ▸ hb)).trans (h5 b hb hlt)) (fun b hb hlt=>.inl ⟨hb,hlt⟩) (fun b hb=>by
   rcases hb with h|⟨id,hid⟩
   ·right;rw [hsz] at h;exact h
   ·exact .inl (own id b hid)) (fun id g hg=>⟨id,hg⟩) (fun id g hg=>by
  rcases Nat.lt_or_ge id 1000000000000 with h|h
  ·exact .inl h
  ·right
   rcases (u1.rng id g hg).1.1 with h'|h'
   ·omega
   ·show S0.fix id=some g
    have hno:id ∉ ρ.map (·.2):=fun hm=>(by rw [u3 id h (.inl hm)] at hg;cases hg)
    rw [←hfx id hno,←h2];exact h') ht hd (hM.kept.good.keep fun b hb=>ho b fun e=>hM.kept.noTB (.inl hM.lge) (e ▸ hb)) (fun b hb=>u1.noTB hb)
 refine ⟨S1,w'.putObj l (.loop rc'),[r],⟨⟨hM.kept.os,hM.kept.tape,hM.kept.output,by rw [hsz];exact hM.kept.size,fun k hk hx=>(ho k fun e=>by have:=hM.lge;omega).trans (hM.kept.block k hk hx),hM.kept.g0,hM.kept.gx⟩,fun b hb=>?_,fun b ⟨id,hid⟩=>?_,rfl,rfl,by simp,fun r' hr'=>?_⟩,φ',hs⟩
 ·rcases hb with h|h
  ·exact h6 b h.1 h.2
  ·exact hM.new0 b (Nat.le_trans hM.kept.size h)
 ·obtain ⟨j,hj⟩:=u2 id b hid
  exact h7 j b hj
 ·obtain rfl:r'=r:=by simpa using hr'
  refine ⟨hrge,by rw [hsz];have:=hM.hr;omega,(ho _ hM.rl).trans hM.dfr,fun h=>?_,fun ⟨id,hid⟩=>h11 (own id _ hid).1⟩
  rcases h with h|h
  ·exact h11 h.1
  ·have:=hM.hr;omega
theorem AWP.range {c:Code} {s:AS} {g:Operand} {ps:Array Tmp} {x bd:Code} (hc:rangeC c=some (g,ps,x,bd)) {f:Nat} {caps:List AV} (A:Nat->List AV) (N:Nat) (hit:IterP P f caps A N) (hE:isEnter P f=true) (hcx:calmC x=true) (hcb:calmC bd=true)
  (ρ :List (Nat×Nat)) (hρ :pinsOK ρ =true) (xs:List AV) (F:List (Nat×AV)) (I:List Value->Nat->List (Nat×Row)) (sN:AS)
  (hw:∀Z w0 a w φ,SimO Z w0 n [] (pinS ρ s) a w φ-> ∃ φ2 vs,vs.length=xs.length∧SimO Z w0 n [] ⟨F,I vs 0⟩ a w φ2∧ ∀p∈vs.zip xs,Rep (Free Z w φ2 []) w p.1 p.2) (hg:∀vs,vs.length=xs.length->opd ⟨F,I vs 0⟩ g= .clo f caps) (hps:∀i,ps.toList.length=(A i).length) (hpn:(ps.toList.all fun p=>Nat.blt p n)=true)
  (hI:∀vs i,vs.length=xs.length->i≤N->ClosedH (I vs i)∧okFB (I vs i) F=true) (hround:∀vs i,vs.length=xs.length->i<N->AWP P n x (Then (AWP P n bd (RQ (vs.zip xs) Q ρ F (I vs (i+1)))) (fun _ _=>False)) (putP ps.toList (A i) ⟨F,I vs i⟩)) (hcl:∀vs,vs.length=xs.length->Clos (vs.zip xs) ⟨F,I vs N⟩ sN) (hend:Q .normal (unpinS ρ sN)):AWP P n c Q s:=by
 cases c with
 | rangeFunc g' ps' x' bd' =>
  cases hc
  intro S0 w0 a w ⟨φ,hs⟩
  show (Code.rangeFunc g ps x bd).wp P _ a w
  refine wpIn_wide.1 (wpIn_rangeFunc (n:=0) fun fn _=>?_)
  obtain ⟨fx,φ1,hp1,hp2,-⟩:=pin_ok ρ s S0 φ hρ hs
  obtain ⟨φ2,us,hul,hs2,hop⟩:=hw _ _ _ _ _ hp1
  have dg:=hs2.opd g
  rw [hg us hul] at dg
  obtain ⟨cv,hv,hl1,hl2⟩:=rep_clo dg
  generalize hwe:(w.alloc (.deferred (some []))).alloc (.loop {state:=.ready,pending:=none,fn:=fn,tmps:=a.tmps,params:=ps,assign:=x,body:=bd,defers:=w.heap.size})=we
  have hsz:we.heap.size=w.heap.size+2:=by rw [←hwe];simp
  have hold:∀b,b<w.heap.size->we.heap[b]?=w.heap[b]?:=fun b hb=>by
   rw [←hwe,Below.heap_alloc _ _ _ (by simp;omega),Below.heap_alloc _ _ _ hb]
  have hnr:we.heap[w.heap.size]?=some (.deferred (some [])):=by rw [←hwe,Below.heap_alloc _ _ _ (by simp)];exact World.alloc_heap_new w _
  have hnl:we.heap[w.heap.size+1]?=some (.loop {state:=.ready,pending:=none,fn:=fn,tmps:=a.tmps,params:=ps,assign:=x,body:=bd,defers:=w.heap.size}):=by
   rw [←hwe]
   have:=World.alloc_heap_new (w.alloc (.deferred (some []))) (.loop {state:=.ready,pending:=none,fn:=fn,tmps:=a.tmps,params:=ps,assign:=x,body:=bd,defers:=w.heap.size})
   rw [World.size_alloc] at this;exact this
  have hwo:we.os=w.os∧we.tape=w.tape∧we.output=w.output:=by rw [←hwe];exact ⟨rfl,rfl,rfl⟩
  refine ⟨w.heap.size+1,[mark w.heap.size],we,{target:=.fn (.func f) cv.toArray,args:= #[.func (.yield (w.heap.size+1)) #[] #[]]},we,f,(Value.func (.yield (w.heap.size+1)) #[] #[]::cv).toArray,we,?_,?_,fun _ _=>trivial,?_,fun h=>by simp [Fence.wide] at h,?_⟩
  ·rw [←hwe];exact run_enterLoop_outer fn a.tmps ps x bd
  ·have ec:a.eval (.const (Value.func (.yield (w.heap.size+1)) #[] #[]))=Value.func (.yield (w.heap.size+1)) #[] #[]:=rfl
   unfold resolve;simp [hv,ec,Deferred.ofValue]
  ·have e:(Value.func (.yield (w.heap.size+1)) #[] #[]::cv).toArray= #[Value.func (.yield (w.heap.size+1)) #[] #[]]++cv.toArray:=by apply Array.ext';simp
   rw [e]
   exact isEnter_ok hE _ _
  ·refine callsIn_wide.2 ?_
   have hin:w0.heap.size≤w.heap.size:=hs2.bel.size
   have own2:∀id g,φ2 id=some g->S0.S g∧g<w.heap.size:=fun id g hg=>⟨hs2.new g (hs2.rng id g hg).1.2,(hs2.rng id g hg).2⟩
   let Z:Zone:=⟨fun b=>(S0.S b∧b<w.heap.size)∨we.heap.size≤b,InR φ2,fx,[]⟩
   have hZ:SimO Z we n [] ⟨F,I us 0⟩ ⟨a.tmps,[]⟩ we φ2:=hs2.rebase (by omega) (fun b _ hlt=>hold b hlt) (fun b hb hlt=>.inl ⟨hb,hlt⟩) (fun b hb=>hb.elim .inr fun ⟨id,hid⟩=>.inl (own2 id b hid)) (fun id g hg=>⟨id,hg⟩) (fun id g hg=>(hs2.rng id g hg).1.1) rfl rfl (hs2.bel.good.keep fun b hb=>hold b (hs2.bel.good.lt hb)) (fun b hb=>hs2.noTB hb)
   have hM0:Mid (us.zip xs) S0 w0 n a.tmps fx w.heap.size (w.heap.size+1) we {state:=.ready,pending:=none,fn:=fn,tmps:=a.tmps,params:=ps,assign:=x,body:=bd,defers:=w.heap.size} ⟨F,I us 0⟩ (fun _=>False) (Free ⟨S0.S,S0.X,fx,S0.dfs⟩ w φ2 []) we:=by
    refine ⟨⟨we,φ2,Z,hZ,rfl,Nat.le_refl _,Nat.le_refl _,fun _ _ _=>rfl,fun b hb hlt=>?_,fun id g hg=>(hs2.rng id g hg).1.2,fun _ h=>h.elim,fun b hb=>hb.2.2.1,fun h=>?_,fun h=>?_,fun p hp=>(hop p hp).mono fun b hb=>⟨⟨by rw [hsz];have:=hb.1;omega,by simp,hb.2.2.1,.inl ⟨hb.2.2.2,hb.1⟩⟩,hold b hb.1⟩⟩,?_,by omega,fun _ h=>h.elim,by omega,by omega,fun h=>?_,hnl,fun b hb=>hs2.new b (.inl hb),by omega,by omega,fun h=>?_,hnr⟩
    ·rcases hb with h|h
     ·exact h.1
     ·omega
    ·rcases h with h|h<;>omega
    ·rcases h with h|h<;>omega
    ·exact ⟨hwo.1.trans hs2.bel.os,hwo.2.1.trans hs2.bel.tape,hwo.2.2.trans hs2.bel.output,by omega,fun k hk hx=>(hold k (by omega)).trans (hs2.bel.block k hk hx),hs2.bel.g0,hs2.bel.gx⟩
    ·have:=h.1;omega
    ·have:=h.1;omega
   have hcall:=hit (w.heap.size+1) we (Free ⟨S0.S,S0.X,fx,S0.dfs⟩ w φ2 []) cv
    (fun i=>Mid (us.zip xs) S0 w0 n a.tmps fx w.heap.size (w.heap.size+1) we {state:=.ready,pending:=none,fn:=fn,tmps:=a.tmps,params:=ps,assign:=x,body:=bd,defers:=w.heap.size} ⟨F,I us i⟩)
    (fun O K w'=>∃X c,Mid (us.zip xs) S0 w0 n a.tmps fx w.heap.size (w.heap.size+1) we {state:=.done,pending:=some c,fn:=fn,tmps:=a.tmps,params:=ps,assign:=x,body:=bd,defers:=w.heap.size} ⟨F,X⟩ O K w'∧JumpOK (us.zip xs) Q ρ ⟨F,X⟩ c)
    hZ.bel.good (fun b hb=>by have:=hb.1;omega) hl1 (fun j v c hv hc=>(hl2 j v c hv hc).mono fun b hb=>⟨hb,hold b hb.1⟩) (fun i=>Mid.stable)
    (fun O K w' O' K' w'' ⟨X,c,hX,hc⟩ st h1 h2=>⟨X,c,Mid.stable O K w' O' K' w'' hX st h1 h2,hc⟩)
    (fun i hi O K w1 vs hJ hOK hK hl hd=>mid_round hJ hOK hK hl hd (hps i) (fun p hp=>Nat.le_of_ble_eq_true (List.all_eq_true.1 hpn p hp)) hcx hcb (hround us i hul hi) (hI us (i+1) hul hi).1 (okFB_ok (hI us i hul (Nat.le_of_lt hi)).2) (okFB_ok (hI us (i+1) hul hi).2)) hM0
   refine hcall.mono fun e w' ⟨v,O,K,he,hor⟩=>?_
   subst he
   rcases hor with hM|⟨X,c,hM,s1,hc1,hj⟩
   ·exact ⟨_,_,run_endLoop hM.recd (by simp),_,hend,mid_end (a:=a) (a':={a with defers:=[mark w.heap.size]++a.defers}) hM hρ hp2 hin rfl (by show mark w.heap.size::a.defers=_;rw [hs.dfr]) (hcl us hul) _⟩
   ·refine ⟨_,_,run_endLoop hM.recd (by simp),?_⟩
    have hfin:=mid_end (a:=a) (a':={a with defers:=[mark w.heap.size]++a.defers}) hM hρ hp2 hin rfl (by show mark w.heap.size::a.defers=_;rw [hs.dfr]) hc1
    rcases hj with ⟨id,rfl,hq⟩|⟨rfl,hq⟩
    ·exact wpIn_exit ⟨_,hq,hfin _⟩
    ·exact wpIn_ret ⟨_,hq,hfin _⟩
 | _=>cases hc
end
def It (n:Nat) (J:(Nat->Prop)->(Nat->Prop)->World->Prop) (s:AS) (a:Act) (w:World):Prop :=
 ∃(wb:World) (Z:Zone) (φ:Nat->Option Nat) (ms:List Nat),SimO Z wb n [] s a w φ∧Z.dfs=ms.map mark∧ms.Nodup∧(∀r∈ms,r<w.heap.size∧w.heap[r]?=some (.deferred (some []))∧ ¬Z.S r)∧J (fun b=>InR φ b∨b∈ms) (fun b=>(Z.S b∨b∈ms)∧b<w.heap.size) w
section
variable {P:Program} {n:Nat} {J:(Nat->Prop)->(Nat->Prop)->World->Prop} {s s':AS} {a:Act} {w:World} {Q:Exit->Act->World->Prop}
theorem It.begin (h:It n J s a w) (hJ:Stable J):∃Z:Zone,Sim Z w n s a w∧ ∀(s':AS) (a':Act) (w':World),Sim1 Z w n s' a' w'->It n J s' a' w':=by
 obtain ⟨wb,Z,φ,ms,h1,h2,h3,h4,h5⟩:=h
 have own:∀id g,φ id=some g->Z.S g∧g<w.heap.size:=fun id g hg=>⟨h1.new g (h1.rng id g hg).1.2,(h1.rng id g hg).2⟩
 let Z':Zone:=⟨fun b=>(Z.S b∧b<w.heap.size)∨w.heap.size≤b,InR φ,φ,Z.dfs⟩
 have hs:SimO Z' w n [] s a w φ:=h1.rebase (Nat.le_refl _) (fun _ _ _=>rfl) (fun b hb hlt=>.inl ⟨hb,hlt⟩) (fun b hb=>hb.elim .inr fun ⟨id,hid⟩=>.inl (own id b hid)) (fun id g hg=>⟨id,hg⟩) (fun id g hg=>.inr hg) rfl h1.dfr h1.bel.good (fun b hb=>h1.noTB hb)
 refine ⟨Z',⟨φ,hs⟩,fun s' a' w' ⟨S1,w1,ms',hE,φ',hs'⟩=>?_⟩
 have k:=hE.kept.trans hs'.bel hE.X
 have hms:∀r∈ms,¬InR φ r:=fun r hr ⟨id,hid⟩=>(h4 r hr).2.2 (own id r hid).1
 refine ⟨w1,S1,φ',ms'++ms,hs',by rw [hE.dfs,List.map_append];exact congrArg _ h2,?_,fun r hr=>?_,hJ _ _ _ _ _ _ h5 ⟨k.os,k.tape,k.output,k.size,fun b hb hn=>k.block b hb fun h=>hn (.inl h)⟩ (fun b hb=>?_) fun b hb=>?_⟩
 ·rw [List.nodup_append]
  refine ⟨hE.nodup,h3,fun r hr r' hr' e=>?_⟩
  subst e
  have:=(hE.marks r hr).1
  have:=(h4 r hr').1
  omega
 ·rcases List.mem_append.1 hr with hr|hr
  ·obtain ⟨u1,u2,u3,u4,u5⟩:=hE.marks r hr
   exact ⟨Nat.lt_of_lt_of_le u2 hs'.bel.size,(hs'.bel.block r u2 u5).trans u3,u4⟩
  ·obtain ⟨u1,u2,u3⟩:=h4 r hr
   refine ⟨Nat.lt_of_lt_of_le u1 k.size,(k.block r u1 (hms r hr)).trans u2,fun h=>?_⟩
   rcases hE.sub r h with h|h
   ·exact u3 h.1
   ·omega
 ·rcases hb with ⟨id,hid⟩|hb
  ·rcases (hs'.rng id b hid).1.2 with h|h
   ·right;have:=hE.kept.size;omega
   ·exact (hE.X b h).elim .inr fun h=>.inl (.inl h)
  ·rcases List.mem_append.1 hb with hb|hb
   ·exact .inr (hE.marks b hb).1
   ·exact .inl (.inr hb)
 ·obtain ⟨hb,hlt⟩:=hb
  rcases hb with hb|hb
  ·rcases hE.sub b hb with h|h
   ·exact .inl ⟨.inl h.1,h.2⟩
   ·exact .inr h
  ·rcases List.mem_append.1 hb with hb|hb
   ·exact .inr (hE.marks b hb).1
   ·exact .inl ⟨.inr hb,(h4 b hb).1⟩
theorem It.seg {c:Code} {Qs:Exit->AS->Prop} (h:It n J s a w) (hJ:Stable J) (hc:AWP P n c Qs s):swp P c (fun e a' w'=>∃s',Qs e s'∧It n J s' a' w') a w:=by
 obtain ⟨Z,hs,hback⟩:=h.begin hJ
 exact swp_mono _ _ _ (fun e a' w' ⟨s',hq,hs'⟩=>⟨s',hq,hback s' a' w' hs'⟩) _ _ (hc Z w a w hs)
theorem It.weak (h:It n J s a w) (hJ:Stable J) (hw:Weaks s s'):It n J s' a w:=by
 obtain ⟨Z,hs,hback⟩:=h.begin hJ
 exact hback _ _ _ (hw _ _ _ _ _ hs).one
theorem It.ops {ops:List Oper} {hs:List (Nat×Hint)} {l:List Oper} {i:Nat} {C:List Prop} (h:It n J s a w) (hJ:Stable J) (he:evOps P n ops hs l i s=some (s',C)) (hC:AllP C) (hQ:∀a' w',It n J s' a' w'->Q .normal a' w'):wpList P ops.toArray Q l a w:=by
 obtain ⟨Z,hs,hback⟩:=h.begin hJ
 exact evOps_ok (S0:=Z) (w0:=w) _ _ _ _ _ he hC a w hs fun a' w' hs'=>hQ a' w' (hback _ _ _ hs'.one)
theorem wpListIn_app {F:Fence} {m:Nat} {ops:Array Oper}:∀(l1 l2:List Oper) (a:Act) (w:World),wpListIn F m P ops (Exit.then (wpListIn F m P ops Q l2) Q) l1 a w->wpListIn F m P ops Q (l1++l2) a w
 | [],l2,a,w,h=>h
 | o::l1,l2,a,w,h=>by
  rw [List.cons_append]
  unfold wpListIn at h ⊢
  split at h
  ·rename_i hw
   rw [if_pos hw]
   refine ⟨h.1,?_⟩
   have h2:=h.2
   generalize (o.semAt F.round a.eval).run P w=r at *
   cases r with
   | ok x w'=>cases x with
    | value v=>exact wpListIn_app l1 l2 _ _ h2
    | skip=>exact wpListIn_app l1 l2 _ _ h2
    | defer d=>exact wpListIn_app l1 l2 _ _ h2
    | enter f args=>exact ⟨h2.1,CallsIn.mono h2.2 fun e w'' he=>by cases e<;>first|exact wpListIn_app l1 l2 _ _ he|exact he⟩
    | row row args=>exact ⟨h2.1,RowsIn.mono h2.2 fun v w'' he=>wpListIn_app l1 l2 _ _ he⟩
    | round l' f tmps x b=>exact ⟨h2.1,RoundIn.mono h2.2 fun e w'' he=>by cases e<;>first|exact wpListIn_app l1 l2 _ _ he|exact he⟩
    | _=>exact h2
   | halt x w'=>cases x<;>exact h2
  ·rename_i hw
   rw [if_neg hw]
   exact ⟨h.1,wpListIn_app l1 l2 _ _ h.2⟩
theorem wp_yield {id d:Nat} {l1 l2:List Oper} {o:Oper} {y:Operand} {xs:Array Operand} {ts:Array TypeId} {full:List Oper} (hfull:full=l1++o::l2) (ho:o.op= .call ⟨.value y,xs,ts⟩) (hg:o.guard=none) (hd:o.dst=some d) (hQ:¬LetsOut Q) (h1:l1.all noDefer=true) (h2:l2.all noDefer=true)
  (h:wpList P full.toArray (Exit.then (fun a1 w1=>∃l,a1.eval y= .func (.yield l) #[] #[]∧YieldAt P l (xs.toList.map a1.eval) w1 fun t w2=>wpList P full.toArray Q l2 (a1.put (some d) (.bool t)) w2) Q) l1 a w):(Code.region id full.toArray false).wp P Q a w:=by
 refine (wpIn_wide (n:=0)).1 (wpIn_region_lit ?_)
 have e:wpListIn Fence.wide 0 P full.toArray Q full=wpListIn Fence.wide 0 P full.toArray Q (l1++o::l2):=by rw [←hfull]
 rw [e]
 refine wpListIn_app l1 _ a w (list_round (ro:=none) (by rintro ⟨_,_,h⟩;exact hQ ⟨_,_,h⟩) l1 h1 a w (wpList_mono2 (then_mono (fun a1 w1 ⟨l,hy,fn,tmps,x,bd,hr,hround⟩=>?_) fun _ _ _ h=>h) l1 a w h))
 have hw:Region.wanted o (yielded full.toArray a1.tmps)=true:=by unfold Region.wanted;rw [hg]
 unfold wpListIn
 rw [if_pos hw]
 refine ⟨fun _ _=>trivial,?_⟩
 have hrun:(o.semAt Fence.wide.round a1.eval).run P w1= .ok (.round l fn tmps x bd) w1:=by
  rw [Oper.semAt_eq _ _ _ (by intro c e;rw [ho] at e;cases e)]
  have e:xs.map a1.eval=(xs.toList.map a1.eval).toArray:=by apply Array.ext';simp
  unfold execOp
  simp [ho,resolve,hy,Deferred.ofValue,invoke]
  rw [e];simpa using hr
 rw [hrun]
 refine ⟨fun h=>by simp [Fence.wide] at h,RoundIn.mono hround fun e w2 ⟨t,he,ht⟩=>?_⟩
 subst he
 rw [hd]
 exact list_round (ro:=none) hQ l2 h2 _ _ ht
theorem It.yield {A:Nat->List AV} {N:Nat} {J:Nat->(Nat->Prop)->(Nat->Prop)->World->Prop} {X:(Nat->Prop)->(Nat->Prop)->World->Prop} {l i d:Nat} {xs:List Operand} {s1:AS} (hJ:∀i,Stable (J i)) (hX:Stable X) (hd:d<n)
  (hy:∀i,i<N-> ∀(O K:Nat->Prop) (w1:World) (vs:List Value),J i O K w1->(∀b,O b->K b)->(∀b,K b->b<w1.heap.size)->vs.length=(A i).length->(∀(j:Nat) v x,vs[j]?=some v->(A i)[j]?=some x->Rep K w1 v x) ->
   YieldAt P l vs w1 fun t w2=>Good w2∧w1.heap.size≤w2.heap.size∧(∀b,K b->w2.heap[b]?=w1.heap[b]?)∧(t=true->J (i+1) O K w2)∧(t=false->X O K w2))
  (h:It n (J i) s a w) (hi:i<N) (hth:thawAll s ((xs.map (opd s)).flatMap ids1)=some s1) (hrd:readyL (xs.map (opd s1))=true) (hA:xs.map (opd s1)=A i) (T:Bool->World->Prop)
  (h1:∀w2,It n (J (i+1)) (setF s d (ao true)) (a.put (some d) (.bool true)) w2->T true w2) (h2:∀w2,It n X (setF s d (ao false)) (a.put (some d) (.bool false)) w2->T false w2) :
  YieldAt P l (xs.map a.eval) w T:=by
 obtain ⟨wb,Z,φ,ms,k1,k2,k3,k4,k5⟩:=h
 obtain ⟨φ1,hs1⟩:=thawAll_ok _ _ _ _ hth k1
 have own:∀id g,φ id=some g->Z.S g∧g<w.heap.size:=fun id g hg=>⟨k1.new g (k1.rng id g hg).1.2,(k1.rng id g hg).2⟩
 have hround:=hy i hi (fun b=>InR φ b∨b∈ms) (fun b=>(Z.S b∨b∈ms)∧b<w.heap.size) w (xs.map a.eval) k5 (fun b hb=>hb.elim (fun ⟨id,hid⟩=>⟨.inl (own id b hid).1,(own id b hid).2⟩) fun hb=>⟨.inr hb,(k4 b hb).1⟩) (fun b hb=>hb.2) (by rw [←hA];simp)
  (fun j v x hv hx=>(readyL_rep hs1 hrd j v x hv (by rw [hA];exact hx)).mono fun b hb=>⟨⟨.inl hb.2.2.2,hb.1⟩,rfl⟩)
 obtain ⟨fn,tmps,x,bd,hr,hin⟩:=hround
 refine ⟨fn,tmps,x,bd,hr,RoundIn.mono hin fun e w2 ⟨t,he,hgd,hsz,hk,ht,hf⟩=>⟨t,he,?_⟩⟩
 let Z2:Zone:=⟨fun b=>(Z.S b∧b<w.heap.size)∨w2.heap.size≤b,InR φ,φ,Z.dfs⟩
 have hs2:SimO Z2 w2 n [] s a w2 φ:=k1.rebase hsz (fun b hb hlt=>hk b ⟨.inl hb,hlt⟩) (fun b hb hlt=>.inl ⟨hb,hlt⟩) (fun b hb=>hb.elim .inr fun ⟨id,hid⟩=>.inl (own id b hid)) (fun id g hg=>⟨id,hg⟩) (fun id g hg=>.inr hg) rfl k1.dfr hgd (fun b hb=>k1.noTB hb)
 have hK:∀b,((Z2.S b∨b∈ms)∧b<w2.heap.size)->((Z.S b∨b∈ms)∧b<w.heap.size)∨w2.heap.size≤b:=fun b ⟨hb,hlt⟩=>by
  rcases hb with (hb|hb)|hb
  ·exact .inl ⟨.inl hb.1,hb.2⟩
  ·exact .inr hb
  ·exact .inl ⟨.inr hb,(k4 b hb).1⟩
 have hm:∀r∈ms,r<w2.heap.size∧w2.heap[r]?=some (.deferred (some []))∧ ¬Z2.S r:=fun r hr=>by
  obtain ⟨u1,u2,u3⟩:=k4 r hr
  refine ⟨by omega,(hk r ⟨.inr hr,u1⟩).trans u2,fun h=>?_⟩
  rcases h with h|h
  ·exact u3 h.1
  ·omega
 have hst:Steps_ (fun b=>InR φ b∨b∈ms) w2 w2:=⟨rfl,rfl,rfl,Nat.le_refl _,fun _ _ _=>rfl⟩
 cases t with
 | true=>exact h1 w2 ⟨w2,Z2,φ,ms,hs2.put hd (.rep (.val _)),k2,k3,hm,hJ (i+1) _ _ _ _ _ _ (ht rfl) hst (fun b hb=>.inl hb) hK⟩
 | false=>exact h2 w2 ⟨w2,Z2,φ,ms,hs2.put hd (.rep (.val _)),k2,k3,hm,hX _ _ _ _ _ _ (hf rfl) hst (fun b hb=>.inl hb) hK⟩
end
theorem IterP.of_body {P:Program} {f:FuncId} {fn:Func} {c:Code} {caps:List AV} {A:Nat->List AV} {N n:Nat} (hf:P.funcs[f]?=some fn) (hb:fn.body=some c) (hn:fn.ntmps=n) (hres:fn.results= #[]) (hcaps:caps.length+1≤n)
  (h:∀(l:Nat) (J:Nat->(Nat->Prop)->(Nat->Prop)->World->Prop) (X:(Nat->Prop)->(Nat->Prop)->World->Prop),(∀i,Stable (J i))->Stable X ->
   (∀i,i<N-> ∀(O K:Nat->Prop) (w1:World) (vs:List Value),J i O K w1->(∀b,O b->K b)->(∀b,K b->b<w1.heap.size)->vs.length=(A i).length->(∀(j:Nat) v x,vs[j]?=some v->(A i)[j]?=some x->Rep K w1 v x) ->
    YieldAt P l vs w1 fun t w2=>Good w2∧w1.heap.size≤w2.heap.size∧(∀b,K b->w2.heap[b]?=w1.heap[b]?)∧(t=true->J (i+1) O K w2)∧(t=false->X O K w2)) ->
   ∀(a:Act) (w:World),It n (J 0) ⟨argsF 0 (AV.val (.func (.yield l) #[] #[])::caps),[]⟩ a w->c.wp P (fun e a' w'=>(e= .normal∨e= .ret)∧ ∃s',It n (J N) s' a' w'∨It n X s' a' w') a w):IterP P f caps A N:=by
 intro l w S cv J X hgood hS hcl hcv hJ hX hy h0
 refine callsIn_wide.1 (callsIn_of_wp_marks (F:=Fence.wide) (n:=0) hf hb trivial ?_)
 have hargs:∀(j:Nat) v x,(Value.func (.yield l) #[] #[]::cv)[j]?=some v->(AV.val (.func (.yield l) #[] #[])::caps)[j]?=some x->Rep S w v x:=by
  intro j v x hv hx
  cases j with
  | zero=>simp at hv hx;subst hv;subst hx;exact .val _
  | succ j=>exact hcv j v x (by simpa using hv) (by simpa using hx)
 let Z:Zone:=⟨fun b=>S b∨w.heap.size≤b,fun _=>False,fun _=>none,[]⟩
 have hS0:SimO Z w n [] ⟨argsF 0 (AV.val (.func (.yield l) #[] #[])::caps),[]⟩ {tmps:=(Value.func (.yield l) #[] #[]::cv).toArray++Array.replicate (fn.ntmps-(Value.func (.yield l) #[] #[]::cv).toArray.size) undef,defers:=[]} w (fun _=>none):=by
  refine ⟨by simp;omega,rfl,⟨rfl,rfl,rfl,Nat.le_refl _,fun _ _ _=>rfl,hgood,fun _ _ h=>h⟩,fun i av hi=>?_,fun id r hr=>(by cases hr),fun _ _=>rfl,fun _ _ _ h=>(by cases h),fun _ _ h=>(by cases h),fun _ _ h=>(by cases h),fun b hb=>Or.inr (hb.elim id fun h=>h.elim)⟩
  obtain ⟨k,rfl,hk⟩:=look_argsF _ 0 i av hi
  generalize hvs:(Value.func (.yield l) #[] #[]::cv)=vs at *
  have hlv:vs.length=caps.length+1:=by rw [←hvs];simp [hcl]
  have hkl:k<vs.length:=by have:=(List.getElem?_eq_some_iff.1 hk).1;simp at this;omega
  have hv:vs[k]?=some vs[k]:=List.getElem?_eq_getElem hkl
  have e:(vs.toArray++Array.replicate (fn.ntmps-vs.toArray.size) undef).getD (0+k) undef=vs[k]:=by
   rw [Nat.zero_add,Array.getD_eq_getD_getElem?,Array.getElem?_append_left (by simpa using hkl)]
   simp [hkl]
  simp only [e]
  exact .rep ((hargs k vs[k] av hv hk).mono fun b hb=>⟨⟨hS b hb,by simp,fun _ h=>(by cases h),Or.inl hb⟩,rfl⟩)
 have hit:It n (J 0) ⟨argsF 0 (AV.val (.func (.yield l) #[] #[])::caps),[]⟩ {tmps:=(Value.func (.yield l) #[] #[]::cv).toArray++Array.replicate (fn.ntmps-(Value.func (.yield l) #[] #[]::cv).toArray.size) undef,defers:=[]} w :=
  ⟨w,Z,fun _=>none,[],hS0,rfl,List.nodup_nil,fun _ h=>(by cases h),hJ 0 _ _ _ _ _ _ h0 ⟨rfl,rfl,rfl,Nat.le_refl _,fun _ _ _=>rfl⟩ (fun b hb=>hb.elim (fun ⟨_,h⟩=>(by cases h)) fun h=>(by cases h)) fun b ⟨hb,hlt⟩=>hb.elim (fun hb=>hb) fun h=>(by cases h)⟩
 refine wpIn_wide.2 (wp_mono (h l J X hJ hX hy _ w hit) fun e a' w' ⟨he,s',hor⟩=>?_)
 have fin:∀(J':(Nat->Prop)->(Nat->Prop)->World->Prop),Stable J'->(∀O K w'',J' O K w''-> ∃O K,J N O K w''∨X O K w'')->It n J' s' a' w'->LeavesInM Fence.wide 0 P fn a'.tmps (fun e w'=>∃v O K,e= .returned v∧(J N O K w'∨X O K w')) a'.defers .returning w':=by
  intro J' hJ' hto ⟨wb,Z1,φ,ms,k1,k2,k3,k4,k5⟩
  have hds:a'.defers=ms.map mark:=by rw [k1.dfr,k2]
  rw [hds]
  refine leaves_marks ms w' k3 (fun r hr=>(k4 r hr).2.1) (fun w'' h1 h2 h3 h4 h5=>?_)
  obtain ⟨O,K,hor⟩:=hto _ _ _ (hJ' (fun b=>InR φ b∨b∈ms) _ w' (fun b=>InR φ b∨b∈ms) (fun b=>(Z1.S b∨b∈ms)∧b<w'.heap.size) w'' k5 ⟨h1,h2,h3,by omega,fun b hb hn=>h5 b fun hm=>hn (.inr hm)⟩ (fun b hb=>.inl hb) fun b hb=>.inl hb)
  exact ⟨.tuple #[],by simp [results,hres],.tuple #[],O,K,rfl,hor⟩
 have fin2:LeavesInM Fence.wide 0 P fn a'.tmps (fun e w'=>∃v O K,e= .returned v∧(J N O K w'∨X O K w')) a'.defers .returning w':=by
  rcases hor with hor|hor
  ·exact fin _ (hJ N) (fun O K w'' h=>⟨O,K,.inl h⟩) hor
  ·exact fin _ hX (fun O K w'' h=>⟨O,K,.inr h⟩) hor
 rcases he with rfl|rfl<;>exact fin2
theorem Weaks.cnil {s:AS} (id j new e:Nat) {r:Row} (hr:look s.H id=some r) (hp:r.pure=false) (hj:r.cells[j]?=some .nil) (hn:look s.H new=none):Weaks s ⟨s.F,(new,⟨e,true,false,[]⟩)::(id,⟨r.e,false,r.full,r.cells.set j (.ref new)⟩)::drop_ s.H id⟩:=by
 intro S0 w0 n a w ⟨φ,hs⟩
 have hne:id≠new:=fun h=>by rw [h,hn] at hr;cases hr
 have hφ:φ new=none:=hs.only new hn
 have hlk:∀i,look ((new,(⟨e,true,false,[]⟩:Row))::(id,(⟨r.e,false,r.full,r.cells.set j (.ref new)⟩:Row))::drop_ s.H id) i=if new=i then some ⟨e,true,false,[]⟩ else if id=i then some ⟨r.e,false,r.full,r.cells.set j (.ref new)⟩ else look s.H i:=by
  intro i
  rw [look_cons,look_cons,look_drop]
  by_cases e1:new=i<;>by_cases e2:id=i<;>simp [e1,e2]
 have hI:∀i x,infoOf s.H φ i=some x->infoOf ((new,(⟨e,true,false,[]⟩:Row))::(id,(⟨r.e,false,r.full,r.cells.set j (.ref new)⟩:Row))::drop_ s.H id) φ i=some x:=by
  intro i x hx
  unfold infoOf at hx ⊢
  rw [hlk]
  by_cases e1:new=i
  ·subst e1;rw [hn] at hx;cases hx
  ·rw [if_neg e1]
   by_cases e2:id=i
   ·subst e2;rw [if_pos rfl];rw [hr] at hx;simpa using hx
   ·rw [if_neg e2];exact hx
 have hnew:infoOf ((new,(⟨e,true,false,[]⟩:Row))::(id,(⟨r.e,false,r.full,r.cells.set j (.ref new)⟩:Row))::drop_ s.H id) φ new=some (e,0,none):=by
  unfold infoOf;rw [hlk,if_pos rfl,hφ];rfl
 have mono:∀v x,Den (infoOf s.H φ) (Free S0 w φ []) w v x->Den (infoOf ((new,(⟨e,true,false,[]⟩:Row))::(id,(⟨r.e,false,r.full,r.cells.set j (.ref new)⟩:Row))::drop_ s.H id) φ) (Free S0 w φ []) w v x:=fun v x h=>h.mono hI (fun b hb=>⟨hb,rfl⟩) (fun _ _ _ _ _=>rfl)
 refine ⟨φ,hs.tsz,hs.dfr,hs.bel,fun i av hi=>mono _ _ (hs.slots i av hi),fun i q hq=>?_,fun i hi=>?_,hs.inj,hs.rng,hs.apart,hs.new⟩
 ·simp only [hlk] at hq
  by_cases e1:new=i
  ·subst e1
   rw [if_pos rfl] at hq;injection hq with hq;subst hq
   unfold RowDen;rw [hφ]
  ·rw [if_neg e1] at hq
   by_cases e2:id=i
   ·subst e2
    rw [if_pos rfl] at hq;injection hq with hq;subst hq
    have hrow:=hs.rows id r hr
    unfold RowDen at hrow ⊢
    cases hg:φ id with
    | none=>rw [hg] at hrow;simp only at hrow;rw [hrow] at hj;cases hj
    | some g =>
     rw [hg] at hrow
     obtain ⟨cur,te,fr,u1,u2,u3,u4,u5⟩:=hrow
     refine ⟨cur,te,fr,u1,u2,by simpa using u3,fun h=>by simpa using u4 h,fun k u x hu hx=>?_⟩
     unfold CellDen
     simp only at hx ⊢
     rw [List.getElem?_set] at hx
     by_cases hk:j=k
     ·subst hk
      have hlt:j<r.cells.length:=(List.getElem?_eq_some_iff.1 hj).1
      simp [hlt] at hx
      subst hx
      have:=u5 j u .nil hu hj
      unfold CellDen at this
      rw [hp] at this
      rw [den_nil this]
      exact .refnil new e hnew
     ·rw [if_neg hk] at hx
      have:=u5 k u x hu hx
      unfold CellDen at this
      rw [hp] at this
      exact mono u x this
   ·rw [if_neg e2] at hq
    have hrow:=hs.rows i q hq
    unfold RowDen at hrow ⊢
    cases hg:φ i with
    | none=>rw [hg] at hrow;exact hrow
    | some g =>
     rw [hg] at hrow
     obtain ⟨cur,te,fr,u1,u2,u3,u4,u5⟩:=hrow
     refine ⟨cur,te,fr,u1,u2,u3,u4,fun k u x hu hx=>?_⟩
     have:=u5 k u x hu hx
     unfold CellDen at this ⊢
     cases hpq:q.pure with
     | true=>rw [hpq] at this;exact this
     | false=>rw [hpq] at this;exact mono u x this
 ·simp only [hlk] at hi
  by_cases e1:new=i
  ·rw [if_pos e1] at hi;cases hi
  ·rw [if_neg e1] at hi
   by_cases e2:id=i
   ·rw [if_pos e2] at hi;cases hi
   ·rw [if_neg e2] at hi;exact hs.only i hi
theorem closed_nil:ClosedH []:=fun id r h=>by cases h
theorem closed_cons {id:Nat} {r:Row} {H:List (Nat×Row)} (h1:∀x∈r.cells,closed0 x=true) (h2:ClosedH H):ClosedH ((id,r)::H):=by
 intro i q hq j x hx
 rw [look_cons] at hq
 by_cases e:id=i
 ·rw [if_pos e] at hq;injection hq with hq;subst hq;exact h1 x (List.mem_of_getElem? hx)
 ·rw [if_neg e] at hq;exact h2 i q hq j x hx
theorem closed_of {l:List AV} (h:l.all closed0=true):∀x∈l,closed0 x=true:=fun x hx=>List.all_eq_true.1 h x hx
theorem closed_words (l:List UInt64):∀x∈wordsA l,closed0 x=true:=by
 intro x hx;simp only [wordsA,List.mem_map] at hx;obtain ⟨c,_,rfl⟩:=hx;rfl
def isRange:Code->Bool
 | .rangeFunc _ _ _ _=>true
 | _=>false
def rgG:Code->Operand
 | .rangeFunc g _ _ _=>g
 | _=>.tmp 0
def rgP:Code->Array Tmp
 | .rangeFunc _ ps _ _=>ps
 | _=> #[]
def rgX:Code->Code
 | .rangeFunc _ _ x _=>x
 | c=>c
def rgB:Code->Code
 | .rangeFunc _ _ _ b=>b
 | c=>c
theorem AWP.rangeO {P:Program} {n:Nat} {c:Code} {Q:Exit->AS->Prop} {s:AS} (hc:isRange c=true) {f:Nat} {caps:List AV} (A:Nat->List AV) (N:Nat) (hit:IterP P f caps A N) (hE:isEnter P f=true) (hcx:calmC (rgX c)=true) (hcb:calmC (rgB c)=true)
  (ρ :List (Nat×Nat)) (hρ :pinsOK ρ =true) (xs:List AV) (F:List (Nat×AV)) (I:List Value->Nat->List (Nat×Row)) (sN:AS)
  (hw:∀Z w0 a w φ,SimO Z w0 n [] (pinS ρ s) a w φ-> ∃ φ2 vs,vs.length=xs.length∧SimO Z w0 n [] ⟨F,I vs 0⟩ a w φ2∧ ∀p∈vs.zip xs,Rep (Free Z w φ2 []) w p.1 p.2) (hg:∀vs,vs.length=xs.length->opd ⟨F,I vs 0⟩ (rgG c)= .clo f caps) (hps:∀i,(rgP c).toList.length=(A i).length) (hpn:((rgP c).toList.all fun p=>Nat.blt p n)=true)
  (hI:∀vs i,vs.length=xs.length->i≤N->ClosedH (I vs i)∧okFB (I vs i) F=true) (hround:∀vs i,vs.length=xs.length->i<N->AWP P n (rgX c) (Then (AWP P n (rgB c) (RQ (vs.zip xs) Q ρ F (I vs (i+1)))) (fun _ _=>False)) (putP (rgP c).toList (A i) ⟨F,I vs i⟩)) (hcl:∀vs,vs.length=xs.length->Clos (vs.zip xs) ⟨F,I vs N⟩ sN) (hend:Q .normal (unpinS ρ sN)):AWP P n c Q s:=by
 cases c with
 | rangeFunc g ps x b=>exact AWP.range rfl A N hit hE hcx hcb ρ hρ xs F I sN hw hg hps hpn hI hround hcl hend
 | _=>cases hc
section
variable {Z:Zone} {w0 w:World} {n:Nat} {s:AS} {a:Act} {φ:Nat->Option Nat}
theorem SimO.congr {O:List Nat} {F:List (Nat×AV)} {H H':List (Nat×Row)} (h:SimO Z w0 n O ⟨F,H⟩ a w φ) (e:∀i,look H' i=look H i):SimO Z w0 n O ⟨F,H'⟩ a w φ:=by
 have hI:infoOf H' φ=infoOf H φ:=by funext i;unfold infoOf;rw [e]
 refine ⟨h.tsz,h.dfr,h.bel,fun i av hi=>?_,fun i q hq=>?_,fun i hi=>?_,h.inj,h.rng,h.apart,h.new⟩
 ·simp only [hI];exact h.slots i av hi
 ·simp only [hI];exact h.rows i q (by rw [←e];exact hq)
 ·exact h.only i (by rw [←e];exact hi)
theorem SimO.recell (h:SimO Z w0 n [] s a w φ) (id j:Nat) {r:Row} {y:AV} (hr:look s.H id=some r) (hp:r.pure=false)
  (hy:∀g cur te fr u x,φ id=some g->w.heap[g]?=some (.cells cur te fr)->cur[j]?=some u->r.cells[j]?=some x->Den (infoOf s.H φ) (Free Z w φ []) w u x->Den (infoOf s.H φ) (Free Z w φ []) w u y):SimO Z w0 n [] ⟨s.F,(id,⟨r.e,false,r.full,r.cells.set j y⟩)::drop_ s.H id⟩ a w φ:=by
 have hlk:∀i,look ((id,(⟨r.e,false,r.full,r.cells.set j y⟩:Row))::drop_ s.H id) i=if id=i then some ⟨r.e,false,r.full,r.cells.set j y⟩ else look s.H i:=by
  intro i
  rw [look_cons,look_drop]
  by_cases e:id=i<;>simp [e]
 have hI:infoOf ((id,(⟨r.e,false,r.full,r.cells.set j y⟩:Row))::drop_ s.H id) φ=infoOf s.H φ:=by
  funext i
  unfold infoOf
  rw [hlk]
  by_cases e:id=i
  ·subst e;rw [if_pos rfl,hr];simp
  ·rw [if_neg e]
 refine ⟨h.tsz,h.dfr,h.bel,fun i av hi=>?_,fun i q hq=>?_,fun i hi=>?_,h.inj,h.rng,h.apart,h.new⟩
 ·simp only [hI];exact h.slots i av hi
 ·simp only [hI]
  simp only [hlk] at hq
  by_cases e:id=i
  ·subst e
   rw [if_pos rfl] at hq;injection hq with hq;subst hq
   have hrow:=h.rows id _ hr
   unfold RowDen at hrow ⊢
   cases hφ:φ id with
   | none=>rw [hφ] at hrow;simp only at hrow ⊢;rw [hrow];rfl
   | some g =>
    rw [hφ] at hrow
    obtain ⟨cur,te,fr,hg,hf,hl,hfu,hc⟩:=hrow
    refine ⟨cur,te,fr,hg,hf,by simpa using hl,fun h=>by simpa using hfu h,fun k u x hu hx=>?_⟩
    unfold CellDen
    simp only at hx ⊢
    rw [List.getElem?_set] at hx
    by_cases hk:j=k
    ·subst hk
     rw [if_pos rfl] at hx
     split at hx
     ·rename_i hlt
      injection hx with hx;subst hx
      have hx0:r.cells[j]?=some r.cells[j]:=List.getElem?_eq_getElem hlt
      have:=hc j u _ hu hx0
      unfold CellDen at this;rw [hp] at this
      exact hy g cur te fr u _ hφ hg hu hx0 this
     ·cases hx
    ·rw [if_neg hk] at hx
     have:=hc k u x hu hx
     unfold CellDen at this;rw [hp] at this
     exact this
  ·rw [if_neg e] at hq;exact h.rows i q hq
 ·simp only [hlk] at hi
  by_cases e:id=i
  ·rw [if_pos e] at hi;cases hi
  ·rw [if_neg e] at hi;exact h.only i hi
theorem SimO.open_ (h:SimO Z w0 n [] s a w φ) (id j:Nat) {r:Row} {x:AV} (hr:look s.H id=some r) (hp:r.pure=false) (hj:r.cells[j]?=some x) (hx:plain0 x=true):∃v,SimO Z w0 n [] ⟨s.F,(id,⟨r.e,false,r.full,r.cells.set j (.val v)⟩)::drop_ s.H id⟩ a w φ∧Rep (Free Z w φ []) w v x:=by
 have hrow:=h.rows id _ hr
 unfold RowDen at hrow
 cases hφ:φ id with
 | none=>rw [hφ] at hrow;simp only at hrow;rw [hrow] at hj;cases hj
 | some g =>
  rw [hφ] at hrow
  obtain ⟨cur,te,fr,hg,hf,hl,hfu,hc⟩:=hrow
  have hlt:j<cur.size:=by have:=(List.getElem?_eq_some_iff.1 hj).1;omega
  have hu:cur[j]?=some cur[j]:=Array.getElem?_eq_getElem hlt
  have hd:=hc j _ _ hu hj
  unfold CellDen at hd;rw [hp] at hd
  refine ⟨cur[j],h.recell id j hr hp fun g' cur' te' fr' u x' h1 h2 h3 h4 h5=>?_,(plain0_rep hd hx).1⟩
  rw [hφ] at h1;injection h1 with h1;subst h1
  rw [hg] at h2;injection h2 with h2;injection h2 with h2;subst h2
  rw [hu] at h3;injection h3 with h3;subst h3
  exact .rep (.val _)
theorem SimO.close_ (h:SimO Z w0 n [] s a w φ) (id j:Nat) {r:Row} {x:AV} {v:Value} (hr:look s.H id=some r) (hp:r.pure=false) (hj:r.cells[j]?=some (.val v)) (hx:Rep (Free Z w φ []) w v x):SimO Z w0 n [] ⟨s.F,(id,⟨r.e,false,r.full,r.cells.set j x⟩)::drop_ s.H id⟩ a w φ:=by
 refine h.recell id j hr hp fun g cur te fr u x' _ _ _ h4 h5=>?_
 rw [hj] at h4;injection h4 with h4;subst h4
 rw [den_val h5]
 exact .rep hx
end
theorem AWP.eqS {P:Program} {n:Nat} {c:Code} {Q:Exit->AS->Prop} {s:AS} (s':AS) (h:s=s') (h2:AWP P n c Q s'):AWP P n c Q s:=h ▸ h2
end Go.Proofs.YtjgbhhnghedgdaaGreatDoor
