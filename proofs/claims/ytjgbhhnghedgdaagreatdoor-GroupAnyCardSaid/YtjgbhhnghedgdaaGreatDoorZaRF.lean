import Derived.Test.YtjgbhhnghedgdaaGreatDoorZaRI
import Derived.RangeFuncRecord
import Derived.OrdersIn
import Derived.TacticsIn
set_option linter.all false
namespace Go.Proofs.YtjgbhhnghedgdaaGreatDoor
open Go.RowKit
abbrev Wd (ro:Option Nat):Fence:={Fence.wide with round:=ro}
def kb (o:Oper):Bool:=match o.op with| .defer _=>false|_=>true
def kU:Code->Bool
 | .skip=>true
 | .region _ ops _=>ops.toList.all kb
 | .seq x y=>kU x && kU y
 | .cond _ x y=>kU x && kU y
 | .block _ c=>kU c
 | .loop c=>kU c
 | .exit _=>true
 | .ret=>true
 | _=>false
section
variable {P:Program} {Q:Exit->Act->World->Prop} {ro:Option Nat} {n:Nat}
theorem Ci {o:Oper} (h:kb o=true) (c):o.op≠ .defer c:=by
 intro e;unfold kb at h;rw [e] at h;cases h
theorem ub {o:Oper} {a:Act} {w:World} {K:Act->World->Prop} (ho:kb o=true) (hQ:¬LetsOut Q) (h:o.wp P a w K Q):o.wpIn (Wd ro) n P a w K Q:=by
 refine ⟨fun _ _=>trivial,?_⟩
 rw [Oper.semAt_eq _ _ _ (Ci ho)]
 unfold Oper.wp at h
 generalize (execOp a.eval o).run P w=r at *
 cases r with
 | ok x w' =>
  cases x with
  | enter f args=>exact ⟨fun h=>by simp [Fence.wide] at h,(callsIn_wide (n:=n-1)).2 h⟩
  | row row args =>
   refine ⟨fun h=>by simp [Fence.wide] at h,fun c cs _=>?_⟩
   obtain ⟨v,fp,h1,h2⟩:=h c cs
   exact ⟨v,fp,h1,stepsIn_wide.2 h2⟩
  | round=>exact h.elim
  | _=>exact h
 | halt x w'=>cases x<;>exact h
theorem list_round {ops:Array Oper} (hQ:¬LetsOut Q):∀(m:List Oper),m.all kb=true-> ∀(a:Act) (w:World),wpList P ops Q m a w->wpListIn (Wd ro) n P ops Q m a w
 | [],_,a,w,h=>h
 | o::m,hm,a,w,h=>by
  rw [List.all_cons,Bool.and_eq_true] at hm
  unfold wpList at h
  unfold wpListIn
  split at h
  ·rename_i hw
   rw [if_pos hw]
   rcases h with h|⟨-,h⟩
   ·have:=ub (ro:=ro) (n:=n) hm.1 hQ h
    refine ⟨this.1,?_⟩
    have h2:=this.2
    generalize (o.semAt (Wd ro).round a.eval).run P w=r at *
    cases r with
    | ok x w'=>cases x with
     | value v=>exact list_round hQ m hm.2 _ _ h2
     | skip=>exact list_round hQ m hm.2 _ _ h2
     | defer d=>exact list_round hQ m hm.2 _ _ h2
     | enter f args=>exact ⟨h2.1,(callsIn_wide (n:=n-1)).2 (Calls.mono ((callsIn_wide (n:=n-1)).1 h2.2) fun e fp he=>by cases e<;>first|exact list_round hQ m hm.2 _ _ he|exact he)⟩
     | row row args=>exact ⟨h2.1,RowsIn.mono h2.2 fun v fp he=>list_round hQ m hm.2 _ _ he⟩
     | round l' f tmps x b=>exact ⟨h2.1,RoundIn.mono h2.2 fun e fp he=>by cases e<;>first|exact list_round hQ m hm.2 _ _ he|exact he⟩
     | _=>exact h2
    | halt x w'=>cases x<;>exact h2
   ·exact absurd h hQ
  ·rename_i hw
   rw [if_neg hw]
   exact ⟨fun _ _=>trivial,list_round hQ m hm.2 _ _ h⟩
theorem zk {o:Oper} {a:Act} {w:World} {K K':Act->World->Prop} (hK:∀a w,K a w->K' a w) (h:o.wpIn (Wd ro) n P a w K Q):o.wpIn (Wd ro) n P a w K' Q:=by
 refine ⟨h.1,?_⟩
 have h2:=h.2
 generalize (o.semAt (Wd ro).round a.eval).run P w=r at *
 cases r with
 | ok x w'=>cases x with
  | value v=>exact hK _ _ h2
  | skip=>exact hK _ _ h2
  | defer d=>exact hK _ _ h2
  | enter f args=>exact ⟨h2.1,(callsIn_wide (n:=n-1)).2 (Calls.mono ((callsIn_wide (n:=n-1)).1 h2.2) fun e fp he=>by cases e<;>first|exact hK _ _ he|exact he)⟩
  | row row args=>exact ⟨h2.1,RowsIn.mono h2.2 fun v fp he=>hK _ _ he⟩
  | round l' f tmps x b=>exact ⟨h2.1,RoundIn.mono h2.2 fun e fp he=>by cases e<;>first|exact hK _ _ he|exact he⟩
  | _=>exact h2
 | halt x w'=>cases x<;>exact h2
theorem ov {md:Region.Mode} {ops:Array Oper} (hc:ops.toList.all kb=true) (hQ:¬LetsOut Q):∀(fuel:Nat) (listed:Array Bool) (a:Act) (w:World),wpAny P md ops Q fuel listed a w->wpAnyIn (Wd ro) n P md ops Q fuel listed a w
 | 0,_,_,_,h=>h
 | fuel+1,listed,a,w,h=>⟨h.1,fun i hi=>by
   have h':=h.2 i hi
   unfold wpOp at h'
   unfold wpOpIn
   split
   ·rename_i ho;simp only [ho] at h';exact ov hc hQ fuel _ _ _ h'
   ·rename_i o ho
    simp only [ho] at h'
    have gf:kb o=true:=List.all_eq_true.1 hc o (by
     have:=Array.mem_of_getElem? ho;simpa using this)
    split
    ·rename_i hw
     rw [if_pos hw] at h'
     rcases h' with h'|⟨-,h'⟩
     ·exact zk (ov hc hQ fuel _) (ub gf hQ h')
     ·exact absurd h' hQ
    ·rename_i hw
     rw [if_neg hw] at h'
     exact ⟨fun _ _=>trivial,ov hc hQ fuel _ _ _ h'⟩⟩
theorem Fx {F:Fence} {c:Code} {a:Act} {w:World} (J:Nat->Act->World->Prop) (k0:Nat) (h0:J k0 a w)
  (round:∀k a w,J k a w->c.wpIn F n P (Exit.then (fun a' w'=>∃k',k'<k∧J k' a' w') Q) a w):(Code.loop c).wpIn F n P Q a w:=by
 have Ir:∀a w,∃m,(∃k,J k a w)->J m a w∧ ∀k,J k a w->m≤k:=by
  intro a w
  by_cases h:∃k,J k a w
  ·obtain ⟨k,hk⟩:=h
   induction k using Nat.strongRecOn with
   | _ k ih =>
    by_cases hs:∃j,j<k∧J j a w
    ·obtain ⟨j,hj,hJ⟩:=hs;exact ih j hj hJ
    ·exact ⟨k,fun _=>⟨hk,fun j hJ=>Classical.byContradiction fun dh=>hs ⟨j,ah,hJ⟩⟩⟩
  ·exact ⟨0,fun h'=>absurd h' h⟩
 let μ :Act->World->Nat:=fun a w=>Classical.choose (Ir a w)
 have Tf :∀a w (h:∃k,J k a w),J (μ a w) a w∧ ∀k,J k a w-> μ a w≤k:=fun a w h=>Classical.choose_spec (Ir a w) h
 refine wpIn_loop (fun a w=>∃k,J k a w) μ ⟨k0,h0⟩ fun a w h=>?_
 refine wpIn_mono (round _ a w (Tf a w h).1) fun e a' w' hq=>?_
 cases e with
 | normal =>
  obtain ⟨k',hk,hJ⟩:=hq
  exact ⟨⟨k',hJ⟩,Nat.lt_of_le_of_lt ((Tf a' w' ⟨k',hJ⟩).2 k' hJ) hk⟩
 | _=>exact hq
theorem iv:∀(c:Code) (Q:Exit->Act->World->Prop) (a:Act) (w:World),kU c=true-> ¬LetsOut Q->BM P c Q a w->c.wpIn (Wd ro) n P Q a w
 | .skip,_,a,w,_,_,h=>wpIn_skip h
 | .region _ ops false,_,a,w,hc,hQ,h=>wpIn_region_list (list_round hQ _ hc _ _ h)
 | .region _ ops true,_,a,w,hc,hQ,h=>wpIn_region_any h.1 (ov hc hQ _ _ _ _ h.2)
 | .seq x y,Q,a,w,hc,hQ,h=>by
  simp only [kU,Bool.and_eq_true] at hc
  exact wpIn_seq (iv x _ a w hc.1 (by rintro ⟨a,w,h⟩;exact hQ ⟨a,w,h⟩) (ea x _ _ (lO (fun a w h=>iv y Q a w hc.2 hQ h) fun _ _ _ h=>h) a w h))
 | .cond c x y,Q,a,w,hc,hQ,⟨t,h1,h2,h3⟩=>by
  simp only [kU,Bool.and_eq_true] at hc
  exact wpIn_cond_split h1 (fun e=>iv x Q a w hc.1 hQ (h2 e)) (fun e=>iv y Q a w hc.2 hQ (h3 e))
 | .block id c,_,a,w,hc,hQ,h=>wpIn_block (iv c _ a w hc (by rintro ⟨a,w,h⟩;exact hQ ⟨a,w,h⟩) h)
 | .loop c,_,a,w,hc,hQ,⟨J,k0,h0,h⟩=>Fx J k0 h0 fun k a w hJ=>iv c _ a w hc (by rintro ⟨a,w,h⟩;exact hQ ⟨a,w,h⟩) (h k a w hJ)
 | .exit id,_,a,w,_,_,h=>wpIn_exit h
 | .ret,_,a,w,_,_,h=>wpIn_ret h
 | .rangeFunc ..,_,_,_,hc,_,_=>by cases hc
 | .scope _,_,_,_,hc,_,_=>by cases hc
 | .label _,_,_,_,hc,_,_=>by cases hc
 | .goto _,_,_,_,hc,_,_=>by cases hc
 | .refuse _,_,_,_,hc,_,_=>by cases hc
end
section
variable {S0:bm} {w0 w:World} {n:Nat} {s:AS} {a:Act} {φ:Nat->Option Nat}
def z_ (x y:Nat) (φ:Nat->Option Nat):Nat->Option Nat:=fun i=>if i=y then φ x else if i=x then none else φ i
theorem aL.D_ (h:aL S0 w0 n [] s a w φ) (x y:Nat) (Ph:y<1000000000000∨ ∀g,φ x=some g->S0.fix y=some g) (cV:x≠y) (hy:look s.H y=none):aL S0 w0 n [] (rename x y s) a w (z_ x y φ):=by
 let cB:Nat->Option Nat:=fun i=>if i=y then φ x else if i=x then none else φ i
 show aL S0 w0 n [] (rename x y s) a w cB
 have Ro:φ y=none:=h.only y hy
 have mD:∀i g,cB i=some g-> ∃j,φ j=some g∧(i=y->j=x)∧(i≠y->j=i):=by
  intro i g hi
  by_cases e:i=y
  ·have:φ x=some g:=by simpa [cB,e] using hi
   exact ⟨x,this,fun _=>rfl,fun h=>absurd e h⟩
  ·by_cases e2:i=x
   ·simp [cB,e2,cV] at hi
   ·have:φ i=some g:=by simpa [cB,e,e2] using hi
    exact ⟨i,this,fun h=>absurd h e,fun _=>rfl⟩
 have IE:∀b,aN S0 w φ [] b->aN S0 w cB [] b:=by
  intro b ⟨h1,h2,h3,h4⟩
  refine ⟨h1,h2,fun i hi=>?_,h4⟩
  obtain ⟨j,hj,-⟩:=mD i b hi
  exact h3 j hj
 have jY:∀i,look (rename x y s).H i=(if i=y then look s.H x else if i=x then none else look s.H i).map (eS x y):=by
  intro i
  unfold rename
  rw [cy,ny x y _ hy]
 have hI:∀i z,az s.H φ i=some z->az (rename x y s).H cB (if i=x then y else i)=some z:=by
  intro i z hi
  obtain ⟨e,m,b⟩:=z
  obtain ⟨r,hl,h1,h2,h3⟩:=aQ hi
  by_cases e1:i=x
  ·subst e1
   rw [if_pos rfl,br (r:=eS i y r) (by rw [jY,if_pos rfl,hl];rfl),(cH i y r).1,(cH i y r).2.1,h1,h2]
   simp [cB,h3]
  ·have e2:i≠y:=fun e=>by subst e;rw [hy] at hl;cases hl
   rw [if_neg e1,br (r:=eS x y r) (by rw [jY,if_neg e2,if_neg e1,hl];rfl),(cH x y r).1,(cH x y r).2.1,h1,h2]
   simp [cB,e1,e2,h3]
 have sK:∀b,aN S0 w φ [] b->aN S0 w cB [] b∧w.heap[b]?=w.heap[b]?:=fun b h=>⟨IE b h,rfl⟩
 have ok:jU (az s.H φ) (az (rename x y s).H cB) (aN S0 w φ []) (aN S0 w cB []) w (kD x y):=by
  refine ⟨fun v av hv h1 h2=>?_,fun _=>rfl,fun _=>rfl⟩
  have pick:∀i z,az s.H φ i=some z->(Nat.beq i x=true∧az (rename x y s).H cB y=some z)∨(Nat.beq i x=false∧az (rename x y s).H cB i=some z):=by
   intro i z hi
   have:=hI i z hi
   rcases bJ i x with ⟨hb,e⟩|⟨hb,e⟩
   ·rw [if_pos e] at this;exact .inl ⟨hb,this⟩
   ·rw [if_neg e] at this;exact .inr ⟨hb,this⟩
  cases hv with
  | rep h=>cases h with
   | val v=>exact .rep (.val v)
   | nil=>exact .rep .nil
   | agg vs cs _ _=>exact absurd rfl (h1 cs)
   | bq vs cs _ _=>exact absurd rfl (h2 cs)
   | arr vs cs hl h=>exact .rep ((cz.arr vs cs hl h).mono sK)
   | sl A n c e us row hl hn hc hm ha h=>exact .rep ((cz.sl A n c e us row hl hn hc hm ha h).mono sK)
   | pg A n e us row hl hn hm ha h=>exact .rep ((cz.pg A n e us row hl hn hm ha h).mono sK)
   | ptr ad us row off hl hs ha h=>exact .rep ((cz.ptr ad us row off hl hs ha h).mono sK)
   | lI f vs cs hl h=>exact .rep ((cz.lI f vs cs hl h).mono sK)
  | agg vs cs _ _=>exact absurd rfl (h1 cs)
  | bq vs cs _ _=>exact absurd rfl (h2 cs)
  | ref i e m g l c hi hm hc hx hs=>rcases pick i _ hi with ⟨hb,jj⟩|⟨hb,jj⟩<;>simp only [kD,hb]<;>exact .ref _ e m g l c jj hm hc hx hs
  | cD i e hi=>rcases pick i _ hi with ⟨hb,jj⟩|⟨hb,jj⟩<;>simp only [kD,hb]<;>exact .cD _ e jj
  | pre i k e m g l c hi hn hm hc hx hs=>rcases pick i _ hi with ⟨hb,jj⟩|⟨hb,jj⟩<;>simp only [kD,hb]<;>exact .pre _ k e m g l c jj hn hm hc hx hs
  | dC i e hi=>rcases pick i _ hi with ⟨hb,jj⟩|⟨hb,jj⟩<;>simp only [kD,hb]<;>exact .dC _ e jj
  | js i off k e m l c g A hi hn hm hc hx ha=>rcases pick i _ hi with ⟨hb,jj⟩|⟨hb,jj⟩<;>simp only [kD,hb]<;>exact .js _ off k e m l c g A jj hn hm hc hx ha
  | addr i off e m g hi=>rcases pick i _ hi with ⟨hb,jj⟩|⟨hb,jj⟩<;>simp only [kD,hb]<;>exact .addr _ off e m g jj
  | dead v=>exact .dead _
 have Cf:∀z:AV,(∀cs,z≠ .agg cs)->Fi x y z=kD x y z:=by
  intro z hz
  cases z with
  | agg cs=>exact absurd rfl (hz cs)
  | _=>rfl
 have Ce:∀z:AV,(∀cs,z≠ .bq cs)->MI x y z=Fi x y z:=by
  intro z hz
  cases z with
  | bq cs=>exact absurd rfl (hz cs)
  | _=>rfl
 refine ⟨h.jP,h.jS,h.cX,fun i av hi=>?_,fun i r hr=>?_,fun i hi=>?_,fun i j g hi hj=>?_,fun i g hi=>?_,fun i g hi=>by simp,h.new⟩
 ·unfold rename at hi
  rw [cy] at hi
  cases hl:look s.F i with
  | none=>rw [hl] at hi;cases hi
  | some z =>
   rw [hl] at hi;injection hi with hi;subst hi
   exact ok.two (h.cC i z hl) (fun _=>rfl) Cf (fun _=>rfl) Ce
 ·rw [jY] at hr
  have:∃j q,look s.H j=some q∧cB i=φ j∧r=eS x y q:=by
   by_cases e:i=y
   ·rw [if_pos e] at hr
    cases hl:look s.H x with
    | none=>rw [hl] at hr;cases hr
    | some q=>rw [hl] at hr;injection hr with hr;exact ⟨x,q,hl,by simp [cB,e],hr.symm⟩
   ·rw [if_neg e] at hr
    by_cases e2:i=x
    ·rw [if_pos e2] at hr;cases hr
    ·rw [if_neg e2] at hr
     cases hl:look s.H i with
     | none=>rw [hl] at hr;cases hr
     | some q=>rw [hl] at hr;injection hr with hr;exact ⟨i,q,hl,by simp [cB,e,e2],hr.symm⟩
  obtain ⟨j,q,hq,MU,rfl⟩:=this
  have aP:=h.rows j q hq
  rw [MU]
  unfold bN at aP ⊢
  cases hb:φ j with
  | none =>
   rw [hb] at aP
   have:=(cH x y q).2.1
   simp only at aP ⊢
   rw [aP] at this;exact List.length_eq_zero_iff.1 this
  | some g =>
   rw [hb] at aP
   obtain ⟨cur,te,fr,hg,hf,hlen,mS,hc⟩:=aP
   refine ⟨cur,te,fr,hg,hf,by rw [(cH x y q).2.1];exact hlen,by rw [(cH x y q).2.1,(cH x y q).2.2.2];exact mS,fun j u z hu hz=>?_⟩
   rw [(cH x y q).2.2.1]
   unfold bg
   cases hp:q.pure with
   | true =>
    have:eS x y q=q:=by unfold eS;rw [hp]
    rw [this] at hz
    have:=hc j u z hu hz
    unfold bg at this;rw [hp] at this
    exact this.mono sK
   | false =>
    have:(eS x y q).cells=q.cells.map (kD x y):=by unfold eS;rw [hp]
    rw [this,List.getElem?_map] at hz
    cases hj:q.cells[j]? with
    | none=>rw [hj] at hz;cases hz
    | some z' =>
     rw [hj] at hz;injection hz with hz;subst hz
     have:=hc j u z' hu hj
     unfold bg at this;rw [hp] at this
     exact ok.all this
 ·rw [jY] at hi
  by_cases e:i=y
  ·rw [if_pos e] at hi
   cases hl:look s.H x with
   | none=>simp [cB,e,h.only x hl]
   | some q=>rw [hl] at hi;cases hi
  ·rw [if_neg e] at hi
   by_cases e2:i=x
   ·simp [cB,e2,cV]
   ·rw [if_neg e2] at hi
    cases hl:look s.H i with
    | none=>simp [cB,e,e2,h.only i hl]
    | some q=>rw [hl] at hi;cases hi
 ·obtain ⟨i',h1,h2,h3⟩:=mD i g hi
  obtain ⟨j',h4,h5,h6⟩:=mD j g hj
  have e:=h.inj i' j' g h1 h4
  by_cases ei:i=y<;>by_cases ej:j=y
  ·rw [ei,ej]
  ·have:=h2 ei;have:=h6 ej
   have:j=x:=ah
   subst this
   simp [cB,cV] at hj
  ·have:=h3 ei;have:=h5 ej
   have:i=x:=ah
   subst this
   simp [cB,cV] at hi
  ·have:=h3 ei;have:=h6 ej;omega
 ·obtain ⟨j,h1,h2,h3⟩:=mD i g hi
  have:=h.cW j g h1
  refine ⟨⟨?_,this.1.2⟩,this.2⟩
  by_cases e:i=y
  ·have hj:=h2 e
   subst hj
   rw [e]
   exact Ph.imp (fun h=>h) fun h=>h g h1
  ·rw [←h3 e];exact this.1.1
end
section
variable {Z Z':bm} {w0 w w':World} {n:Nat} {O:List Nat} {s:AS} {a a':Act} {φ:Nat->Option Nat}
theorem aL.qQ (h:aL Z w0 n O s a w φ) (dw:w.heap.size≤w'.heap.size) (hb:∀b,Z.S b->b<w.heap.size->w'.heap[b]?=w.heap[b]?) (hS:∀b,Z.S b->b<w.heap.size->Z'.S b) (lY:∀b,(w'.heap.size≤b∨Z'.X b)->Z'.S b) (hX:∀id g,φ id=some g->Z'.X g)
  (K3:∀id g,φ id=some g->id<1000000000000∨Z'.fix id=some g) (ht:a'.tmps=a.tmps) (hd:a'.defers=Z'.si) (U0:Good w') (UZ:∀b,TB b-> ¬Z'.X b):aL Z' w' n O s a' w' φ:=by
 have hF:∀b,aN Z w φ O b->aN Z' w' φ O b∧w'.heap[b]?=w.heap[b]?:=fun b kL=>⟨⟨Nat.lt_of_lt_of_le kL.1 dw,kL.2.1,kL.2.2.1,hS b kL.2.2.2 kL.1⟩,hb b kL.2.2.2 kL.1⟩
 have cm:∀id g,φ id=some g->w'.heap[g]?=w.heap[g]?:=fun id g hg=>hb g (h.new g (h.cW id g hg).1.2) (h.cW id g hg).2
 have hL:∀id e m g,az s.H φ id=some (e,m,some g)->aV w' g=aV w g:=fun id e m g hi=>by
  obtain ⟨_,-,-,-,hg⟩:=aQ hi
  unfold aV;rw [cm id g hg]
 refine ⟨by rw [ht];exact h.jP,hd,⟨rfl,rfl,rfl,Nat.le_refl _,fun _ _ _=>rfl,U0,UZ⟩,fun i av hi=>?_,fun id r hr=>?_,h.only,h.inj,fun id g hg=>⟨⟨K3 id g hg,.inr (hX id g hg)⟩,Nat.lt_of_lt_of_le (h.cW id g hg).2 dw⟩,h.apart,lY⟩
 ·rw [ht];exact (h.cC i av hi).mono (fun _ _ h=>h) hF hL
 ·have aP:=h.rows id r hr
  unfold bN at aP ⊢
  cases hg:φ id with
  | none=>rw [hg] at aP;exact aP
  | some g =>
   rw [hg] at aP
   obtain ⟨cur,te,fr,u1,u2,u3,u4,u5⟩:=aP
   refine ⟨cur,te,fr,(cm id g hg).trans u1,u2,u3,u4,fun j u x hu hx=>?_⟩
   have:=u5 j u x hu hx
   unfold bg at this ⊢
   cases hp:r.pure with
   | true=>rw [hp] at this;exact this.mono hF
   | false=>rw [hp] at this;exact this.mono (fun _ _ h=>h) hF hL
end
def mJ:AV->Bool
 | .val _=>true
 | .nil=>true
 | .ref _=>true
 | .pre _ _=>true
 | .js _ _ _=>true
 | .addr _ _=>true
 | _=>false
def jC (H:List (Nat×Row)):Prop:=∀id r,look H id=some r-> ∀(j:Nat) x,r.cells[j]?=some x->mJ x=true
theorem Dp {I:Info} {S S':Nat->Prop} {w w':World} {v:Value} {x:AV} (h:Den I S w v x) (hc:mJ x=true) (hL:∀id e m g,I id=some (e,m,some g)->aV w' g=aV w g):Den I S' w' v x:=by
 cases h with
 | rep h=>cases h with
  | val v=>exact .rep (.val v)
  | nil=>exact .rep .nil
  | _=>cases hc
 | agg=>cases hc
 | bq=>cases hc
 | ref id e m g l c hi hm kY hx hs=>exact .ref id e m g l c hi hm kY hx ((hL _ _ _ _ hi).trans hs)
 | cD id e hi=>exact .cD id e hi
 | pre id n e m g l c hi hn hm kY hx hs=>exact .pre id n e m g l c hi hn hm kY hx ((hL _ _ _ _ hi).trans hs)
 | dC id e hi=>exact .dC id e hi
 | js id off n e m l c g A hi hn hm kY hx ha=>exact .js id off n e m l c g A hi hn hm kY hx ha
 | addr id off e m g hi=>exact .addr id off e m g hi
 | dead v=>exact .dead v
theorem B1 {S S':Nat->Prop} {w w':World} {v:Value} {x:AV} (h:cz S w v x) (hc:mJ x=true):cz S' w' v x:=by
 cases h with
 | val v=>exact .val v
 | nil=>exact .nil
 | _=>cases hc
def ow (P:Program) (l:Nat) (vs:List Value) (w:World) (T:Bool->World->Prop):Prop :=
 ∃fn tmps T5 bd,(Instr.yield l vs.toArray).run P w= .ok (.round l fn tmps T5 bd) w∧RoundIn Fence.wide 0 P l fn tmps T5 bd w fun e w'=>∃t,e= .returned (.bool t)∧T t w'
structure JO (O:Nat->Prop) (w w':World):Prop where
 os:w'.os=w.os
 tape:w'.tape=w.tape
 output:w'.output=w.output
 size:w.heap.size≤w'.heap.size
 block:∀b,b<w.heap.size-> ¬O b->w'.heap[b]?=w.heap[b]?
def jT (J:(Nat->Prop)->(Nat->Prop)->World->Prop):Prop :=
 ∀O K w O' K' w',J O K w->JO O w w'->(∀b,O' b->O b∨w.heap.size≤b)->(∀b,K' b->K b∨w.heap.size≤b)->J O' K' w'
def w7 (P:Program) (f:Nat) (lF:List AV) (A:Nat->List AV) (N:Nat):Prop :=
 ∀(l:Nat) (w:World) (S:Nat->Prop) (cv:List Value) (J:Nat->(Nat->Prop)->(Nat->Prop)->World->Prop) (X:(Nat->Prop)->(Nat->Prop)->World->Prop),
  Good w->(∀b,S b->b<w.heap.size)->cv.length=lF.length->(∀(j:Nat) v x,cv[j]?=some v->lF[j]?=some x->cz S w v x) ->
  (∀i,jT (J i))->jT X ->
  (∀i,i<N-> ∀(O K:Nat->Prop) (w1:World) (vs:List Value),J i O K w1->(∀b,O b->K b)->(∀b,K b->b<w1.heap.size)->vs.length=(A i).length->(∀(j:Nat) v x,vs[j]?=some v->(A i)[j]?=some x->cz K w1 v x) ->
   ow P l vs w1 fun t w2=>Good w2∧w1.heap.size≤w2.heap.size∧(∀b,K b->w2.heap[b]?=w1.heap[b]?)∧(t=true->J (i+1) O K w2)∧(t=false->X O K w2)) ->
  J 0 (fun _=>False) S w ->
  Calls P f (Value.func (.yield l) #[] #[]::cv).toArray w fun e w'=>∃v O K,e= .returned v∧(J N O K w'∨X O K w')
def Rg (H:List (Nat×Row)):AV->Bool
 | .val _=>true
 | .nil=>true
 | .arr _=>true
 | .sl _ _=>true
 | .ptr _ _=>true
 | .lI _ _=>true
 | .agg cs=>dY cs
 | .dead=>true
 | .addr id _=>(match Nat.ble 1000000000000 id,look H id with|true,some r=>(match r.cells with| []=>false|_::_=>true)|_,_=>false)
 | _=>false
def OM (F:List (Nat×AV)) (H:List (Nat×Row)):Prop:=∀i x,look F i=some x->Rg H x=true
def Cg (H:List (Nat×Row)):List (Nat×AV)->Bool
 | []=>true
 | (_,x)::F=>match Rg H x with|true=>Cg H F|false=>false
theorem pU {H:List (Nat×Row)}:∀ {F:List (Nat×AV)},Cg H F=true->OM F H
 | [],_,i,x,h=>by cases h
 | (k,y)::F,hb,i,x,h=>by
  simp only [Cg] at hb
  split at hb
  ·rename_i hy
   rw [aE] at h
   by_cases e:k=i
   ·rw [if_pos e] at h;injection h with h;subst h;exact hy
   ·rw [if_neg e] at h;exact pU hb i x h
  ·cases hb
structure EZ (op:List (Value×AV)) (S0:bm) (w0:World) (n:Nat) (tm:Array Value) (fx:Nat->Option Nat) (r l:Nat) (we:World) (rc:Loop) (s:AS) (O K:Nat->Prop) (w:World):Prop where
 ex:∃(wb:World) (φ:Nat->Option Nat) (Z:bm),aL Z wb n [] s ⟨tm,[]⟩ wb φ∧Z.fix=fx∧we.heap.size≤wb.heap.size∧wb.heap.size≤w.heap.size∧(∀b,Z.S b->b<wb.heap.size->w.heap[b]?=wb.heap[b]?)∧(∀b,Z.S b->b<wb.heap.size->S0.S b) ∧
  (∀id g,φ id=some g->w0.heap.size≤g∨S0.X g)∧(∀b,O b->b<wb.heap.size-> ¬Z.S b)∧(∀b,K b-> ∀id,φ id≠some b)∧ ¬Z.S l∧ ¬Z.S r∧ ∀p∈op,cz (aN Z wb φ []) wb p.1 p.2
 kept:Kept S0 w0 w
 base:w0.heap.size≤we.heap.size
 Qf:∀b,O b->we.heap.size≤b
 hl:l<we.heap.size
 hr:r<we.heap.size
 Kl:¬K l
 Hs:w.heap[l]?=some (.loop rc)
 KH:∀b,w0.heap.size≤b->S0.S b
 Oj:w0.heap.size≤l
 rl:r≠l
 Kr:¬K r
 jS:w.heap[r]?=some (.deferred (some []))
section
variable {op:List (Value×AV)} {P:Program} {S0:bm} {w0:World} {n:Nat} {tm:Array Value} {fx:Nat->Option Nat} {r l:Nat} {we:World} {rc:Loop} {s:AS}
theorem EZ.G3:jT (EZ op S0 w0 n tm fx r l we rc s):=by
 intro O K w O' K' w' h st hO hK
 obtain ⟨wb,φ,Z,h1,h2,h3,h4,h5,h6,h7,h8,h9,J5,IF,Nz⟩:=h.ex
 have hle:we.heap.size≤w.heap.size:=Nat.le_trans h3 h4
 refine ⟨⟨wb,φ,Z,h1,h2,h3,Nat.le_trans h4 st.size,fun b hb dh=>(st.block b ah fun ho=>h8 b ho dh hb).trans (h5 b hb dh),h6,h7,fun b hb dh=>?_,fun b hb id hid=>?_,J5,IF,Nz⟩,?_,h.base,fun b hb=>?_,h.hl,h.hr,fun hb=>?_,?_,?_,?_,?_,?_,?_⟩
 ·rcases hO b hb with hb|hb
  ·exact h8 b hb dh
  ·omega
 ·rcases hK b hb with hb|hb
  ·exact h9 b hb id hid
  ·have:=(h1.cW id b hid).2;omega
 ·exact ⟨st.os.trans h.kept.os,st.tape.trans h.kept.tape,st.output.trans h.kept.output,Nat.le_trans h.kept.size st.size,fun k hk hx=>(st.block k (Nat.lt_of_lt_of_le hk h.kept.size) fun ho=>by have:=h.Qf k ho;have:=h.base;omega).trans (h.kept.block k hk hx),h.kept.g0,h.kept.gx⟩
 ·rcases hO b hb with hb|hb
  ·exact h.Qf b hb
  ·omega
 ·rcases hK l hb with hb|hb
  ·exact h.Kl hb
  ·have:=h.hl;omega
 ·exact (st.block l (by have:=h.hl;omega) fun ho=>by have:=h.Qf l ho;have:=h.hl;omega).trans h.Hs
 ·exact h.KH
 ·exact h.Oj
 ·exact h.rl
 ·intro hb
  rcases hK r hb with hb|hb
  ·exact h.Kr hb
  ·have:=h.hr;omega
 ·exact (st.block r (by have:=h.hr;omega) fun ho=>by have:=h.Qf r ho;have:=h.hr;omega).trans h.jS
def Hw:List Nat->List AV->AS->AS
 | p::ps,x::xs,s=>Hw ps xs (lp s p x)
 | _,_,s=>s
theorem wB {Z:bm} {w:World} {φ:Nat->Option Nat}:∀(ps:List Nat) (vs:List Value) (xs:List AV) (s:AS) (a:Act),aL Z w0 n [] s a w φ->vs.length=xs.length->(∀p∈ps,p<n) ->
  (∀(j:Nat) v x,vs[j]?=some v->xs[j]?=some x->Den (az s.H φ) (aN Z w φ []) w v x)->aL Z w0 n [] (Hw ps xs s) ⟨(ps.zip vs).foldl (fun t p=>t.setIfInBounds p.1 p.2) a.tmps,a.defers⟩ w φ
 | [],vs,xs,s,a,h,_,_,_=>by
  cases xs<;>exact h
 | p::ps,[],xs,s,a,h,hl,_,_=>by
  cases xs with
  | nil=>exact h
  | cons=>simp at hl
 | p::ps,v::vs,[],s,a,h,hl,_,_=>by simp at hl
 | p::ps,v::vs,x::xs,s,a,h,hl,hp,hd=>by
  have h1:=h.put (hp p (by simp)) (hd 0 v x rfl rfl)
  exact wB ps vs xs (lp s p x) (a.put (some p) v) h1 (by simpa using hl) (fun q hq=>hp q (by simp [hq])) fun j u y hu hy=>hd (j+1) u y (by simpa using hu) (by simpa using hy)
theorem HN {F:List (Nat×AV)} {H X:List (Nat×Row)} {O K:Nat->Prop} {w1 w3 Q_:World} {S3:bm} {a3:Act} {vt:Nat->Option Nat} {pC:Loop} {φ:Nat->Option Nat} {wb:World} {Z:bm}
  (hM:EZ op S0 w0 n tm fx r l we rc ⟨F,H⟩ O K w1) (OC:∀b,O b->K b) (hK:∀b,K b->b<w1.heap.size)
  (h1:aL Z wb n [] ⟨F,H⟩ ⟨tm,[]⟩ wb φ) (h2:Z.fix=fx) (h3:we.heap.size≤wb.heap.size) (h4:wb.heap.size≤w1.heap.size) (h5:∀b,Z.S b->b<wb.heap.size->w1.heap[b]?=wb.heap[b]?) (h6:∀b,Z.S b->b<wb.heap.size->S0.S b)
  (h7:∀id g,φ id=some g->w0.heap.size≤g∨S0.X g) (h8:∀b,O b->b<wb.heap.size-> ¬Z.S b) (h9:∀b,K b-> ∀id,φ id≠some b) (J5:¬Z.S l) (IF:¬Z.S r) (Nz:∀p∈op,cz (aN Z wb φ []) wb p.1 p.2)
  (FH:aL S3 Q_ n [] ⟨[],X⟩ a3 w3 vt) (K3:S3.fix=fx) (OB:∀id g,vt id=some g->w1.heap.size≤g∨lJ φ g) (R0:¬S3.S l) (UD:¬S3.S r)
  (Ij:w3.os=w1.os) (uA:w3.tape=w1.tape) (uB:w3.output=w1.output) (dw:w1.heap.size≤w3.heap.size) (AW:∀b,b<w1.heap.size-> ¬lJ φ b->b≠l->w3.heap[b]?=w1.heap[b]?)
  (hX:jC X) (hF:OM F H) (Sz:OM F X) :
  EZ op S0 w0 n tm fx r l we pC ⟨F,X⟩ O K (w3.putObj l (.loop pC))∧(∀b,K b->(w3.putObj l (.loop pC)).heap[b]?=w1.heap[b]?):=by
 have L6:l<w3.heap.size:=by have:=hM.hl;omega
 have Cv:∀b,b≠l->(w3.putObj l (.loop pC)).heap[b]?=w3.heap[b]?:=fun b hb=>World.putObj_heap_other hb
 have Eu:∀b,b<w1.heap.size-> ¬lJ φ b->b≠l->(w3.putObj l (.loop pC)).heap[b]?=w1.heap[b]?:=fun b hb hn cV=>(Cv b cV).trans (AW b hb hn cV)
 have own:∀id g,φ id=some g->Z.S g∧g<wb.heap.size:=fun id g hg=>⟨h1.new g (h1.cW id g hg).1.2,(h1.cW id g hg).2⟩
 have MN:∀id g,vt id=some g->S3.S g∧g<w3.heap.size:=fun id g hg=>⟨FH.new g (FH.cW id g hg).1.2,(FH.cW id g hg).2⟩
 have Rj:∀id g,vt id=some g->g≠l:=fun id g hg e=>R0 (e ▸ (MN id g hg).1)
 have Vq:∀id e m g,az X vt id=some (e,m,some g)->aV (w3.putObj l (.loop pC)) g=aV w3 g:=fun id e m g hi=>by
  obtain ⟨_,-,-,-,hg⟩:=aQ hi
  unfold aV;rw [Cv g (Rj id g hg)]
 let Z4:bm:=⟨fun b=>(Z.S b∧b<wb.heap.size)∨lJ vt b∨(w3.putObj l (.loop pC)).heap.size≤b,lJ vt,fx,[]⟩
 have KV:(w3.putObj l (.loop pC)).heap.size=w3.heap.size:=World.putObj_size
 have fq:Kept S0 w0 (w3.putObj l (.loop pC)):=by
  refine ⟨Ij.trans hM.kept.os,uA.trans hM.kept.tape,uB.trans hM.kept.output,by rw [KV];exact Nat.le_trans hM.kept.size dw,fun k hk hx=>?_,hM.kept.g0,hM.kept.gx⟩
  have US:k<w1.heap.size:=Nat.lt_of_lt_of_le hk hM.kept.size
  refine (Eu k US (fun ⟨id,hid⟩=>?_) (fun e=>?_)).trans (hM.kept.block k hk hx)
  ·rcases h7 id k hid with h|h
   ·omega
   ·exact hx h
  ·have:=hM.Oj;omega
 have Te:∀b,lJ vt b->b<wb.heap.size->Z.S b:=fun b ⟨id,hid⟩ dh=>by
  rcases OB id b hid with h|⟨j,hj⟩
  ·omega
  ·exact (own j b hj).1
 have uE:∀b,aN Z wb φ [] b->aN Z4 (w3.putObj l (.loop pC)) vt [] b∧(w3.putObj l (.loop pC)).heap[b]?=wb.heap[b]?:=by
  intro b ⟨f1,f2,f3,f4⟩
  have cV:b≠l:=fun e=>J5 (e ▸ f4)
  have hn:¬lJ φ b:=fun ⟨id,hid⟩=>f3 id hid
  refine ⟨⟨by rw [KV];omega,by simp,fun id hid=>?_,.inl ⟨f4,f1⟩⟩,(Eu b ah hn cV).trans (h5 b f4 f1)⟩
  rcases OB id b hid with h|h
  ·omega
  ·exact hn h
 have fZ:aL Z4 (w3.putObj l (.loop pC)) n [] ⟨F,X⟩ ⟨tm,[]⟩ (w3.putObj l (.loop pC)) vt:=by
  refine ⟨h1.jP,rfl,⟨rfl,rfl,rfl,Nat.le_refl _,fun _ _ _=>rfl,fq.mG,fun b hb=>FH.sE hb⟩,fun i av hi=>?_,fun id q hq=>?_,FH.only,FH.inj,fun id g hg=>⟨⟨?_,.inr ⟨id,hg⟩⟩,by rw [KV];exact (MN id g hg).2⟩,fun _ _ _ h=>(by cases h),fun b hb=>?_⟩
  ·
   have dU:Den (az H φ) (aN Z wb φ []) wb (tm.getD i undef) av:=h1.cC i av hi
   show Den (az X vt) (aN Z4 (w3.putObj l (.loop pC)) vt []) (w3.putObj l (.loop pC)) (tm.getD i undef) av
   generalize tm.getD i undef=tv at dU ⊢
   have Ex:=hF i av hi
   have Io:=Sz i av hi
   have qE:cz (aN Z wb φ []) wb tv av->Den (az X vt) (aN Z4 (w3.putObj l (.loop pC)) vt []) (w3.putObj l (.loop pC)) tv av:=fun h=>.rep (h.mono uE)
   cases av with
   | val=>exact qE (by cases dU with|rep h=>exact h)
   | nil=>exact qE (by cases dU with|rep h=>exact h)
   | arr=>exact qE (by cases dU with|rep h=>exact h)
   | sl=>exact qE (by cases dU with|rep h=>exact h)
   | ptr=>exact qE (by cases dU with|rep h=>exact h)
   | lI=>exact qE (by cases dU with|rep h=>exact h)
   | dead=>exact .dead _
   | agg cs =>
    obtain ⟨vs,hv,rh,hd⟩:=ki dU
    rw [hv]
    exact .rep ((cz.agg vs cs rh fun j v c hv hc=>(eH (hd j v c hv hc) (iz Ex hc)).1).mono uE)
   | addr id off =>
    simp only [Rg] at Io
    split at Io
    ·rename_i q hb lB
     split at Io
     ·cases Io
     ·rename_i x0 xs wM
      have uG:=Nat.le_of_ble_eq_true hb
      cases dU with
      | rep h=>cases h
      | addr _ _ e m g hi =>
       obtain ⟨_,-,-,-,hg⟩:=aQ hi
       have U2:fx id=some g:=by
        rcases (h1.cW id g hg).1.1 with h|h
        ·omega
        ·rw [←h2];exact h
       have aP:=FH.rows id q lB
       unfold bN at aP
       cases R7:vt id with
       | none=>rw [R7] at aP;simp only at aP;rw [wM] at aP;cases aP
       | some g4 =>
        have:fx id=some g4:=by
         rcases (FH.cW id g4 R7).1.1 with h|h
         ·omega
         ·rw [←K3];exact h
        rw [U2] at this;injection this with this;subst this
        exact .addr id off q.e q.cells.length g (by unfold az;rw [lB,R7];rfl)
    ·cases Io
   | _=>cases Ex
  ·
   have aP:=FH.rows id q hq
   unfold bN at aP ⊢
   cases hg:vt id with
   | none=>rw [hg] at aP;exact aP
   | some g =>
    rw [hg] at aP
    obtain ⟨cur,te,fr,u1,u2,u3,u4,u5⟩:=aP
    refine ⟨cur,te,fr,(Cv g (Rj id g hg)).trans u1,u2,u3,u4,fun j u x hu hx=>?_⟩
    have:=u5 j u x hu hx
    have hc:=hX id q hq j x hx
    unfold bg at this ⊢
    cases hp:q.pure with
    | true=>rw [hp] at this;exact B1 this hc
    | false=>rw [hp] at this;exact Dp this hc Vq
  ·rcases (FH.cW id g hg).1.1 with h|h
   ·exact .inl h
   ·right;show fx id=some g;rw [←K3];exact h
  ·rcases hb with h|h
   ·exact .inr (.inr h)
   ·exact .inr (.inl h)
 refine ⟨⟨⟨w3.putObj l (.loop pC),vt,Z4,fZ,rfl,by rw [KV];omega,Nat.le_refl _,fun _ _ _=>rfl,fun b hb dh=>?_,fun id g hg=>?_,fun b hb dh hS=>?_,fun b hb id hid=>?_,fun hS=>?_,fun hS=>?_,fun p hp=>(Nz p hp).mono uE⟩,?_,hM.base,hM.Qf,hM.hl,hM.hr,hM.Kl,World.putObj_heap_same L6,hM.KH,hM.Oj,hM.rl,hM.Kr,?_⟩,fun b hb=>?_⟩
 ·rcases hb with h|⟨id,hid⟩|h
  ·exact h6 b h.1 h.2
  ·rcases OB id b hid with h|⟨j,hj⟩
   ·
    have:=hM.base;exact hM.KH b ah
   ·exact h6 b (own j b hj).1 (own j b hj).2
  ·omega
 ·rcases OB id g hg with h|⟨j,hj⟩
  ·left;have:=hM.base;omega
  ·exact h7 j g hj
 ·rcases hS with h|h|h
  ·exact h8 b hb h.2 h.1
  ·obtain ⟨id,hid⟩:=h
   rcases OB id b hid with h|⟨j,hj⟩
   ·have:=hK b (OC b hb);omega
   ·exact h8 b hb (own j b hj).2 (own j b hj).1
  ·have:=hK b (OC b hb);omega
 ·rcases OB id b hid with h|⟨j,hj⟩
  ·have:=hK b hb;omega
  ·exact h9 b hb j hj
 ·rcases hS with h|⟨id,hid⟩|h
  ·exact J5 h.1
  ·exact Rj id l hid rfl
  ·omega
 ·rcases hS with h|⟨id,hid⟩|h
  ·exact IF h.1
  ·exact UD (MN id r hid).1
  ·have:=hM.hr;omega
 ·exact fq
 ·have cV:r≠l:=hM.rl
  refine (Eu r (by have:=hM.hr;omega) (fun ⟨id,hid⟩=>IF (own id r hid).1) cV).trans hM.jS
 ·refine Eu b (hK b hb) (fun ⟨id,hid⟩=>h9 b hb id hid) fun e=>hM.Kl (e ▸ hb)
end
def MM:Code->Option (Operand×Array Tmp×Code×Code)
 | .rangeFunc g ps x b=>some (g,ps,x,b)
 | _=>none
def KB:List (Nat×Nat)->AS->AS
 | [],s=>s
 | (x,y):: ρ,s=>KB ρ (rename x y (ck y s))
def lk:List (Nat×Nat)->AS->AS
 | [],s=>s
 | (x,y):: ρ,s=>lk ρ (rename y x (ck x s))
def nt:List (Nat×Nat)->Bool
 | []=>true
 | (x,y):: ρ =>match Nat.ble x 999999999999,Nat.ble 1000000000000 y with|true,true=>nt ρ |_,_=>false
section
variable {n:Nat} {a:Act} {w w0:World}
theorem HA:∀(ρ :List (Nat×Nat)) (s:AS) (Z:bm) (φ:Nat->Option Nat),nt ρ =true->aL Z w0 n [] s a w φ-> ∃fx cB,aL ⟨Z.S,Z.X,fx,Z.si⟩ w0 n [] (KB ρ s) a w cB∧(∀i,i ∉ ρ.map (·.2)->fx i=Z.fix i)∧(∀id g,cB id=some g->lJ φ g)
 | [],s,Z,φ,_,h=>⟨Z.fix,φ,h,fun _ _=>rfl,fun id g hg=>⟨id,hg⟩⟩
 | (x,y):: ρ,s,Z,φ,hp,h=>by
  simp only [nt] at hp
  split at hp
  ·rename_i hx hy
   have hx:=Nat.le_of_ble_eq_true hx
   have hy:=Nat.le_of_ble_eq_true hy
   have h1:=h.mi y
   let Z2:bm:=⟨Z.S,Z.X,fun i=>if i=y then erase φ y x else Z.fix i,Z.si⟩
   have h2:aL Z2 w0 n [] (ck y s) a w (erase φ y):=⟨h1.jP,h1.jS,⟨h1.cX.os,h1.cX.tape,h1.cX.output,h1.cX.size,h1.cX.block,h1.cX.g0,h1.cX.gx⟩,h1.cC,h1.rows,h1.only,h1.inj,fun id g hg=>⟨⟨(h1.cW id g hg).1.1.imp (fun h=>h) fun hf=>by
     show (if id=y then erase φ y x else Z.fix id)=some g
     have cV:id≠y:=fun e=>by subst e;unfold erase at hg;rw [if_pos rfl] at hg;cases hg
     rw [if_neg cV];exact hf,(h1.cW id g hg).1.2⟩,(h1.cW id g hg).2⟩,h1.apart,h1.new⟩
   have h3:=h2.D_ x y (.inr fun g hg=>by show (if y=y then erase φ y x else Z.fix y)=some g;rw [if_pos rfl];exact hg) ah (dn y)
   obtain ⟨fx,cB,h4,h5,h6⟩:=HA ρ _ Z2 _ hp h3
   refine ⟨fx,cB,h4,fun i hi=>?_,fun id g hg=>?_⟩
   ·simp only [List.map_cons,List.mem_cons,not_or] at hi
    rw [h5 i hi.2]
    show (if i=y then erase φ y x else Z.fix i)=Z.fix i
    rw [if_neg hi.1]
   ·obtain ⟨j,hj⟩:=h6 id g hg
    unfold z_ erase at hj
    split at hj
    ·split at hj
     ·cases hj
     ·exact ⟨_,hj⟩
    ·split at hj
     ·cases hj
     ·exact ⟨_,hj⟩
  ·cases hp
theorem zt {Z:bm}:∀(ρ :List (Nat×Nat)) (s:AS) (φ:Nat->Option Nat),nt ρ =true->aL Z w0 n [] s a w φ-> ∃ cB,aL Z w0 n [] (lk ρ s) a w cB∧(∀id g,cB id=some g->lJ φ g)∧(∀id,1000000000000≤id->id∈ ρ.map (·.2)∨φ id=none->cB id=none)
 | [],s,φ,_,h=>⟨φ,h,fun id g hg=>⟨id,hg⟩,fun id _ hid=>hid.resolve_left (by simp)⟩
 | (x,y):: ρ,s,φ,hp,h=>by
  simp only [nt] at hp
  split at hp
  ·rename_i hx hy
   have hx:=Nat.le_of_ble_eq_true hx
   have hy:=Nat.le_of_ble_eq_true hy
   have h1:=h.mi x
   have h3:=h1.D_ y x (.inl ah) ah (dn x)
   obtain ⟨cB,h4,h5,h6⟩:=zt ρ _ _ hp h3
   refine ⟨cB,h4,fun id g hg=>?_,fun id hid s5=>h6 id hid ?_⟩
   ·obtain ⟨j,hj⟩:=h5 id g hg
    unfold z_ erase at hj
    split at hj
    ·split at hj
     ·cases hj
     ·exact ⟨_,hj⟩
    ·split at hj
     ·cases hj
     ·exact ⟨_,hj⟩
   ·have key:(id=y∨φ id=none)->z_ y x (erase φ x) id=none:=by
     intro s5
     unfold z_ erase
     rw [if_neg ah]
     rcases s5 with e|e
     ·rw [if_pos e]
     ·split
      ·rfl
      ·rw [if_neg ah];exact e
    rcases s5 with s5|s5
    ·simp only [List.map_cons,List.mem_cons] at s5
     rcases s5 with s5|s5
     ·exact .inr (key (.inl s5))
     ·exact .inl s5
    ·exact .inr (key (.inr s5))
  ·cases hp
end
def DJ (op:List (Value×AV)) (s s1:AS):Prop:=∀Z w0 n a w φ,aL Z w0 n [] s a w φ->(∀p∈op,cz (aN Z w φ []) w p.1 p.2)->aL Z w0 n [] s1 a w φ
def RQ (op:List (Value×AV)) (Q:Exit->AS->Prop) (ρ :List (Nat×Nat)) (F:List (Nat×AV)) (H:List (Nat×Row)):Exit->AS->Prop
 | .normal,s'=>bS s' ⟨[],H⟩
 | .exit id,s'=>∃X s1,jC X∧Cg X F=true∧bS s' ⟨[],X⟩∧DJ op ⟨F,X⟩ s1∧Q (.exit id) (lk ρ s1)
 | .ret,s'=>∃X s1,jC X∧Cg X F=true∧bS s' ⟨[],X⟩∧DJ op ⟨F,X⟩ s1∧Q .ret (lk ρ s1)
 | _,_=>False
def JQ (op:List (Value×AV)) (Q:Exit->AS->Prop) (ρ :List (Nat×Nat)) (s:AS) (c:Code):Prop:=∃s1,DJ op s s1∧((∃id,c= .exit id∧Q (.exit id) (lk ρ s1))∨(c= .ret∧Q .ret (lk ρ s1)))
section
variable {op:List (Value×AV)} {P:Program} {S0:bm} {w0:World} {n:Nat} {tm:Array Value} {fx:Nat->Option Nat} {r l:Nat} {we:World} {Q:Exit->AS->Prop} {ρ :List (Nat×Nat)}
theorem Fw {fn:FuncId} {ps:Array Tmp} {x bd:Code} {F:List (Nat×AV)} {H H':List (Nat×Row)} {As:List AV} {O K:Nat->Prop} {w1:World} {vs:List Value}
  (hM:EZ op S0 w0 n tm fx r l we {state:=.ready,pending:=none,fn:=fn,tmps:=tm,params:=ps,assign:=x,body:=bd,defers:=r} ⟨F,H⟩ O K w1) (OC:∀b,O b->K b) (hK:∀b,K b->b<w1.heap.size)
  (hl:vs.length=As.length) (hd:∀(j:Nat) v x,vs[j]?=some v->As[j]?=some x->cz K w1 v x) (PC:ps.toList.length=As.length) (PG:∀p∈ps.toList,p<n) (K8:kU x=true) (P6:kU bd=true)
  (hA:bf P n x (rL (bf P n bd (RQ op Q ρ F H')) (fun _ _=>False)) (Hw ps.toList As ⟨F,H⟩)) (Vr:jC H') (hF:OM F H) (Vu:OM F H') :
  ow P l vs w1 fun t w2=>Good w2∧w1.heap.size≤w2.heap.size∧(∀b,K b->w2.heap[b]?=w1.heap[b]?) ∧
   (t=true->EZ op S0 w0 n tm fx r l we {state:=.ready,pending:=none,fn:=fn,tmps:=tm,params:=ps,assign:=x,body:=bd,defers:=r} ⟨F,H'⟩ O K w2) ∧
   (t=false-> ∃X c,EZ op S0 w0 n tm fx r l we {state:=.done,pending:=some c,fn:=fn,tmps:=tm,params:=ps,assign:=x,body:=bd,defers:=r} ⟨F,X⟩ O K w2∧JQ op Q ρ ⟨F,X⟩ c):=by
 obtain ⟨wb,φ,Z,h1,h2,h3,h4,h5,h6,h7,h8,h9,J5,IF,Nz⟩:=hM.ex
 have own:∀id g,φ id=some g->Z.S g∧g<wb.heap.size:=fun id g hg=>⟨h1.new g (h1.cW id g hg).1.2,(h1.cW id g hg).2⟩
 have L6:l<w1.heap.size:=by have:=hM.hl;omega
 have Ey:¬lJ φ l:=fun ⟨id,hid⟩=>J5 (own id l hid).1
 have Tx:¬lJ φ r:=fun ⟨id,hid⟩=>IF (own id r hid).1
 refine ⟨_,_,_,_,run_yield hM.Hs (by simp [hl,←PC]),?_⟩
 refine roundIn_of_wpIn trivial ?_
 let Z1:bm:=⟨fun b=>(Z.S b∧b<wb.heap.size)∨w1.heap.size≤b∨K b,lJ φ,fx,[]⟩
 have GA:¬Z1.S l:=fun h=>by
  rcases h with h|h|h
  ·exact J5 h.1
  ·omega
  ·exact hM.Kl h
 have Pz:¬Z1.S r:=fun h=>by
  rcases h with h|h|h
  ·exact IF h.1
  ·have:=hM.hr;omega
  ·exact hM.Kr h
 have PJ:∀b,(w1.heap.size≤b∨lJ φ b)->Z1.S b:=fun b hb=>hb.elim (fun h=>.inr (.inl h)) fun ⟨id,hid⟩=>.inl (own id b hid)
 have s1:aL Z1 w1 n [] ⟨F,H⟩ ⟨tm,[]⟩ w1 φ:=h1.qQ h4 (fun b hb dh=>h5 b hb dh) (fun b hb dh=>.inl ⟨hb,dh⟩) PJ (fun id g hg=>⟨id,hg⟩) (fun id g hg=>by
  rcases (h1.cW id g hg).1.1 with h|h
  ·exact .inl h
  ·right;show fx id=some g;rw [←h2];exact h) rfl rfl hM.kept.mG (fun b hb=>h1.sE hb)
 have s2:=wB ps.toList vs As ⟨F,H⟩ ⟨tm,[]⟩ s1 hl PG fun j v x hv hx=>.rep ((hd j v x hv hx).mono fun b hb=>⟨⟨hK b hb,by simp,h9 b hb,.inr (.inr hb)⟩,rfl⟩)
 have e0:((ps.zip vs.toArray).foldl (fun (t:Array Value) (p:Tmp×Value)=>t.setIfInBounds p.1 p.2) tm)=((ps.toList.zip vs).foldl (fun t p=>t.setIfInBounds p.1 p.2) tm):=by
  rw [←Array.foldl_toList];simp
 have hx:=hA Z1 w1 _ w1 ⟨φ,s2⟩
 have e1:({tmps:=((ps.zip vs.toArray).foldl (fun (t:Array Value) (p:Tmp×Value)=>t.setIfInBounds p.1 p.2) tm),defers:=[]}:Act)=⟨(ps.toList.zip vs).foldl (fun t p=>t.setIfInBounds p.1 p.2) tm,[]⟩:=by rw [e0]
 show x.wpIn (Fence.wide.inRound l) 0 P _ ({tmps:=((ps.zip vs.toArray).foldl (fun (t:Array Value) (p:Tmp×Value)=>t.setIfInBounds p.1 p.2) tm),defers:=[]}:Act) w1
 rw [e1]
 refine iv (ro:=some l) x _ _ _ K8 (by rintro ⟨_,_,h⟩;exact h) (ea x _ _ (fun e a1 LM ⟨s',hq,bY⟩=>?_) _ _ hx)
 cases e with
 | normal =>
  obtain ⟨S1,VS,ms,hE,iH,gU⟩:=bY
  have k1:=hE.kept.trans gU.cX hE.X
  have Py:=(k1.block l L6 Ey).trans hM.Hs
  refine ⟨_,run_beginRound Py rfl,?_⟩
  generalize On:LM.putObj l _=w2
  have FF:w2.heap.size=LM.heap.size:=by rw [←On];exact World.putObj_size
  have Gz:∀b,b≠l->w2.heap[b]?=LM.heap[b]?:=fun b hb=>by rw [←On];exact World.putObj_heap_other hb
  have Px:w2.heap[l]?=some (.loop {state:=.busy,pending:=none,fn:=fn,tmps:=tm,params:=ps,assign:=x,body:=bd,defers:=r}):=by rw [←On];exact World.putObj_heap_same (Nat.lt_of_lt_of_le L6 k1.size)
  have O7:∀id g,iH id=some g->S1.S g∧g<LM.heap.size:=fun id g hg=>⟨gU.new g (gU.cW id g hg).1.2,(gU.cW id g hg).2⟩
  have Nt:∀b,S1.S b->b≠l:=fun b hb e=>GA (hE.sub l (e ▸ hb))
  have OX:∀id g,iH id=some g->w1.heap.size≤g∨lJ φ g:=fun id g hg=>by
   rcases (gU.cW id g hg).1.2 with h|h
   ·exact .inl (Nat.le_trans hE.kept.size h)
   ·exact hE.X g h
  let Z2:bm:=⟨fun b=>(S1.S b∧b<LM.heap.size)∨w2.heap.size≤b,lJ iH,fx,a1.defers⟩
  have s3:aL Z2 w2 n [] s' a1 w2 iH:=gU.qQ ah (fun b hb _=>Gz b (Nt b hb)) (fun b hb dh=>.inl ⟨hb,dh⟩) (fun b hb=>hb.elim .inr fun ⟨id,hid⟩=>.inl (O7 id b hid)) (fun id g hg=>⟨id,hg⟩) (fun id g hg=>by
   rcases (gU.cW id g hg).1.1 with h|h
   ·exact .inl h
   ·right;show fx id=some g;rw [hE.fix] at h;exact h) rfl rfl (gU.cX.mG.ae fun b hb=>Gz b fun e=>hM.kept.sE (.inl hM.Oj) (e ▸ hb)) (fun b hb=>gU.sE hb)
  have hb:=hq Z2 w2 a1 w2 ⟨iH,s3⟩
  refine iv (ro:=some l) bd _ _ _ P6 (by rintro ⟨_,_,h⟩;exact h) (ea bd _ _ (fun e a3 w3 ⟨Ud,QM,QK⟩=>?_) _ _ hb)
  obtain ⟨S3,Q_,V4,Ny,w8,QK⟩:=QK
  have k3:=Ny.kept.trans QK.cX Ny.X
  have RN:¬lJ iH l:=fun ⟨id,hid⟩=>Nt l (O7 id l hid).1 rfl
  have Ih:=(k3.block l (by rw [FF];exact Nat.lt_of_lt_of_le L6 k1.size) RN).trans Px
  have KW:w1.heap.size≤w3.heap.size:=Nat.le_trans k1.size (by rw [←FF];exact k3.size)
  have AW:∀b,b<w1.heap.size-> ¬lJ φ b->b≠l->w3.heap[b]?=w1.heap[b]?:=fun b dh hn cV =>
   (k3.block b (by rw [FF];exact Nat.lt_of_lt_of_le dh k1.size) fun ⟨id,hid⟩=>(OX id b hid).elim (fun h=>ah) hn).trans ((Gz b cV).trans (k1.block b dh hn))
  have Ij:w2.os=LM.os∧w2.tape=LM.tape∧w2.output=LM.output:=by rw [←On];exact ⟨rfl,rfl,rfl⟩
  have Sp:¬S3.S l:=fun h=>(Ny.sub l h).elim (fun h=>Nt l h.1 rfl) fun h=>by have:=k1.size;omega
  have So:¬S3.S r:=fun h=>(Ny.sub r h).elim (fun h=>Pz (hE.sub r h.1)) fun h=>by have:=k1.size;have:=hM.hr;omega
  have next:∀(X:List (Nat×Row)) (pC:Loop),bS Ud ⟨[],X⟩->jC X->OM F X->EZ op S0 w0 n tm fx r l we pC ⟨F,X⟩ O K (w3.putObj l (.loop pC))∧(∀b,K b->(w3.putObj l (.loop pC)).heap[b]?=w1.heap[b]?):=by
   intro X pC hw hX Sz
   obtain ⟨vt,FH⟩:=hw S3 Q_ n a3 w3 ⟨w8,QK⟩
   exact HN hM OC hK h1 h2 h3 h4 h5 h6 h7 h8 h9 J5 IF Nz FH Ny.fix (fun id g hg=>by
    rcases (FH.cW id g hg).1.2 with h|h
    ·left;have:=Ny.kept.size;have:=k1.size;omega
    ·rcases Ny.X g h with h|⟨j,hj⟩
     ·left;have:=k1.size;omega
     ·exact OX j g hj) Sp So (k3.os.trans (Ij.1.trans k1.os)) (k3.tape.trans (Ij.2.1.trans k1.tape)) (k3.output.trans (Ij.2.2.trans k1.output)) KW AW hX hF Sz
  cases e with
  | normal =>
   obtain ⟨g1,g2⟩:=next H' {state:=.ready,pending:=none,fn:=fn,tmps:=tm,params:=ps,assign:=x,body:=bd,defers:=r} QM Vr Vu
   exact ⟨_,_,run_endRound none Ih,true,rfl,g1.kept.mG,by rw [World.putObj_size];exact KW,g2,fun _=>g1,fun h=>(by cases h)⟩
  | exit id =>
   obtain ⟨X,s1,q1,q2,q3,q5,q4⟩:=QM
   obtain ⟨g1,g2⟩:=next X {state:=.done,pending:=some (.exit id),fn:=fn,tmps:=tm,params:=ps,assign:=x,body:=bd,defers:=r} q3 q1 (pU q2)
   exact ⟨_,_,run_endRound (some (.exit id)) Ih,false,rfl,g1.kept.mG,by rw [World.putObj_size];exact KW,g2,fun h=>(by cases h),fun _=>⟨X,.exit id,g1,s1,q5,.inl ⟨id,rfl,q4⟩⟩⟩
  | ret =>
   obtain ⟨X,s1,q1,q2,q3,q5,q4⟩:=QM
   obtain ⟨g1,g2⟩:=next X {state:=.done,pending:=some .ret,fn:=fn,tmps:=tm,params:=ps,assign:=x,body:=bd,defers:=r} q3 q1 (pU q2)
   exact ⟨_,_,run_endRound (some .ret) Ih,false,rfl,g1.kept.mG,by rw [World.putObj_size];exact KW,g2,fun h=>(by cases h),fun _=>⟨X,.ret,g1,s1,q5,.inr ⟨rfl,q4⟩⟩⟩
  | _=>exact QM.elim
 | _=>exact hq.elim
theorem Eg {rc:Loop} {s s1:AS} {O K:Nat->Prop} {w':World} {a a':Act} (hM:EZ op S0 w0 n a.tmps fx r l we rc s O K w') (MV :nt ρ =true) (U3:∀i,i ∉ ρ.map (·.2)->fx i=S0.fix i) (RH:w0.heap.size≤r) (ht:a'.tmps=a.tmps) (hd:a'.defers=mark r::S0.si) (gl:DJ op s s1) (pC:Loop) :
  mZ S0 w0 n (lk ρ s1) a' (w'.putObj l (.loop pC)):=by
 obtain ⟨wb,φ,Z,h1,h2,h3,h4,h5,h6,h7,h8,h9,J5,IF,Nz⟩:=hM.ex
 obtain ⟨cB,u1,u2,u3⟩:=zt ρ _ _ MV (gl _ _ _ _ _ _ h1 Nz)
 have L6:l<w'.heap.size:=by have:=hM.hl;omega
 have dw:(w'.putObj l (.loop pC)).heap.size=w'.heap.size:=World.putObj_size
 have ho:∀b,b≠l->(w'.putObj l (.loop pC)).heap[b]?=w'.heap[b]?:=fun b hb=>World.putObj_heap_other hb
 have own:∀id g,cB id=some g->Z.S g∧g<wb.heap.size:=fun id g hg=>⟨u1.new g (u1.cW id g hg).1.2,(u1.cW id g hg).2⟩
 let S1:bm:=⟨fun b=>(Z.S b∧b<wb.heap.size)∨w'.heap.size≤b,lJ cB,S0.fix,mark r::S0.si⟩
 have hs:aL S1 (w'.putObj l (.loop pC)) n [] (lk ρ s1) a' (w'.putObj l (.loop pC)) cB:=u1.qQ (by rw [dw];exact h4) (fun b hb dh=>(ho b fun e=>J5 (e ▸ hb)).trans (h5 b hb dh)) (fun b hb dh=>.inl ⟨hb,dh⟩) (fun b hb=>by
   rcases hb with h|⟨id,hid⟩
   ·right;rw [dw] at h;exact h
   ·exact .inl (own id b hid)) (fun id g hg=>⟨id,hg⟩) (fun id g hg=>by
  rcases Nat.lt_or_ge id 1000000000000 with h|h
  ·exact .inl h
  ·right
   rcases (u1.cW id g hg).1.1 with h'|h'
   ·omega
   ·show S0.fix id=some g
    have gf:id ∉ ρ.map (·.2):=fun hm=>(by rw [u3 id h (.inl hm)] at hg;cases hg)
    rw [←U3 id gf,←h2];exact h') ht hd (hM.kept.mG.ae fun b hb=>ho b fun e=>hM.kept.sE (.inl hM.Oj) (e ▸ hb)) (fun b hb=>u1.sE hb)
 refine ⟨S1,w'.putObj l (.loop pC),[r],⟨⟨hM.kept.os,hM.kept.tape,hM.kept.output,by rw [dw];exact hM.kept.size,fun k hk hx=>(ho k fun e=>by have:=hM.Oj;omega).trans (hM.kept.block k hk hx),hM.kept.g0,hM.kept.gx⟩,fun b hb=>?_,fun b ⟨id,hid⟩=>?_,rfl,rfl,by simp,fun r' ij=>?_⟩,cB,hs⟩
 ·rcases hb with h|h
  ·exact h6 b h.1 h.2
  ·exact hM.KH b (Nat.le_trans hM.kept.size h)
 ·obtain ⟨j,hj⟩:=u2 id b hid
  exact h7 j b hj
 ·obtain rfl:r'=r:=by simpa using ij
  refine ⟨RH,by rw [dw];have:=hM.hr;omega,(ho _ hM.rl).trans hM.jS,fun h=>?_,fun ⟨id,hid⟩=>IF (own id _ hid).1⟩
  rcases h with h|h
  ·exact IF h.1
  ·have:=hM.hr;omega
theorem bf.range {c:Code} {s:AS} {g:Operand} {ps:Array Tmp} {x bd:Code} (hc:MM c=some (g,ps,x,bd)) {f:Nat} {lF:List AV} (A:Nat->List AV) (N:Nat) (hit:w7 P f lF A N) (hE:ib P f=true) (K8:kU x=true) (P6:kU bd=true)
  (ρ :List (Nat×Nat)) (MV :nt ρ =true) (xs:List AV) (F:List (Nat×AV)) (I:List Value->Nat->List (Nat×Row)) (sN:AS)
  (hw:∀Z w0 a w φ,aL Z w0 n [] (KB ρ s) a w φ-> ∃ j6 vs,vs.length=xs.length∧aL Z w0 n [] ⟨F,I vs 0⟩ a w j6∧ ∀p∈vs.zip xs,cz (aN Z w j6 []) w p.1 p.2) (hg:∀vs,vs.length=xs.length->bp ⟨F,I vs 0⟩ g= .lI f lF) (PC:∀i,ps.toList.length=(A i).length) (PG:(ps.toList.all fun p=>Nat.blt p n)=true)
  (hI:∀vs i,vs.length=xs.length->i≤N->jC (I vs i)∧Cg (I vs i) F=true) (pe:∀vs i,vs.length=xs.length->i<N->bf P n x (rL (bf P n bd (RQ (vs.zip xs) Q ρ F (I vs (i+1)))) (fun _ _=>False)) (Hw ps.toList (A i) ⟨F,I vs i⟩)) (gl:∀vs,vs.length=xs.length->DJ (vs.zip xs) ⟨F,I vs N⟩ sN) (Ng:Q .normal (lk ρ sN)):bf P n c Q s:=by
 cases c with
 | rangeFunc g' V3 x' Wy =>
  cases hc
  intro S0 w0 a w ⟨φ,hs⟩
  show (Code.rangeFunc g ps x bd).wp P _ a w
  refine wpIn_wide.1 (wpIn_rangeFunc (n:=0) fun fn _=>?_)
  obtain ⟨fx,iH,PH,Oo,-⟩:=HA ρ s S0 φ MV hs
  obtain ⟨j6,us,za,mX,vp⟩:=hw _ _ _ _ _ PH
  have dg:=mX.bp g
  rw [hg us za] at dg
  obtain ⟨cv,hv,GA,Cx⟩:=D9 dg
  generalize Om:(w.alloc (.deferred (some []))).alloc (.loop {state:=.ready,pending:=none,fn:=fn,tmps:=a.tmps,params:=ps,assign:=x,body:=bd,defers:=w.heap.size})=we
  have dw:we.heap.size=w.heap.size+2:=by rw [←Om];simp
  have hold:∀b,b<w.heap.size->we.heap[b]?=w.heap[b]?:=fun b hb=>by
   rw [←Om,Below.heap_alloc _ _ _ (by simp;omega),Below.heap_alloc _ _ _ hb]
  have Tx:we.heap[w.heap.size]?=some (.deferred (some [])):=by rw [←Om,Below.heap_alloc _ _ _ (by simp)];exact World.alloc_heap_new w _
  have Ey:we.heap[w.heap.size+1]?=some (.loop {state:=.ready,pending:=none,fn:=fn,tmps:=a.tmps,params:=ps,assign:=x,body:=bd,defers:=w.heap.size}):=by
   rw [←Om]
   have:=World.alloc_heap_new (w.alloc (.deferred (some []))) (.loop {state:=.ready,pending:=none,fn:=fn,tmps:=a.tmps,params:=ps,assign:=x,body:=bd,defers:=w.heap.size})
   rw [World.size_alloc] at this;exact this
  have Rw:we.os=w.os∧we.tape=w.tape∧we.output=w.output:=by rw [←Om];exact ⟨rfl,rfl,rfl⟩
  refine ⟨w.heap.size+1,[mark w.heap.size],we,{target:=.fn (.func f) cv.toArray,args:= #[.func (.yield (w.heap.size+1)) #[] #[]]},we,f,(Value.func (.yield (w.heap.size+1)) #[] #[]::cv).toArray,we,?_,?_,fun _ _=>trivial,?_,fun h=>by simp [Fence.wide] at h,?_⟩
  ·rw [←Om];exact run_enterLoop_outer fn a.tmps ps x bd
  ·have ec:a.eval (.const (Value.func (.yield (w.heap.size+1)) #[] #[]))=Value.func (.yield (w.heap.size+1)) #[] #[]:=rfl
   unfold resolve;simp [hv,ec,Deferred.ofValue]
  ·have e:(Value.func (.yield (w.heap.size+1)) #[] #[]::cv).toArray= #[Value.func (.yield (w.heap.size+1)) #[] #[]]++cv.toArray:=by apply Array.ext';simp
   rw [e]
   exact pc hE _ _
  ·refine callsIn_wide.2 ?_
   have vq:w0.heap.size≤w.heap.size:=mX.cX.size
   have Rf:∀id g,j6 id=some g->S0.S g∧g<w.heap.size:=fun id g hg=>⟨mX.new g (mX.cW id g hg).1.2,(mX.cW id g hg).2⟩
   let Z:bm:=⟨fun b=>(S0.S b∧b<w.heap.size)∨we.heap.size≤b,lJ j6,fx,[]⟩
   have hZ:aL Z we n [] ⟨F,I us 0⟩ ⟨a.tmps,[]⟩ we j6:=mX.qQ ah (fun b _ dh=>hold b dh) (fun b hb dh=>.inl ⟨hb,dh⟩) (fun b hb=>hb.elim .inr fun ⟨id,hid⟩=>.inl (Rf id b hid)) (fun id g hg=>⟨id,hg⟩) (fun id g hg=>(mX.cW id g hg).1.1) rfl rfl (mX.cX.mG.ae fun b hb=>hold b (mX.cX.mG.lt hb)) (fun b hb=>mX.sE hb)
   have Vn:EZ (us.zip xs) S0 w0 n a.tmps fx w.heap.size (w.heap.size+1) we {state:=.ready,pending:=none,fn:=fn,tmps:=a.tmps,params:=ps,assign:=x,body:=bd,defers:=w.heap.size} ⟨F,I us 0⟩ (fun _=>False) (aN ⟨S0.S,S0.X,fx,S0.si⟩ w j6 []) we:=by
    refine ⟨⟨we,j6,Z,hZ,rfl,Nat.le_refl _,Nat.le_refl _,fun _ _ _=>rfl,fun b hb dh=>?_,fun id g hg=>(mX.cW id g hg).1.2,fun _ h=>h.elim,fun b hb=>hb.2.2.1,fun h=>?_,fun h=>?_,fun p hp=>(vp p hp).mono fun b hb=>⟨⟨by rw [dw];have:=hb.1;omega,by simp,hb.2.2.1,.inl ⟨hb.2.2.2,hb.1⟩⟩,hold b hb.1⟩⟩,?_,ah,fun _ h=>h.elim,ah,ah,fun h=>?_,Ey,fun b hb=>mX.new b (.inl hb),ah,ah,fun h=>?_,Tx⟩
    ·rcases hb with h|h
     ·exact h.1
     ·omega
    ·rcases h with h|h<;>omega
    ·rcases h with h|h<;>omega
    ·exact ⟨Rw.1.trans mX.cX.os,Rw.2.1.trans mX.cX.tape,Rw.2.2.trans mX.cX.output,ah,fun k hk hx=>(hold k ah).trans (mX.cX.block k hk hx),mX.cX.g0,mX.cX.gx⟩
    ·have:=h.1;omega
    ·have:=h.1;omega
   have mT:=hit (w.heap.size+1) we (aN ⟨S0.S,S0.X,fx,S0.si⟩ w j6 []) cv
    (fun i=>EZ (us.zip xs) S0 w0 n a.tmps fx w.heap.size (w.heap.size+1) we {state:=.ready,pending:=none,fn:=fn,tmps:=a.tmps,params:=ps,assign:=x,body:=bd,defers:=w.heap.size} ⟨F,I us i⟩)
    (fun O K w'=>∃X c,EZ (us.zip xs) S0 w0 n a.tmps fx w.heap.size (w.heap.size+1) we {state:=.done,pending:=some c,fn:=fn,tmps:=a.tmps,params:=ps,assign:=x,body:=bd,defers:=w.heap.size} ⟨F,X⟩ O K w'∧JQ (us.zip xs) Q ρ ⟨F,X⟩ c)
    hZ.cX.mG (fun b hb=>by have:=hb.1;omega) GA (fun j v c hv hc=>(Cx j v c hv hc).mono fun b hb=>⟨hb,hold b hb.1⟩) (fun i=>EZ.G3)
    (fun O K w' O' K' fp ⟨X,c,hX,hc⟩ st h1 h2=>⟨X,c,EZ.G3 O K w' O' K' fp hX st h1 h2,hc⟩)
    (fun i hi O K w1 vs hJ OC hK hl hd=>Fw hJ OC hK hl hd (PC i) (fun p hp=>Nat.le_of_ble_eq_true (List.all_eq_true.1 PG p hp)) K8 P6 (pe us i za hi) (hI us (i+1) za hi).1 (pU (hI us i za (Nat.le_of_lt hi)).2) (pU (hI us (i+1) za hi).2)) Vn
   refine mT.mono fun e w' ⟨v,O,K,he,s5⟩=>?_
   subst he
   rcases s5 with hM|⟨X,c,hM,s1,TM,hj⟩
   ·exact ⟨_,_,run_endLoop hM.Hs (by simp),_,Ng,Eg (a:=a) (a':={a with defers:=[mark w.heap.size]++a.defers}) hM MV Oo vq rfl (by show mark w.heap.size::a.defers=_;rw [hs.jS]) (gl us za) _⟩
   ·refine ⟨_,_,run_endLoop hM.Hs (by simp),?_⟩
    have ke:=Eg (a:=a) (a':={a with defers:=[mark w.heap.size]++a.defers}) hM MV Oo vq rfl (by show mark w.heap.size::a.defers=_;rw [hs.jS]) TM
    rcases hj with ⟨id,rfl,hq⟩|⟨rfl,hq⟩
    ·exact wpIn_exit ⟨_,hq,ke _⟩
    ·exact wpIn_ret ⟨_,hq,ke _⟩
 | _=>cases hc
end
def It (n:Nat) (J:(Nat->Prop)->(Nat->Prop)->World->Prop) (s:AS) (a:Act) (w:World):Prop :=
 ∃(wb:World) (Z:bm) (φ:Nat->Option Nat) (ms:List Nat),aL Z wb n [] s a w φ∧Z.si=ms.map mark∧ms.Nodup∧(∀r∈ms,r<w.heap.size∧w.heap[r]?=some (.deferred (some []))∧ ¬Z.S r)∧J (fun b=>lJ φ b∨b∈ms) (fun b=>(Z.S b∨b∈ms)∧b<w.heap.size) w
section
variable {P:Program} {n:Nat} {J:(Nat->Prop)->(Nat->Prop)->World->Prop} {s s':AS} {a:Act} {w:World} {Q:Exit->Act->World->Prop}
theorem It.begin (h:It n J s a w) (hJ:jT J):∃Z:bm,iu Z w n s a w∧ ∀(s':AS) (a':Act) (w':World),mZ Z w n s' a' w'->It n J s' a' w':=by
 obtain ⟨wb,Z,φ,ms,h1,h2,h3,h4,h5⟩:=h
 have own:∀id g,φ id=some g->Z.S g∧g<w.heap.size:=fun id g hg=>⟨h1.new g (h1.cW id g hg).1.2,(h1.cW id g hg).2⟩
 let Z':bm:=⟨fun b=>(Z.S b∧b<w.heap.size)∨w.heap.size≤b,lJ φ,φ,Z.si⟩
 have hs:aL Z' w n [] s a w φ:=h1.qQ (Nat.le_refl _) (fun _ _ _=>rfl) (fun b hb dh=>.inl ⟨hb,dh⟩) (fun b hb=>hb.elim .inr fun ⟨id,hid⟩=>.inl (own id b hid)) (fun id g hg=>⟨id,hg⟩) (fun id g hg=>.inr hg) rfl h1.jS h1.cX.mG (fun b hb=>h1.sE hb)
 refine ⟨Z',⟨φ,hs⟩,fun s' a' w' ⟨S1,w1,QE,hE,cB,bY⟩=>?_⟩
 have k:=hE.kept.trans bY.cX hE.X
 have UJ:∀r∈ms,¬lJ φ r:=fun r hr ⟨id,hid⟩=>(h4 r hr).2.2 (own id r hid).1
 refine ⟨w1,S1,cB,QE++ms,bY,by rw [hE.si,List.map_append];exact congrArg _ h2,?_,fun r hr=>?_,hJ _ _ _ _ _ _ h5 ⟨k.os,k.tape,k.output,k.size,fun b hb hn=>k.block b hb fun h=>hn (.inl h)⟩ (fun b hb=>?_) fun b hb=>?_⟩
 ·rw [List.nodup_append]
  refine ⟨hE.nodup,h3,fun r hr r' ij e=>?_⟩
  subst e
  have:=(hE.marks r hr).1
  have:=(h4 r ij).1
  omega
 ·rcases List.mem_append.1 hr with hr|hr
  ·obtain ⟨u1,u2,u3,u4,u5⟩:=hE.marks r hr
   exact ⟨Nat.lt_of_lt_of_le u2 bY.cX.size,(bY.cX.block r u2 u5).trans u3,u4⟩
  ·obtain ⟨u1,u2,u3⟩:=h4 r hr
   refine ⟨Nat.lt_of_lt_of_le u1 k.size,(k.block r u1 (UJ r hr)).trans u2,fun h=>?_⟩
   rcases hE.sub r h with h|h
   ·exact u3 h.1
   ·omega
 ·rcases hb with ⟨id,hid⟩|hb
  ·rcases (bY.cW id b hid).1.2 with h|h
   ·right;have:=hE.kept.size;omega
   ·exact (hE.X b h).elim .inr fun h=>.inl (.inl h)
  ·rcases List.mem_append.1 hb with hb|hb
   ·exact .inr (hE.marks b hb).1
   ·exact .inl (.inr hb)
 ·obtain ⟨hb,dh⟩:=hb
  rcases hb with hb|hb
  ·rcases hE.sub b hb with h|h
   ·exact .inl ⟨.inl h.1,h.2⟩
   ·exact .inr h
  ·rcases List.mem_append.1 hb with hb|hb
   ·exact .inr (hE.marks b hb).1
   ·exact .inl ⟨.inr hb,(h4 b hb).1⟩
theorem It.S6 {c:Code} {Qs:Exit->AS->Prop} (h:It n J s a w) (hJ:jT J) (hc:bf P n c Qs s):BM P c (fun e a' w'=>∃s',Qs e s'∧It n J s' a' w') a w:=by
 obtain ⟨Z,hs,AZ⟩:=h.begin hJ
 exact ea _ _ _ (fun e a' w' ⟨s',hq,bY⟩=>⟨s',hq,AZ s' a' w' bY⟩) _ _ (hc Z w a w hs)
theorem It.oR (h:It n J s a w) (hJ:jT J) (hw:bS s s'):It n J s' a w:=by
 obtain ⟨Z,hs,AZ⟩:=h.begin hJ
 exact AZ _ _ _ (hw _ _ _ _ _ hs).one
theorem It.ops {ops:List Oper} {hs:List (Nat×Hint)} {l:List Oper} {i:Nat} {C:List Prop} (h:It n J s a w) (hJ:jT J) (he:j0 P n ops hs l i s=some (s',C)) (hC:bx C) (hQ:∀a' w',It n J s' a' w'->Q .normal a' w'):wpList P ops.toArray Q l a w:=by
 obtain ⟨Z,hs,AZ⟩:=h.begin hJ
 exact jN (S0:=Z) (w0:=w) _ _ _ _ _ he hC a w hs fun a' w' bY=>hQ a' w' (AZ _ _ _ bY.one)
theorem fc {F:Fence} {m:Nat} {ops:Array Oper}:∀(l1 l2:List Oper) (a:Act) (w:World),wpListIn F m P ops (Exit.then (wpListIn F m P ops Q l2) Q) l1 a w->wpListIn F m P ops Q (l1++l2) a w
 | [],l2,a,w,h=>h
 | o::l1,l2,a,w,h=>by
  rw [List.cons_append]
  unfold wpListIn at h ⊢
  split at h
  ·rename_i hw
   rw [if_pos hw]
   refine ⟨h.1,?_⟩
   have h2:=h.2
   generalize (o.semAt F.round a.eval).run P w=r at *
   cases r with
   | ok x w'=>cases x with
    | value v=>exact fc l1 l2 _ _ h2
    | skip=>exact fc l1 l2 _ _ h2
    | defer d=>exact fc l1 l2 _ _ h2
    | enter f args=>exact ⟨h2.1,CallsIn.mono h2.2 fun e fp he=>by cases e<;>first|exact fc l1 l2 _ _ he|exact he⟩
    | row row args=>exact ⟨h2.1,RowsIn.mono h2.2 fun v fp he=>fc l1 l2 _ _ he⟩
    | round l' f tmps x b=>exact ⟨h2.1,RoundIn.mono h2.2 fun e fp he=>by cases e<;>first|exact fc l1 l2 _ _ he|exact he⟩
    | _=>exact h2
   | halt x w'=>cases x<;>exact h2
  ·rename_i hw
   rw [if_neg hw]
   exact ⟨h.1,fc l1 l2 _ _ h.2⟩
theorem GM {id d:Nat} {l1 l2:List Oper} {o:Oper} {y:Operand} {xs:Array Operand} {ts:Array TypeId} {full:List Oper} (Iy:full=l1++o::l2) (ho:o.op= .call ⟨.value y,xs,ts⟩) (hg:o.guard=none) (hd:o.dst=some d) (hQ:¬LetsOut Q) (h1:l1.all kb=true) (h2:l2.all kb=true)
  (h:wpList P full.toArray (Exit.then (fun a1 w1=>∃l,a1.eval y= .func (.yield l) #[] #[]∧ow P l (xs.toList.map a1.eval) w1 fun t w2=>wpList P full.toArray Q l2 (a1.put (some d) (.bool t)) w2) Q) l1 a w):(Code.region id full.toArray false).wp P Q a w:=by
 refine (wpIn_wide (n:=0)).1 (wpIn_region_lit ?_)
 have e:wpListIn Fence.wide 0 P full.toArray Q full=wpListIn Fence.wide 0 P full.toArray Q (l1++o::l2):=by rw [←Iy]
 rw [e]
 refine fc l1 _ a w (list_round (ro:=none) (by rintro ⟨_,_,h⟩;exact hQ ⟨_,_,h⟩) l1 h1 a w (j7 (lO (fun a1 w1 ⟨l,hy,fn,tmps,x,bd,hr,pe⟩=>?_) fun _ _ _ h=>h) l1 a w h))
 have hw:Region.wanted o (yielded full.toArray a1.tmps)=true:=by unfold Region.wanted;rw [hg]
 unfold wpListIn
 rw [if_pos hw]
 refine ⟨fun _ _=>trivial,?_⟩
 have cp:(o.semAt Fence.wide.round a1.eval).run P w1= .ok (.round l fn tmps x bd) w1:=by
  rw [Oper.semAt_eq _ _ _ (by intro c e;rw [ho] at e;cases e)]
  have e:xs.map a1.eval=(xs.toList.map a1.eval).toArray:=by apply Array.ext';simp
  unfold execOp
  simp [ho,resolve,hy,Deferred.ofValue,invoke]
  rw [e];simpa using hr
 rw [cp]
 refine ⟨fun h=>by simp [Fence.wide] at h,RoundIn.mono pe fun e w2 ⟨t,he,ht⟩=>?_⟩
 subst he
 rw [hd]
 exact list_round (ro:=none) hQ l2 h2 _ _ ht
theorem It.yield {A:Nat->List AV} {N:Nat} {J:Nat->(Nat->Prop)->(Nat->Prop)->World->Prop} {X:(Nat->Prop)->(Nat->Prop)->World->Prop} {l i d:Nat} {xs:List Operand} {s1:AS} (hJ:∀i,jT (J i)) (hX:jT X) (hd:d<n)
  (hy:∀i,i<N-> ∀(O K:Nat->Prop) (w1:World) (vs:List Value),J i O K w1->(∀b,O b->K b)->(∀b,K b->b<w1.heap.size)->vs.length=(A i).length->(∀(j:Nat) v x,vs[j]?=some v->(A i)[j]?=some x->cz K w1 v x) ->
   ow P l vs w1 fun t w2=>Good w2∧w1.heap.size≤w2.heap.size∧(∀b,K b->w2.heap[b]?=w1.heap[b]?)∧(t=true->J (i+1) O K w2)∧(t=false->X O K w2))
  (h:It n (J i) s a w) (hi:i<N) (Ib:gb s ((xs.map (bp s)).flatMap p9)=some s1) (xS:ly (xs.map (bp s1))=true) (hA:xs.map (bp s1)=A i) (T:Bool->World->Prop)
  (h1:∀w2,It n (J (i+1)) (lp s d (ao true)) (a.put (some d) (.bool true)) w2->T true w2) (h2:∀w2,It n X (lp s d (ao false)) (a.put (some d) (.bool false)) w2->T false w2) :
  ow P l (xs.map a.eval) w T:=by
 obtain ⟨wb,Z,φ,ms,k1,k2,k3,k4,k5⟩:=h
 obtain ⟨iH,gU⟩:=fL _ _ _ _ Ib k1
 have own:∀id g,φ id=some g->Z.S g∧g<w.heap.size:=fun id g hg=>⟨k1.new g (k1.cW id g hg).1.2,(k1.cW id g hg).2⟩
 have pe:=hy i hi (fun b=>lJ φ b∨b∈ms) (fun b=>(Z.S b∨b∈ms)∧b<w.heap.size) w (xs.map a.eval) k5 (fun b hb=>hb.elim (fun ⟨id,hid⟩=>⟨.inl (own id b hid).1,(own id b hid).2⟩) fun hb=>⟨.inr hb,(k4 b hb).1⟩) (fun b hb=>hb.2) (by rw [←hA];simp)
  (fun j v x hv hx=>(ml gU xS j v x hv (by rw [hA];exact hx)).mono fun b hb=>⟨⟨.inl hb.2.2.2,hb.1⟩,rfl⟩)
 obtain ⟨fn,tmps,x,bd,hr,vq⟩:=pe
 refine ⟨fn,tmps,x,bd,hr,RoundIn.mono vq fun e w2 ⟨t,he,R6,dw,hk,ht,hf⟩=>⟨t,he,?_⟩⟩
 let Z2:bm:=⟨fun b=>(Z.S b∧b<w.heap.size)∨w2.heap.size≤b,lJ φ,φ,Z.si⟩
 have mX:aL Z2 w2 n [] s a w2 φ:=k1.qQ dw (fun b hb dh=>hk b ⟨.inl hb,dh⟩) (fun b hb dh=>.inl ⟨hb,dh⟩) (fun b hb=>hb.elim .inr fun ⟨id,hid⟩=>.inl (own id b hid)) (fun id g hg=>⟨id,hg⟩) (fun id g hg=>.inr hg) rfl k1.jS R6 (fun b hb=>k1.sE hb)
 have hK:∀b,((Z2.S b∨b∈ms)∧b<w2.heap.size)->((Z.S b∨b∈ms)∧b<w.heap.size)∨w2.heap.size≤b:=fun b ⟨hb,dh⟩=>by
  rcases hb with (hb|hb)|hb
  ·exact .inl ⟨.inl hb.1,hb.2⟩
  ·exact .inr hb
  ·exact .inl ⟨.inr hb,(k4 b hb).1⟩
 have hm:∀r∈ms,r<w2.heap.size∧w2.heap[r]?=some (.deferred (some []))∧ ¬Z2.S r:=fun r hr=>by
  obtain ⟨u1,u2,u3⟩:=k4 r hr
  refine ⟨ah,(hk r ⟨.inr hr,u1⟩).trans u2,fun h=>?_⟩
  rcases h with h|h
  ·exact u3 h.1
  ·omega
 have dP:JO (fun b=>lJ φ b∨b∈ms) w2 w2:=⟨rfl,rfl,rfl,Nat.le_refl _,fun _ _ _=>rfl⟩
 cases t with
 | true=>exact h1 w2 ⟨w2,Z2,φ,ms,mX.put hd (.rep (.val _)),k2,k3,hm,hJ (i+1) _ _ _ _ _ _ (ht rfl) dP (fun b hb=>.inl hb) hK⟩
 | false=>exact h2 w2 ⟨w2,Z2,φ,ms,mX.put hd (.rep (.val _)),k2,k3,hm,hX _ _ _ _ _ _ (hf rfl) dP (fun b hb=>.inl hb) hK⟩
end
theorem w7.pV {P:Program} {f:FuncId} {fn:Func} {c:Code} {lF:List AV} {A:Nat->List AV} {N n:Nat} (hf:P.funcs[f]?=some fn) (hb:fn.body=some c) (hn:fn.ntmps=n) (Ig:fn.results= #[]) (TL:lF.length+1≤n)
  (h:∀(l:Nat) (J:Nat->(Nat->Prop)->(Nat->Prop)->World->Prop) (X:(Nat->Prop)->(Nat->Prop)->World->Prop),(∀i,jT (J i))->jT X ->
   (∀i,i<N-> ∀(O K:Nat->Prop) (w1:World) (vs:List Value),J i O K w1->(∀b,O b->K b)->(∀b,K b->b<w1.heap.size)->vs.length=(A i).length->(∀(j:Nat) v x,vs[j]?=some v->(A i)[j]?=some x->cz K w1 v x) ->
    ow P l vs w1 fun t w2=>Good w2∧w1.heap.size≤w2.heap.size∧(∀b,K b->w2.heap[b]?=w1.heap[b]?)∧(t=true->J (i+1) O K w2)∧(t=false->X O K w2)) ->
   ∀(a:Act) (w:World),It n (J 0) ⟨kV 0 (AV.val (.func (.yield l) #[] #[])::lF),[]⟩ a w->c.wp P (fun e a' w'=>(e= .normal∨e= .ret)∧ ∃s',It n (J N) s' a' w'∨It n X s' a' w') a w):w7 P f lF A N:=by
 intro l w S cv J X jZ hS gl U_ hJ hX hy h0
 refine callsIn_wide.1 (callsIn_of_wp_marks (F:=Fence.wide) (n:=0) hf hb trivial ?_)
 have iC:∀(j:Nat) v x,(Value.func (.yield l) #[] #[]::cv)[j]?=some v->(AV.val (.func (.yield l) #[] #[])::lF)[j]?=some x->cz S w v x:=by
  intro j v x hv hx
  cases j with
  | zero=>simp at hv hx;subst hv;subst hx;exact .val _
  | succ j=>exact U_ j v x (by simpa using hv) (by simpa using hx)
 let Z:bm:=⟨fun b=>S b∨w.heap.size≤b,fun _=>False,fun _=>none,[]⟩
 have Me:aL Z w n [] ⟨kV 0 (AV.val (.func (.yield l) #[] #[])::lF),[]⟩ {tmps:=(Value.func (.yield l) #[] #[]::cv).toArray++Array.replicate (fn.ntmps-(Value.func (.yield l) #[] #[]::cv).toArray.size) undef,defers:=[]} w (fun _=>none):=by
  refine ⟨by simp;omega,rfl,⟨rfl,rfl,rfl,Nat.le_refl _,fun _ _ _=>rfl,jZ,fun _ _ h=>h⟩,fun i av hi=>?_,fun id r hr=>(by cases hr),fun _ _=>rfl,fun _ _ _ h=>(by cases h),fun _ _ h=>(by cases h),fun _ _ h=>(by cases h),fun b hb=>Or.inr (hb.elim id fun h=>h.elim)⟩
  obtain ⟨k,rfl,hk⟩:=mw _ 0 i av hi
  generalize Es:(Value.func (.yield l) #[] #[]::cv)=vs at *
  have Ot:vs.length=lF.length+1:=by rw [←Es];simp [gl]
  have iG:k<vs.length:=by have:=(List.getElem?_eq_some_iff.1 hk).1;simp at this;omega
  have hv:vs[k]?=some vs[k]:=List.getElem?_eq_getElem iG
  have e:(vs.toArray++Array.replicate (fn.ntmps-vs.toArray.size) undef).getD (0+k) undef=vs[k]:=by
   rw [Nat.zero_add,Array.getD_eq_getD_getElem?,Array.getElem?_append_left (by simpa using iG)]
   simp [iG]
  simp only [e]
  exact .rep ((iC k vs[k] av hv hk).mono fun b hb=>⟨⟨hS b hb,by simp,fun _ h=>(by cases h),Or.inl hb⟩,rfl⟩)
 have hit:It n (J 0) ⟨kV 0 (AV.val (.func (.yield l) #[] #[])::lF),[]⟩ {tmps:=(Value.func (.yield l) #[] #[]::cv).toArray++Array.replicate (fn.ntmps-(Value.func (.yield l) #[] #[]::cv).toArray.size) undef,defers:=[]} w :=
  ⟨w,Z,fun _=>none,[],Me,rfl,List.nodup_nil,fun _ h=>(by cases h),hJ 0 _ _ _ _ _ _ h0 ⟨rfl,rfl,rfl,Nat.le_refl _,fun _ _ _=>rfl⟩ (fun b hb=>hb.elim (fun ⟨_,h⟩=>(by cases h)) fun h=>(by cases h)) fun b ⟨hb,dh⟩=>hb.elim (fun hb=>hb) fun h=>(by cases h)⟩
 refine wpIn_wide.2 (wp_mono (h l J X hJ hX hy _ w hit) fun e a' w' ⟨he,s',s5⟩=>?_)
 have fin:∀(J':(Nat->Prop)->(Nat->Prop)->World->Prop),jT J'->(∀O K fp,J' O K fp-> ∃O K,J N O K fp∨X O K fp)->It n J' s' a' w'->LeavesInM Fence.wide 0 P fn a'.tmps (fun e w'=>∃v O K,e= .returned v∧(J N O K w'∨X O K w')) a'.defers .returning w':=by
  intro J' Nv J1 ⟨wb,Z1,φ,ms,k1,k2,k3,k4,k5⟩
  have Np:a'.defers=ms.map mark:=by rw [k1.jS,k2]
  rw [Np]
  refine mA ms w' k3 (fun r hr=>(k4 r hr).2.1) (fun fp h1 h2 h3 h4 h5=>?_)
  obtain ⟨O,K,s5⟩:=J1 _ _ _ (Nv (fun b=>lJ φ b∨b∈ms) _ w' (fun b=>lJ φ b∨b∈ms) (fun b=>(Z1.S b∨b∈ms)∧b<w'.heap.size) fp k5 ⟨h1,h2,h3,ah,fun b hb hn=>h5 b fun hm=>hn (.inr hm)⟩ (fun b hb=>.inl hb) fun b hb=>.inl hb)
  exact ⟨.tuple #[],by simp [results,Ig],.tuple #[],O,K,rfl,s5⟩
 have SH:LeavesInM Fence.wide 0 P fn a'.tmps (fun e w'=>∃v O K,e= .returned v∧(J N O K w'∨X O K w')) a'.defers .returning w':=by
  rcases s5 with s5|s5
  ·exact fin _ (hJ N) (fun O K fp h=>⟨O,K,.inl h⟩) s5
  ·exact fin _ hX (fun O K fp h=>⟨O,K,.inr h⟩) s5
 rcases he with rfl|rfl<;>exact SH
theorem bS.Lz {s:AS} (id j new e:Nat) {r:Row} (hr:look s.H id=some r) (hp:r.pure=false) (hj:r.cells[j]?=some .nil) (hn:look s.H new=none):bS s ⟨s.F,(new,⟨e,true,false,[]⟩)::(id,⟨r.e,false,r.full,r.cells.set j (.ref new)⟩)::cS s.H id⟩:=by
 intro S0 w0 n a w ⟨φ,hs⟩
 have cV:id≠new:=fun h=>by rw [h,hn] at hr;cases hr
 have cm:φ new=none:=hs.only new hn
 have lB:∀i,look ((new,(⟨e,true,false,[]⟩:Row))::(id,(⟨r.e,false,r.full,r.cells.set j (.ref new)⟩:Row))::cS s.H id) i=if new=i then some ⟨e,true,false,[]⟩ else if id=i then some ⟨r.e,false,r.full,r.cells.set j (.ref new)⟩ else look s.H i:=by
  intro i
  rw [aE,aE,bI]
  by_cases e1:new=i<;>by_cases e2:id=i<;>simp [e1,e2]
 have hI:∀i x,az s.H φ i=some x->az ((new,(⟨e,true,false,[]⟩:Row))::(id,(⟨r.e,false,r.full,r.cells.set j (.ref new)⟩:Row))::cS s.H id) φ i=some x:=by
  intro i x hx
  unfold az at hx ⊢
  rw [lB]
  by_cases e1:new=i
  ·subst e1;rw [hn] at hx;cases hx
  ·rw [if_neg e1]
   by_cases e2:id=i
   ·subst e2;rw [if_pos rfl];rw [hr] at hx;simpa using hx
   ·rw [if_neg e2];exact hx
 have lY:az ((new,(⟨e,true,false,[]⟩:Row))::(id,(⟨r.e,false,r.full,r.cells.set j (.ref new)⟩:Row))::cS s.H id) φ new=some (e,0,none):=by
  unfold az;rw [lB,if_pos rfl,cm];rfl
 have mono:∀v x,Den (az s.H φ) (aN S0 w φ []) w v x->Den (az ((new,(⟨e,true,false,[]⟩:Row))::(id,(⟨r.e,false,r.full,r.cells.set j (.ref new)⟩:Row))::cS s.H id) φ) (aN S0 w φ []) w v x:=fun v x h=>h.mono hI (fun b hb=>⟨hb,rfl⟩) (fun _ _ _ _ _=>rfl)
 refine ⟨φ,hs.jP,hs.jS,hs.cX,fun i av hi=>mono _ _ (hs.cC i av hi),fun i q hq=>?_,fun i hi=>?_,hs.inj,hs.cW,hs.apart,hs.new⟩
 ·simp only [lB] at hq
  by_cases e1:new=i
  ·subst e1
   rw [if_pos rfl] at hq;injection hq with hq;subst hq
   unfold bN;rw [cm]
  ·rw [if_neg e1] at hq
   by_cases e2:id=i
   ·subst e2
    rw [if_pos rfl] at hq;injection hq with hq;subst hq
    have aP:=hs.rows id r hr
    unfold bN at aP ⊢
    cases hg:φ id with
    | none=>rw [hg] at aP;simp only at aP;rw [aP] at hj;cases hj
    | some g =>
     rw [hg] at aP
     obtain ⟨cur,te,fr,u1,u2,u3,u4,u5⟩:=aP
     refine ⟨cur,te,fr,u1,u2,by simpa using u3,fun h=>by simpa using u4 h,fun k u x hu hx=>?_⟩
     unfold bg
     simp only at hx ⊢
     rw [List.getElem?_set] at hx
     by_cases hk:j=k
     ·subst hk
      have dh:j<r.cells.length:=(List.getElem?_eq_some_iff.1 hj).1
      simp [dh] at hx
      subst hx
      have:=u5 j u .nil hu hj
      unfold bg at this
      rw [hp] at this
      rw [tf this]
      exact .cD new e lY
     ·rw [if_neg hk] at hx
      have:=u5 k u x hu hx
      unfold bg at this
      rw [hp] at this
      exact mono u x this
   ·rw [if_neg e2] at hq
    have aP:=hs.rows i q hq
    unfold bN at aP ⊢
    cases hg:φ i with
    | none=>rw [hg] at aP;exact aP
    | some g =>
     rw [hg] at aP
     obtain ⟨cur,te,fr,u1,u2,u3,u4,u5⟩:=aP
     refine ⟨cur,te,fr,u1,u2,u3,u4,fun k u x hu hx=>?_⟩
     have:=u5 k u x hu hx
     unfold bg at this ⊢
     cases Ii:q.pure with
     | true=>rw [Ii] at this;exact this
     | false=>rw [Ii] at this;exact mono u x this
 ·simp only [lB] at hi
  by_cases e1:new=i
  ·rw [if_pos e1] at hi;cases hi
  ·rw [if_neg e1] at hi
   by_cases e2:id=i
   ·rw [if_pos e2] at hi;cases hi
   ·rw [if_neg e2] at hi;exact hs.only i hi
theorem vg:jC []:=fun id r h=>by cases h
theorem er {id:Nat} {r:Row} {H:List (Nat×Row)} (h1:∀x∈r.cells,mJ x=true) (h2:jC H):jC ((id,r)::H):=by
 intro i q hq j x hx
 rw [aE] at hq
 by_cases e:id=i
 ·rw [if_pos e] at hq;injection hq with hq;subst hq;exact h1 x (List.mem_of_getElem? hx)
 ·rw [if_neg e] at hq;exact h2 i q hq j x hx
theorem iE {l:List AV} (h:l.all mJ=true):∀x∈l,mJ x=true:=fun x hx=>List.all_eq_true.1 h x hx
theorem qs (l:List UInt64):∀x∈aj l,mJ x=true:=by
 intro x hx;simp only [aj,List.mem_map] at hx;obtain ⟨c,_,rfl⟩:=hx;rfl
def KQ:Code->Bool
 | .rangeFunc _ _ _ _=>true
 | _=>false
def Uf:Code->Operand
 | .rangeFunc g _ _ _=>g
 | _=>.tmp 0
def Rb:Code->Array Tmp
 | .rangeFunc _ ps _ _=>ps
 | _=> #[]
def S7:Code->Code
 | .rangeFunc _ _ x _=>x
 | c=>c
def S8:Code->Code
 | .rangeFunc _ _ _ b=>b
 | c=>c
theorem bf.ML {P:Program} {n:Nat} {c:Code} {Q:Exit->AS->Prop} {s:AS} (hc:KQ c=true) {f:Nat} {lF:List AV} (A:Nat->List AV) (N:Nat) (hit:w7 P f lF A N) (hE:ib P f=true) (K8:kU (S7 c)=true) (P6:kU (S8 c)=true)
  (ρ :List (Nat×Nat)) (MV :nt ρ =true) (xs:List AV) (F:List (Nat×AV)) (I:List Value->Nat->List (Nat×Row)) (sN:AS)
  (hw:∀Z w0 a w φ,aL Z w0 n [] (KB ρ s) a w φ-> ∃ j6 vs,vs.length=xs.length∧aL Z w0 n [] ⟨F,I vs 0⟩ a w j6∧ ∀p∈vs.zip xs,cz (aN Z w j6 []) w p.1 p.2) (hg:∀vs,vs.length=xs.length->bp ⟨F,I vs 0⟩ (Uf c)= .lI f lF) (PC:∀i,(Rb c).toList.length=(A i).length) (PG:((Rb c).toList.all fun p=>Nat.blt p n)=true)
  (hI:∀vs i,vs.length=xs.length->i≤N->jC (I vs i)∧Cg (I vs i) F=true) (pe:∀vs i,vs.length=xs.length->i<N->bf P n (S7 c) (rL (bf P n (S8 c) (RQ (vs.zip xs) Q ρ F (I vs (i+1)))) (fun _ _=>False)) (Hw (Rb c).toList (A i) ⟨F,I vs i⟩)) (gl:∀vs,vs.length=xs.length->DJ (vs.zip xs) ⟨F,I vs N⟩ sN) (Ng:Q .normal (lk ρ sN)):bf P n c Q s:=by
 cases c with
 | rangeFunc g ps x b=>exact bf.range rfl A N hit hE K8 P6 ρ MV xs F I sN hw hg PC PG hI pe gl Ng
 | _=>cases hc
section
variable {Z:bm} {w0 w:World} {n:Nat} {s:AS} {a:Act} {φ:Nat->Option Nat}
theorem aL.congr {O:List Nat} {F:List (Nat×AV)} {H H':List (Nat×Row)} (h:aL Z w0 n O ⟨F,H⟩ a w φ) (e:∀i,look H' i=look H i):aL Z w0 n O ⟨F,H'⟩ a w φ:=by
 have hI:az H' φ=az H φ:=by funext i;unfold az;rw [e]
 refine ⟨h.jP,h.jS,h.cX,fun i av hi=>?_,fun i q hq=>?_,fun i hi=>?_,h.inj,h.cW,h.apart,h.new⟩
 ·simp only [hI];exact h.cC i av hi
 ·simp only [hI];exact h.rows i q (by rw [←e];exact hq)
 ·exact h.only i (by rw [←e];exact hi)
theorem aL.Hr (h:aL Z w0 n [] s a w φ) (id j:Nat) {r:Row} {y:AV} (hr:look s.H id=some r) (hp:r.pure=false)
  (hy:∀g cur te fr u x,φ id=some g->w.heap[g]?=some (.cells cur te fr)->cur[j]?=some u->r.cells[j]?=some x->Den (az s.H φ) (aN Z w φ []) w u x->Den (az s.H φ) (aN Z w φ []) w u y):aL Z w0 n [] ⟨s.F,(id,⟨r.e,false,r.full,r.cells.set j y⟩)::cS s.H id⟩ a w φ:=by
 have lB:∀i,look ((id,(⟨r.e,false,r.full,r.cells.set j y⟩:Row))::cS s.H id) i=if id=i then some ⟨r.e,false,r.full,r.cells.set j y⟩ else look s.H i:=by
  intro i
  rw [aE,bI]
  by_cases e:id=i<;>simp [e]
 have hI:az ((id,(⟨r.e,false,r.full,r.cells.set j y⟩:Row))::cS s.H id) φ=az s.H φ:=by
  funext i
  unfold az
  rw [lB]
  by_cases e:id=i
  ·subst e;rw [if_pos rfl,hr];simp
  ·rw [if_neg e]
 refine ⟨h.jP,h.jS,h.cX,fun i av hi=>?_,fun i q hq=>?_,fun i hi=>?_,h.inj,h.cW,h.apart,h.new⟩
 ·simp only [hI];exact h.cC i av hi
 ·simp only [hI]
  simp only [lB] at hq
  by_cases e:id=i
  ·subst e
   rw [if_pos rfl] at hq;injection hq with hq;subst hq
   have aP:=h.rows id _ hr
   unfold bN at aP ⊢
   cases cm:φ id with
   | none=>rw [cm] at aP;simp only at aP ⊢;rw [aP];rfl
   | some g =>
    rw [cm] at aP
    obtain ⟨cur,te,fr,hg,hf,hl,mS,hc⟩:=aP
    refine ⟨cur,te,fr,hg,hf,by simpa using hl,fun h=>by simpa using mS h,fun k u x hu hx=>?_⟩
    unfold bg
    simp only at hx ⊢
    rw [List.getElem?_set] at hx
    by_cases hk:j=k
    ·subst hk
     rw [if_pos rfl] at hx
     split at hx
     ·rename_i dh
      injection hx with hx;subst hx
      have H7:r.cells[j]?=some r.cells[j]:=List.getElem?_eq_getElem dh
      have:=hc j u _ hu H7
      unfold bg at this;rw [hp] at this
      exact hy g cur te fr u _ cm hg hu H7 this
     ·cases hx
    ·rw [if_neg hk] at hx
     have:=hc k u x hu hx
     unfold bg at this;rw [hp] at this
     exact this
  ·rw [if_neg e] at hq;exact h.rows i q hq
 ·simp only [lB] at hi
  by_cases e:id=i
  ·rw [if_pos e] at hi;cases hi
  ·rw [if_neg e] at hi;exact h.only i hi
theorem aL.open_ (h:aL Z w0 n [] s a w φ) (id j:Nat) {r:Row} {x:AV} (hr:look s.H id=some r) (hp:r.pure=false) (hj:r.cells[j]?=some x) (hx:ic x=true):∃v,aL Z w0 n [] ⟨s.F,(id,⟨r.e,false,r.full,r.cells.set j (.val v)⟩)::cS s.H id⟩ a w φ∧cz (aN Z w φ []) w v x:=by
 have aP:=h.rows id _ hr
 unfold bN at aP
 cases cm:φ id with
 | none=>rw [cm] at aP;simp only at aP;rw [aP] at hj;cases hj
 | some g =>
  rw [cm] at aP
  obtain ⟨cur,te,fr,hg,hf,hl,mS,hc⟩:=aP
  have dh:j<cur.size:=by have:=(List.getElem?_eq_some_iff.1 hj).1;omega
  have hu:cur[j]?=some cur[j]:=Array.getElem?_eq_getElem dh
  have hd:=hc j _ _ hu hj
  unfold bg at hd;rw [hp] at hd
  refine ⟨cur[j],h.Hr id j hr hp fun g' cur' Ua Q0 u x' h1 h2 h3 h4 h5=>?_,(eH hd hx).1⟩
  rw [cm] at h1;injection h1 with h1;subst h1
  rw [hg] at h2;injection h2 with h2;injection h2 with h2;subst h2
  rw [hu] at h3;injection h3 with h3;subst h3
  exact .rep (.val _)
theorem aL.close_ (h:aL Z w0 n [] s a w φ) (id j:Nat) {r:Row} {x:AV} {v:Value} (hr:look s.H id=some r) (hp:r.pure=false) (hj:r.cells[j]?=some (.val v)) (hx:cz (aN Z w φ []) w v x):aL Z w0 n [] ⟨s.F,(id,⟨r.e,false,r.full,r.cells.set j x⟩)::cS s.H id⟩ a w φ:=by
 refine h.Hr id j hr hp fun g cur te fr u x' _ _ _ h4 h5=>?_
 rw [hj] at h4;injection h4 with h4;subst h4
 rw [bL h5]
 exact .rep hx
end
theorem bf.Q2 {P:Program} {n:Nat} {c:Code} {Q:Exit->AS->Prop} {s:AS} (s':AS) (h:s=s') (h2:bf P n c Q s'):bf P n c Q s:=h ▸ h2
end Go.Proofs.YtjgbhhnghedgdaaGreatDoor
