import Derived.Test.YtjgbhhnghedgdaaGreatDoorZfV8
set_option linter.all false
namespace Go.Proofs.YtjgbhhnghedgdaaGreatDoor
open Go.RowKit
section
variable {P:Program} {ops:Array Oper} {Q:Exit->Act->World->Prop} {a:Act} {w:World}
theorem AQ {γ :Type} {n T:Nat} (hT:T<ops.size) (Lh:Region.sinkB .any ops T=true) (tN:Region.chainB .any ops T=true) (Q0:Region.seqB .any ops (ops.size-T) T ((List.range ops.size).map (decide<| · <T)).toArray=true) (dB:a.tmps.size=n) (hB:lZ ops n=true) (F: γ ->Nat->Value->World->Prop) (J: γ ->World->Prop) (St:Nat-> γ ->World-> γ ->World->Prop) (mono:∀i k v g g' w1 w2,i≠k->Below w1.heap.size w1 w2->St i g w1 g' w2->F g k v w1->F g' k v w2)
  (wV:∀k o,k<T->ops[k]?=some o-> ∀g a' w',Below w.heap.size w w'->J g w'->a'.tmps.size=a.tmps.size->(∀d∈bh o,F g d (sU ops a' d) w'∨(∃p,ops[d]?=some p∧p.dst=none))->(∀s,(∀(j:Nat) (p:Oper),j<T->ops[j]?=some p->p.dst≠some s)->a'.eval (.tmp s)=a.eval (.tmp s))->ib P ops Q o a' w' (fun v fL=>∃g',St k g w' g' fL∧J g' fL∧F g' k v fL))
  (kv:∀(vs:Nat->Value) (g: γ),∀w',Below w.heap.size w w'->J g w'->(∀k,k<T->F g k (vs k) w')->wpList P ops Q (ops.toList.drop T) (eZ (ops.toList.zipIdx.take T) vs a) w') :
  ∀(fuel:Nat) (listed:Array Bool) (a':Act) (w':World) (g: γ),Inv ops (F g) a w listed a' w'->J g w'->(∀j,T≤j->listed.getD j false=false) ->
   (listed.toList.filter (· == false)).length=fuel->wpAny P .any ops Q fuel listed a' w':=by
 obtain ⟨cZ,iF,wW⟩:=gp hB
 have kQ:∀(listed:Array Bool) (a':Act) (w':World) (g: γ),Inv ops (F g) a w listed a' w'-> ∀k,k<T->listed.getD k false=false-> ∃i,i<T∧i∈Region.ready .any ops listed:=by
  intro listed a' w' g I k
  induction k using Nat.strongRecOn with
  | _ k ih =>
   intro hk hl
   have gV:k<listed.size:=by rw [I.size];omega
   have tM:k<ops.size:=ag
   have o9:ops[k]?=some ops[k]:=Array.getElem?_eq_getElem tM
   by_cases gH:∀d∈bh ops[k],listed.getD d false=true
   ·refine ⟨k,hk,?_⟩
    rw [mem_ready]
    refine ⟨?_,ops[k],o9,fun e he hb=>gH e.on ?_⟩
    ·simp [gV] at hl ⊢;exact hl
    ·unfold bh
     exact List.mem_map.2 ⟨e,List.mem_filter.2 ⟨by simpa using he,hb⟩,rfl⟩
   ·have:∃d,d∈bh ops[k]∧listed.getD d false=false:=by
     refine Classical.byContradiction fun fO=>gH fun d hd=>?_
     cases hx:listed.getD d false with
     | true=>rfl
     | false=>exact absurd ⟨d,hd,hx⟩ fO
    obtain ⟨d,hd,hx⟩:=this
    exact ih d (cZ k _ o9 d hd) (by have:=cZ k _ o9 d hd;omega) hx
 have done:∀(listed:Array Bool) (a':Act) (w':World) (g: γ),Inv ops (F g) a w listed a' w'->J g w'->(∀k,k<T->listed.getD k false=true)->(∀j,T≤j->listed.getD j false=false)->wpList P ops Q (ops.toList.drop T) a' w':=by
  intro listed a' w' g I hJ all tail
  have hv:∀k,∃v,k<T->(F g k v w'∧ ∀o s,ops[k]?=some o->o.dst=some s->a'.tmps[s]?=some v):=by
   intro k
   by_cases hk:k<T
   ·have tM:k<ops.size:=ag
    have o9:ops[k]?=some ops[k]:=Array.getElem?_eq_getElem tM
    cases hd:ops[k].dst with
    | none =>
     obtain ⟨v,hv⟩:=I.Fx k _ (all k hk) o9 hd
     exact ⟨v,fun _=>⟨hv,fun o s ho hs=>by rw [o9] at ho;injection ho with ho;subst ho;rw [hd] at hs;cases hs⟩⟩
    | some s =>
     obtain ⟨v,hv,hF⟩:=I.val k _ s (all k hk) o9 hd
     exact ⟨v,fun _=>⟨hF,fun o s' ho hs=>by rw [o9] at ho;injection ho with ho;subst ho;rw [hd] at hs;injection hs with hs;subst hs;exact hv⟩⟩
   ·exact ⟨undef,fun h=>absurd h hk⟩
  obtain ⟨vs,FL⟩:=Classical.axiomOfChoice hv
  have ob:∀p:Oper×Nat,p∈ops.toList.zipIdx.take T↔(p.2<T∧ops[p.2]?=some p.1):=by
   intro p
   rw [List.mem_iff_getElem?]
   constructor
   ·rintro ⟨x,hx⟩
    rw [List.getElem?_take] at hx
    split at hx
    ·rename_i BT
     rw [List.getElem?_zipIdx] at hx
     cases ho:ops.toList[x]? with
     | none=>rw [ho] at hx;simp at hx
     | some q =>
      rw [ho] at hx
      simp at hx
      subst hx
      exact ⟨by simpa using BT,by simpa using ho⟩
    ·cases hx
   ·rintro ⟨h1,h2⟩
    refine ⟨p.2,?_⟩
    rw [List.getElem?_take,if_pos h1,List.getElem?_zipIdx]
    have Qi:ops.toList[p.2]?=some p.1:=by simpa using h2
    rw [Qi];simp
  have jZ:=jV vs (ops.toList.zipIdx.take T) a (by
   have h1:(ops.toList.zipIdx.take T).filterMap (·.1.dst)=(ops.toList.take T).filterMap (·.dst):=by
    conv=>rhs;rw [←List.zipIdx_map_fst 0 ops.toList,←List.map_take]
    rw [List.filterMap_map];rfl
   rw [h1]
   exact List.Nodup.sublist ((List.take_sublist T ops.toList).filterMap _) iF)
  have he:a'=eZ (ops.toList.zipIdx.take T) vs a:=by
   have ht:a'.tmps=(eZ (ops.toList.zipIdx.take T) vs a).tmps:=by
    apply Array.ext_getElem?
    intro s
    by_cases hs:∃(k:Nat) (o:Oper),k<T∧ops[k]?=some o∧o.dst=some s
    ·obtain ⟨k,o,hk,ho,hd⟩:=hs
     rw [(FL k hk).2 o s ho hd]
     exact (jZ.2.2.1 (o,k) ((ob _).2 ⟨hk,ho⟩) s hd (by rw [dB];exact wW k o s ho hd)).symm
    ·rw [I.old s fun k o hl ho hd=>hs ⟨k,o,(Classical.byContradiction fun hk=>(by have:=tail k (Nat.le_of_not_lt hk);rw [this] at hl;cases hl)),ho,hd⟩]
     exact (jZ.2.2.2 s fun p hp hd=>hs ⟨p.2,p.1,((ob p).1 hp).1,((ob p).1 hp).2,hd⟩).symm
   have hd:a'.defers=(eZ (ops.toList.zipIdx.take T) vs a).defers:=I.tX.trans jZ.2.1.symm
   cases a';cases h:eZ (ops.toList.zipIdx.take T) vs a
   rw [h] at ht hd
   simp only at ht hd
   rw [ht,hd]
  rw [he]
  exact kv vs g w' I.grown hJ (fun k hk=>(FL k hk).1)
 have rest:∀(fuel:Nat) (listed:Array Bool) (a':Act) (w':World) (g: γ),Inv ops (F g) a w listed a' w'->J g w'->(∀j,T≤j->listed.getD j false=false)->(listed.toList.filter (· == false)).length=fuel->(∀k,k<T->listed.getD k false=true)->wpAny P .any ops Q fuel listed a' w':=by
  intro fuel listed a' w' g I hJ tail hc all
  have og:listed=((List.range ops.size).map (decide<| · <T)).toArray:=by
   apply Array.ext_getElem?
   intro x
   by_cases hx:x<ops.size
   ·have HU:x<listed.size:=by rw [I.size];exact hx
    have hr:((List.range ops.size).map (decide<| · <T)).toArray[x]?=some (decide (x<T)):=by simp [hx]
    rw [hr]
    by_cases BT:x<T
    ·have:=all x BT;simp [HU] at this ⊢;rw [this,decide_eq_true BT]
    ·have:=tail x ag;simp [HU] at this ⊢;rw [this,decide_eq_false BT]
   ·rw [Array.getElem?_eq_none (by rw [I.size];omega),Array.getElem?_eq_none (by simp;omega)]
  have hlen:fuel=(ops.toList.drop T).length:=by
   rw [←hc,og]
   simp only [List.length_drop,Array.length_toList,List.filter_map,List.length_map]
   have key:∀n,T≤n->((List.range n).filter ((fun x=>x == false) ∘ (decide<| · <T))).length=n-T:=by
    intro n hn
    induction n with
    | zero=>simp
    | succ n ih =>
     rw [List.range_succ,List.filter_append,List.length_append]
     by_cases Rf:T≤n
     ·rw [ih Rf]
      have:((fun x=>x == false) ∘ (decide<| · <T)) n=true:=by simp;omega
      rw [List.filter_cons_of_pos this];simp;omega
     ·obtain rfl:T=n+1:=ag
      have h1:(List.range n).filter ((fun x=>x == false) ∘ (decide<| · <n+1))= []:=by
       rw [List.filter_eq_nil_iff];intro x hx;have:=List.mem_range.1 hx;simp;omega
      have h2:[n].filter ((fun x=>x == false) ∘ (decide<| · <n+1))= []:=by
       rw [List.filter_eq_nil_iff];intro x hx;simp at hx;subst hx;simp
      rw [h1,h2];simp
   exact key ops.size ag
  rw [hlen]
  refine wpAny_of_seq (ops.toList.drop T) T listed a' w' (fun j=>by rw [List.getElem?_drop];simp) ?_ (done listed a' w' g I hJ all tail)
  rw [og]
  simpa using Q0
 intro fuel
 induction fuel with
 | zero =>
  intro listed a' w' g I hJ tail hc
  refine rest 0 listed a' w' g I hJ tail hc fun k hk=>?_
  cases hx:listed.getD k false with
  | true=>rfl
  | false =>
   exfalso
   have gV:k<listed.size:=by rw [I.size];omega
   have:false∈listed.toList.filter (· == false):=by
    refine List.mem_filter.2 ⟨?_,rfl⟩
    have h1:listed.toList[k]?=some false:=by simp [gV] at hx ⊢;exact hx
    exact List.mem_of_getElem? h1
   have:=List.length_pos_of_mem this
   omega
 | succ fuel ih =>
  intro listed a' w' g I hJ tail hc
  by_cases hex:∀k,k<T->listed.getD k false=true
  ·exact rest (fuel+1) listed a' w' g I hJ tail hc hex
  have QV:∃k,k<T∧listed.getD k false=false:=by
   refine Classical.byContradiction fun fO=>hex fun k hk=>?_
   cases hx:listed.getD k false with
   | true=>rfl
   | false=>exact absurd ⟨k,hk,hx⟩ fO
  obtain ⟨k0,zy,Jv⟩:=QV
  have RF:HeadInv .any ops T listed:=⟨I.size,fun j oj hj hl e he hb=>I.closed j oj hl hj e.on (by
    unfold bh
    exact List.mem_map.2 ⟨e,List.mem_filter.2 ⟨by simpa using he,hb⟩,rfl⟩),fun t ht QZ=>getD_in (by rw [I.size];exact QZ) (tail t ht)⟩
  have JU:listed.getD k0 true=false:=getD_in (by rw [I.size];omega) Jv
  refine ⟨fun hr=>(by
   obtain ⟨i,_,hi⟩:=kQ listed a' w' g I k0 zy Jv
   rw [hr] at hi;cases hi),fun i hi=>?_⟩
  have Ro:i<T:=Classical.byContradiction fun h=>tail_waits Lh tN hT RF _ k0 rfl zy JU i ag hi
  obtain ⟨h0,o,ho,gH⟩:=mem_ready.1 hi
  have JV:i<listed.size:=by rw [I.size];exact (Array.getElem?_eq_some_iff.1 ho).1
  have Qj:listed.getD i false=false:=by simp [JV] at h0 ⊢;exact h0
  have jo:∀d∈bh o,listed.getD d false=true:=by
   intro d hd
   unfold bh at hd
   obtain ⟨e,he,rfl⟩:=List.mem_map.1 hd
   obtain ⟨Ny,Mp⟩:=List.mem_filter.1 he
   exact gH e (by simpa using Ny) Mp
  have next:∀v fL g',Below w'.heap.size w' fL->St i g w' g' fL->F g' i v fL->Inv ops (F g') a w (listed.setIfInBounds i true) (a'.put o.dst v) fL:=by
   intro v fL g' hb dC hF
   have lists:∀k,(listed.setIfInBounds i true).getD k false=true->k=i∨listed.getD k false=true:=by
    intro k hk
    by_cases tL:i=k
    ·exact .inl tL.symm
    ·right;rw [getD_set_ne false tL] at hk;exact hk
   have diff:∀k,listed.getD k false=true->i≠k:=fun k hk e=>by subst e;rw [Qj] at hk;cases hk
   refine ⟨I.grown.ql hb,by simpa using I.size,?_,(qy ..).trans I.A4,(put_defers ..).trans I.tX,?_,?_,?_⟩
   ·intro k p hk hp d hd
    rcases lists k hk with rfl|hk
    ·rw [ho] at hp;injection hp with hp;subst hp
     exact getD_set_true (jo d hd)
    ·exact getD_set_true (I.closed k p hk hp d hd)
   ·intro k p s hk hp hs
    rcases lists k hk with rfl|hk
    ·rw [ho] at hp;injection hp with hp;subst hp
     refine ⟨v,?_,hF⟩
     rw [hs]
     exact mQ a' s v (by rw [I.A4,dB];exact wW k _ s ho hs)
    ·obtain ⟨u,hu,Ub⟩:=I.val k p s hk hp hs
     refine ⟨u,?_,mono i k u g g' w' fL (diff k hk) hb dC Ub⟩
     rw [iq a' o.dst s v fun he=>?_]
     ·exact hu
     ·have:=oV iF ho hp he hs
      subst this
      rw [Qj] at hk;cases hk
   ·intro k p hk hp hs
    rcases lists k hk with rfl|hk
    ·exact ⟨v,hF⟩
    ·obtain ⟨u,hu⟩:=I.Fx k p hk hp hs
     exact ⟨u,mono i k u g g' w' fL (diff k hk) hb dC hu⟩
   ·intro s hs
    rw [iq a' o.dst s v (hs i o (by simp [JV]) ho)]
    exact I.old s fun k p hk hp=>hs k p (getD_set_true hk) hp
  have n_:∀j,T≤j->(listed.setIfInBounds i true).getD j false=false:=fun j hj=>by rw [getD_set_ne false ag];exact tail j hj
  have oe:((listed.setIfInBounds i true).toList.filter (· == false)).length=fuel:=by
   have Rj:((listed.setIfInBounds i true).toList.filter (· == false)).length+1=(listed.toList.filter (· == false)).length:=by
    rw [Array.toList_setIfInBounds]
    have jw:listed.toList[i]?=some false:=by simp [JV] at h0 ⊢;exact h0
    exact p_ _ i jw
   omega
  have i6:=wV i o Ro ho g a' w' I.grown hJ I.A4 (fun d hd=>by
   have hl:=jo d hd
   cases hp:ops[d]? with
   | none =>
    have ud:d<listed.size:=by
     rcases Nat.lt_or_ge d listed.size with h|h
     ·exact h
     ·simp [Array.getElem?_eq_none h] at hl
    rw [I.size] at ud
    rw [Array.getElem?_eq_getElem ud] at hp;cases hp
   | some p =>
    cases hs:p.dst with
    | none=>exact .inr ⟨p,rfl,hs⟩
    | some s =>
     left
     obtain ⟨u,hu,hF⟩:=I.val d p s hl hp hs
     unfold sU
     rw [hp]
     simp only [Option.bind_some,hs]
     simp [hu];exact hF) (fun s hs=>by
   show a'.tmps.getD s undef=a.tmps.getD s undef
   have:a'.tmps[s]?=a.tmps[s]?:=I.old s fun k p hk hp hd=>by
    have xd:k<T:=Classical.byContradiction fun h=>(by have:=tail k (Nat.le_of_not_lt h);rw [this] at hk;cases hk)
    exact hs k p xd hp hd
   simp [this])
  unfold ib at i6
  unfold wpOp
  rw [ho]
  simp only
  by_cases hw:Region.wanted o (yielded ops a'.tmps)=true
  ·rw [if_pos hw] at i6 ⊢
   left
   exact Oper.wp_mono (fun sP fL ⟨v,he,hb,g',dC,Pb,hF⟩=>by
    subst he
    exact ih _ _ _ _ (next v fL g' hb dC hF) Pb n_ oe) i6
  ·rw [if_neg hw] at i6 ⊢
   obtain ⟨g',dC,Pb,hF⟩:=i6
   exact ih _ _ _ _ (next undef w' g' (Below.refl _ _) dC hF) Pb n_ oe
end
def AF (P:Program) (s:AS) (o:Oper) (x:AV) (C:List Prop):Prop :=
 bw C-> ∀S0 w0 n O a w φ Q (b:Act),aJ S0 w0 n O s a w φ->(∀g∈O,g<w.heap.size)->b.tmps=a.tmps->o.wp P b w (fun b' w'=>∃v,b'=b.put o.dst v∧Below w.heap.size w w'∧Den (az s.H φ) (aO S0 w' φ O) w' v x) Q
section
variable {P:Program} {s:AS} {o:Oper} {h:Hint} {r:AV×List Prop}
theorem tl (hp:dd P s o r.1 r.2):AF P s o r.1 r.2:=by
 intro hC S0 w0 n O a w φ Q b hs _ hb
 obtain ⟨v,bZ,dX⟩:=hp hC S0 w0 n O a w φ hs
 rw [←eU hb] at bZ
 exact cS bZ ⟨v,rfl,Below.refl _ _,dX⟩
theorem k_ {S0:bo} {w0 w w':World} {n:Nat} {O:List Nat} {a:Act} {φ:Nat->Option Nat} (hs:aJ S0 w0 n O s a w φ) (hO:∀g∈O,g<w.heap.size) (hb:Below w.heap.size w w') (b:Nat) (h:aO S0 w φ O b∨(w.heap.size≤b∧b<w'.heap.size)):aO S0 w' φ O b:=by
 rcases h with h|⟨h1,h2⟩
 ·exact ⟨by have:=h.1;have:=hb.size;omega,h.2⟩
 ·exact ⟨h2,fun hm=>by have:=hO b hm;omega,fun i hi=>by have:=(hs.cW i b hi).2;omega,hs.new b (.inl (by have:=hs.cX.size;omega))⟩
theorem FE {S0:bo} {w0 w:World} {n:Nat} {O:List Nat} {a:Act} {φ:Nat->Option Nat} (hs:aJ S0 w0 n O s a w φ) (z:Nat):∀(parts:List (Nat×Operand)) (i:Nat) (cells:List AV) (cur:Array Value),gu s z i parts=some cells->er cells=true->i*z+parts.length*z=cur.size ->
  cells.length=parts.length*z∧ ∃us:Array Value,Instr.fill (fun i=>some (i*z,z)) cur (parts.map fun p=>(p.1,a.eval p.2))=some us∧us.size=cur.size∧(∀j,j<i*z->us[j]?=cur[j]?)∧ ∀(j:Nat) u x,us[i*z+j]?=some u->cells[j]?=some x->cz (aO S0 w φ O) w u x
 | [],i,cells,cur,hc,hp,dB=>by cases hc;exact ⟨by simp,cur,rfl,rfl,fun _ _=>rfl,fun j u x _ hx=>by simp at hx⟩
 | (j,x)::l,i,cells,cur,hc,hp,dB=>by
  simp only [gu] at hc
  split at hc
  ·rename_i c m G_ Mr hm
   split at hc
   ·rename_i Mq
    cases hc
    have G_:=Nat.eq_of_beq_eq_true G_
    have Mq:=Nat.eq_of_beq_eq_true Mq
    subst G_
    obtain ⟨vs,hv,hlen,dX⟩:=mC (hs.bq x) Mr
    have Tp:er m=true:=by
     have key:∀(c m:List AV),er (c++m)=true->er m=true:=by
      intro c
      induction c with
      | nil=>intro m h;exact h
      | cons y c ih =>
       intro m h
       simp only [List.cons_append,er] at h
       split at h
       ·exact ih m h
       ·cases h
     exact key c m hp
    simp only [List.length_cons] at dB
    have Mc:(l.length+1)*z=l.length*z+z:=by rw [Nat.add_mul,Nat.one_mul]
    have dc:(i+1)*z=i*z+z:=by rw [Nat.add_mul,Nat.one_mul]
    have JX:((a.eval x).cells.zipIdx.foldl (fun cs (cj:Value×Nat)=>cs.setIfInBounds (i*z+cj.2) cj.1) cur)=(vs.zipIdx.foldl (fun cs (cj:Value×Nat)=>cs.setIfInBounds (i*z+cj.2) cj.1) cur):=by rw [hv];simp
    obtain ⟨FT,us,G4,Jx,Jw,OE⟩:=FE hs z l (i+1) m (vs.zipIdx.foldl (fun cs (cj:Value×Nat)=>cs.setIfInBounds (i*z+cj.2) cj.1) cur) hm Tp (by rw [jy];omega)
    rw [jy] at Jx
    refine ⟨by rw [List.length_append,List.length_cons,FT,Mq];omega,us,?_,Jx,fun j hj=>?_,fun j u y hu hy=>?_⟩
    ·rw [List.map_cons]
     unfold Instr.fill
     simp only
     have QS:(a.eval x).cells.size=z:=by rw [hv];simp;omega
     rw [if_neg (by rw [QS];simp;omega),JX]
     exact G4
    ·rw [Jw j ag,kI,if_neg ag]
    ·by_cases hj:j<z
     ·rw [Jw _ ag,kI,if_pos ag] at hu
      rw [List.getElem?_append_left ag] at hy
      have Tg:vs[j]?=some u:=by rw [←hu];congr 1;omega
      exact (e_ (dX j u y Tg hy) (iO (l:=c++m) (j:=j) hp (by rw [List.getElem?_append_left ag];exact hy))).1
     ·rw [List.getElem?_append_right ag] at hy
      refine OE (j-z) u y ?_ (by rw [←hy,Mq])
      rw [←hu];congr 1;omega
   ·cases hc
  ·cases hc
theorem vS {c:Callee} {xs:Array Operand} {ts:Array TypeId} {f:FuncId} {args:List AV} {x:AV} {C:List Prop} (ho:o.op= .call ⟨c,xs,ts⟩) (hc:callee s c=some f) (hE:iy P f=true) (oa:bw C->bA P f args x) (hl:args.length=xs.toList.length)
  (hG:bw C-> ∀S0 w0 n O a w φ,aJ S0 w0 n O s a w φ-> ∃S:Nat->Prop,(∀b,S b->b<w.heap.size)∧(∀(j:Nat) v y,(xs.toList.map a.eval)[j]?=some v->args[j]?=some y->cz S w v y)∧ ∀w' v O',tU (fun b=>S b∨(w.heap.size≤b∧b<w'.heap.size∧b ∉ O')) w' v x O'->tU (fun b=>aO S0 w φ O b∨(w.heap.size≤b∧b<w'.heap.size∧b ∉ O')) w' v x O'):AF P s o (Qk x) C:=by
 intro hC S0 w0 n O a w φ Q b hs hO hb
 have bZ:=jC (P:=P) hs hc ho hE
 rw [←eU hb] at bZ
 obtain ⟨S,hS,iS,vL⟩:=hG hC S0 w0 n O a w φ hs
 unfold Oper.wp
 rw [bZ]
 have np:=oa hC w S (xs.toList.map a.eval) hs.cX.m7 hS (by simp [hl]) iS
 have e:(xs.toList.map a.eval).toArray=xs.map b.eval:=by rw [eU hb];apply Array.ext';simp
 rw [e] at np
 refine np.mono ?_
 rintro en w' ⟨v,O',rfl,nG,iF,mZ,hg⟩
 refine ⟨v,rfl,nG,.rep (Kc (fun b hb=>?_) (fun g hg=>?_) (vL w' v O' hg))⟩
 ·exact k_ hs hO nG b (hb.imp id fun h=>⟨h.1,h.2.1⟩)
 ·exact k_ hs hO nG g (.inr (mZ g hg))
theorem wo (hr:sx P s o h=some r):AF P s o r.1 r.2:=by
 unfold sx at hr
 split at hr
 ·rename_i t len parts ho
  split at hr
  ·rename_i el hu
   split at hr
   ·rename_i z zero hz hzero
    split at hr
    ·rename_i cells dS hlen B8 vD
     split at hr
     ·rename_i hp
      cases hr
      intro hC S0 w0 n O a w φ Q b hs hO hb
      have hlen:=Nat.eq_of_beq_eq_true hlen
      have B8:len*(z+1)≤16777216:=Nat.le_of_ble_eq_true B8
      have hn:(named h cells).1=cells:=(ir (C:=[]) (by rw [List.append_nil];exact hC)).1
      obtain ⟨h1,us,h2,h3,-,h4⟩:=FE hs (z+1) parts.toList 0 cells ((Array.range (len*(z+1))).map (zero.cells[· %zero.cells.size]!)) dS hp (by simp [←hlen])
      have hm:len≤maxLen:=by
       have:len≤len*(z+1):=Nat.le_mul_of_pos_right _ ag
       unfold maxLen;omega
      have bZ:(execOp b.eval o).run P w= .ok (.value (.slice (some ⟨w.heap.size,0,none⟩) len len)) {w with heap:=w.heap.push (.cells us el (0,0))}:=by
       have BS:(sizeOf el).run P w= .ok (z+1) w:=run_sizeOf hz
       have pv:(parts.map fun p=>(p.1,a.eval p.2)).toList=parts.toList.map fun p=>(p.1,a.eval p.2):=by simp
       rw [eU hb]
       unfold execOp
       simp only [ho,Instr.buildSlice,Sem.run_bind,run_underlying hu,Result.andThen_ok,BS,Sem.run_ite]
       rw [if_neg ag]
       by_cases h0:len*(z+1)=0
       ·rw [if_pos h0]
        simp only [Sem.run_pure,Result.andThen_ok]
        have:(Array.range (len*(z+1))).map (fun x=>(#[]:Array Value)[x%(#[]:Array Value).size]!)=(Array.range (len*(z+1))).map (fun x=>zero.cells[x%zero.cells.size]!):=by rw [h0,iC,iC]
        rw [this,pv,h2]
        rfl
       ·rw [if_neg h0]
        simp only [i5 hzero,Result.andThen_ok,Sem.run_pure]
        rw [pv,h2]
        rfl
      have nG:Below w.heap.size w {w with heap:=w.heap.push (.cells us el (0,0))}:=⟨rfl,rfl,rfl,by simp,fun k hk=>cG w _ k hk⟩
      have gC:cells.length=(z+1)*len:=by rw [h1,hlen,Nat.mul_comm]
      refine cS bZ ⟨_,rfl,nG,?_⟩
      simp only [hn]
      refine .rep (fv (r:=⟨z+1,true,false,cells⟩) (dR w _) (k_ hs hO nG _ (.inr ⟨Nat.le_refl _,by simp⟩)) cells 0 (by rw [h3,gC];simp [Nat.mul_comm]) gC (Nat.le_refl _) hm _ (fun _=>rfl) (fun j u x hu hx=>?_))
      exact (h4 j u x (by simpa using hu) hx).mono fun b hb=>⟨k_ hs hO nG b (.inl hb),cG w _ b hb.1⟩
     ·cases hr
    ·cases hr
   ·cases hr
  ·cases hr
 ·rename_i t l c ho
  split at hr
  ·rename_i kl L kc C el hl hc hu
   split at hr
   ·rename_i i hi
    split at hr
    ·rename_i zero z hz dB
     split at hr
     ·rename_i hb
      cases hr
      have hb:=Nat.eq_of_beq_eq_true hb
      intro hC S0 w0 n O a w φ Q b hs hO FY
      obtain ⟨Mg,hC⟩:=ir hC
      obtain ⟨h1,h2,h3,h4,h5,-⟩:=hC
      have ND:b.eval l= .int kl L:=by rw [eU FY];exact bF (hl ▸ hs.bq l)
      have ec:b.eval c= .int kc C:=by rw [eU FY];exact bF (hc ▸ hs.bq c)
      obtain ⟨cur,bZ,x8,bt⟩:=run_make ho ND ec hu hi hz dB hb h1 h2 h3 h4 h5 w
      have nG:Below w.heap.size w {w with heap:=w.heap.push (.cells cur el (0,0))}:=⟨rfl,rfl,rfl,by simp,fun k hk=>cG w _ k hk⟩
      have HT:(zero.cells.toList.map bB).length=z+1:=by simp [hb]
      have HX:=uv (zero.cells.toList.map bB) (z+1) HT h.k
      have hle:(z+1)*h.k≤(z+1)*h.m:=Nat.mul_le_mul_left _ h3
      refine cS bZ ⟨_,rfl,nG,?_⟩
      simp only [Mg]
      refine .rep (fv (r:=⟨z+1,true,false,uw (zero.cells.toList.map bB) h.k⟩) (dR w _) (k_ hs hO nG _ (.inr ⟨Nat.le_refl _,by simp⟩)) _ 0 (by rw [HX,x8];omega) HX h3 h5 _ (fun _=>rfl) (fun j u x hu hx=>?_))
      have h6:=yt _ (z+1) HT ag _ _ _ hx
      have h7:=bt j u (by simpa using hu)
      rw [List.getElem?_map] at h6
      have h8:zero.cells.toList[j%(z+1)]?=some u:=by simpa using h7
      rw [h8] at h6;injection h6 with h6;subst h6;exact gk u
     ·cases hr
    ·cases hr
   ·cases hr
  ·cases hr
 ·exact tl (lh hr)
 ·rename_i c xs ts _ ho
  split at hr
  ·rename_i f x hc _
   split at hr
   ·rename_i hE _
    split at hr
    ·rename_i vs C hv vO
     cases hr
     refine vS ho hc hE (fun hC=>hC.1) ?_ fun hC S0 w0 n O a w φ hs=>?_
     ·have key:∀(l:List AV) (m:List AV),j8 s l=some m->m.length=l.length:=by
       intro l
       induction l with
       | nil=>intro m h;cases h;rfl
       | cons y l ih =>
        intro m h
        simp only [j8] at h
        split at h
        ·rename_i y' m' _ hm
         cases h
         simp [ih m' hm]
        ·cases h
      rw [key _ _ hv];simp
     ·exact ⟨fun b=>b<w.heap.size,fun _ h=>h,(ma hs _ _ hv).2,fun w' v _ hg=>uh vO hC.2 hg⟩
    ·cases hr
   ·rename_i hE _
    split at hr
    ·rename_i xb
     cases hr
     refine vS ho hc hE (fun hC=>hC.1) (by simp) fun hC S0 w0 n O a w φ hs=>⟨aO S0 w φ O,fun b hb=>hb.1,fun j v x hv hx=>?_,fun w' v _ hg=>hg⟩
     have OI:=mg xb hx
     rw [List.getElem?_map] at hv hx
     cases hj:xs.toList[j]? with
     | none=>rw [hj] at hv;cases hv
     | some y =>
      rw [hj] at hv hx
      injection hv with hv;injection hx with hx;subst hv;subst hx
      exact oF (hs.bq y) OI
    ·cases hr
   ·cases hr
  ·cases hr
 ·exact tl (lh hr)
end
section
variable {P:Program} {ops:List Oper} {S0:bo} {w0:World} {Q:Exit->Act->World->Prop}
theorem Kw {s:AS} {o:Oper} {h:Hint} {r:AV×List Prop} (hr:tR P ops s o h=some r) (hC:bw r.2) {n:Nat} {O:List Nat} {a b:Act} {w:World} {φ:Nat->Option Nat} (hs:aJ S0 w0 n O s a w φ) (hO:∀g∈O,g<w.heap.size) (hb:b.tmps=a.tmps) :
  ib P ops.toArray Q o b w fun v w'=>w.heap.size≤w'.heap.size∧Den (az s.H φ) (aO S0 w' φ O) w' v r.1:=by
 unfold tR at hr
 unfold ib
 split at hr
 ·rename_i hg
  have hw:Region.wanted o (yielded ops.toArray b.tmps)=true:=by unfold Region.wanted;rw [hg]
  rw [if_pos hw]
  exact Oper.wp_mono (fun b' w' ⟨v,h1,h2,h3⟩=>⟨v,h1,h2,h2.size,h3⟩) (wo hr hC S0 w0 n O a w φ Q b hs hO hb)
 ·rename_i j want hg
  split at hr
  ·rename_i p hp
   split at hr
   ·rename_i d hd
    split at hr
    ·rename_i bb se
     have ht:=hs.get d
     rw [se] at ht
     have hy:=mH (ops:=ops) hp hd (q9 ht)
     rw [←hb] at hy
     split at hr
     ·rename_i kj
      split at hr
      ·rename_i x C he
       cases hr
       obtain ⟨Hf,hC⟩:=hC
       have hw:Region.wanted o (yielded ops.toArray b.tmps)=true:=by
        unfold Region.wanted;rw [hg];simp only [hy,Hf]
        have:h.g=want:=by simpa using kj
        rw [this];simp
       rw [if_pos hw]
       exact Oper.wp_mono (fun b' w' ⟨v,h1,h2,h3⟩=>⟨v,h1,h2,h2.size,h3⟩) (wo he hC S0 w0 n O a w φ Q b hs hO hb)
      ·cases hr
     ·rename_i kj
      cases hr
      obtain ⟨Hf,-⟩:=hC
      have hw:¬Region.wanted o (yielded ops.toArray b.tmps)=true:=by
       unfold Region.wanted;rw [hg];simp only [hy,Hf]
       have:¬h.g=want:=by simpa using kj
       simpa using this
      rw [if_neg hw]
      exact ⟨Nat.le_refl _,.rep (.val _)⟩
    ·rename_i arr se
     have ht:=hs.get d
     rw [se] at ht
     have hy:=mG (ops:=ops) hp hd (bF ht)
     rw [←hb] at hy
     cases hr
     have hw:¬Region.wanted o (yielded ops.toArray b.tmps)=true:=by
      unfold Region.wanted;rw [hg];simp [hy]
     rw [if_neg hw]
     exact ⟨Nat.le_refl _,.rep (.val _)⟩
    ·cases hr
   ·cases hr
  ·cases hr
end
def xp (s:AS):List (Nat×AV)->List (Nat×AV)
 | []=>[]
 | (i,x)::l=>(i,(view s x).getD .dead)::xp s l
theorem vp (s:AS):∀(l:List (Nat×AV)) (i:Nat),look (xp s l) i=(look l i).map fun x=>(view s x).getD .dead
 | [],i=>rfl
 | (k,x)::l,i=>by
  simp only [xp,aD,vp s l i]
  by_cases h:k=i<;>simp [h]
section
variable {P:Program} {n:Nat} {s:AS} {o:Oper} {h:Hint} {S0:bo} {w0 w:World} {O:List Nat} {a b:Act} {φ:Nat->Option Nat}
theorem H_ (hs:aJ S0 w0 n O s a w φ):aJ ⟨fun _=>True,fun _=>False,fun _=>none,a.defers⟩ w n [] ⟨xp s s.F,[]⟩ a w (fun _=>none) where
 j7:=hs.j7
 j_:=rfl
 cX:=⟨rfl,rfl,rfl,Nat.le_refl _,fun _ _ _=>rfl,hs.cX.m7,fun _ _ h=>h⟩
 cA:=fun i av hi=>by
  have hi:look (xp s s.F) i=some av:=hi
  rw [vp] at hi
  cases hl:look s.F i with
  | none=>rw [hl] at hi;cases hi
  | some x =>
   rw [hl] at hi;injection hi with hi;subst hi
   show Den _ _ _ _ ((view s x).getD .dead)
   cases hv:view s x with
   | none=>exact .dead _
   | some y =>
    refine .rep ((yz hs (hs.cA i x hl) hv).mono ?_)
    intro b hb
    exact ⟨⟨hb,by simp,fun _ h=>(by cases h),trivial⟩,rfl⟩
 rows:=fun id r hr=>by cases hr
 only:=fun _ _=>rfl
 inj:=fun _ _ _ h=>by cases h
 cW:=fun _ _ h=>by cases h
 apart:=fun _ _ h=>by cases h
 new:=fun _ _=>trivial
theorem Gq {K:Act->World->Prop} {Q:Exit->Act->World->Prop} (h:o.wp P a w K (fun _ _ _=>False)) (hK:∀a' w',K a' w'->a'.defers=a.defers) (hb:b.tmps=a.tmps):o.wp P b w (fun b' w'=>∃v,b'=b.put o.dst v∧K (a.put o.dst v) w') Q:=by
 unfold Oper.wp at *
 rw [eU hb]
 generalize (execOp a.eval o).run P w=r at *
 cases r with
 | halt x w'=>cases x with
  | panic v=>exact h.elim
  | _=>exact h
 | ok x w'=>cases x with
  | value v=>exact ⟨v,rfl,h⟩
  | skip=>exact ⟨undef,rfl,h⟩
  | enter f args =>
   refine Calls.mono h fun e fL he=>?_
   cases e with
   | returned v=>exact ⟨v,rfl,he⟩
   | panicked c=>exact he.elim
   | outgrown=>obtain ⟨_,_,hf⟩:=he;exact hf.elim
  | defer d =>
   have:=congrArg List.length (hK _ _ h)
   rw [p8] at this
   simp at this
  | row r args=>exact Rows.mono h fun v fL he=>⟨v,rfl,he⟩
  | _=>exact h
def Ac (P:Program) (n:Nat) (s:AS) (o:Oper) (h:Hint):Option (AV×List Prop) :=
 match o.guard,o.dst with
 | none,some d=>(match Cx P n ⟨xp s s.F,[]⟩ o h with
  | some (s',C)=>(match look s'.F d,look s'.H d with
   | some (.ref d'),some ⟨e,true,_,row⟩=>(match Nat.beq d' d with|true=>some (.own e row,C++ [lM row])|false=>none)
   | _,_=>none)
  | none=>none)
 | _,_=>none
theorem Hu {Q:Exit->Act->World->Prop} {ops:Array Oper} {x:AV} {C:List Prop} (hr:Ac P n s o h=some (x,C)) (hC:bw C) (hs:aJ S0 w0 n O s a w φ) (hb:b.tmps=a.tmps) :
  (∃e row,x= .own e row)∧ib P ops Q o b w fun v w'=>∃O',iu (fun _=>False) w' v x O'∧O'.Nodup∧ ∀g∈O',w.heap.size≤g∧g<w'.heap.size:=by
 unfold Ac at hr
 split at hr
 ·rename_i d hg hd
  split at hr
  ·rename_i s' C' wV
   split at hr
   ·rename_i d' e fl row hF hH
    split at hr
    ·rename_i TT
     cases hr
     have TT:=Nat.eq_of_beq_eq_true TT
     subst TT
     obtain ⟨RI,hv,-⟩:=bN.1 hC
     refine ⟨⟨e,row,rfl⟩,?_⟩
     have hw:Region.wanted o (yielded ops b.tmps)=true:=by unfold Region.wanted;rw [hg]
     unfold ib
     rw [if_pos hw]
     have key:=oQ wV RI ⟨fun _=>True,fun _=>False,fun _=>none,a.defers⟩ w a w (fun _ _ _=>False) ⟨_,H_ hs⟩
     refine Oper.wp_mono ?_ (Gq (Q:=Q) key (fun a' w' ⟨_,bT⟩=>bT.j_) hb)
     rintro b' w' ⟨v,rfl,cy,bT⟩
     refine ⟨v,rfl,bT.cX.below (fun _ h=>h),?_⟩
     have dB:d'<a.tmps.size:=by
      rcases Nat.lt_or_ge d' a.tmps.size with h|h
      ·exact h
      ·exfalso
       have dX:=bT.cA d' _ hF
       have vH:(a.put o.dst v).tmps.getD d' undef=undef:=by
        have:(a.put o.dst v).tmps.size≤d':=by rw [uK];exact h
        simp [Array.getElem?_eq_none this]
       rw [vH] at dX
       cases dX with
       | rep h=>cases h
     have ji:(a.put o.dst v).tmps.getD d' undef=v:=by rw [hd,qA a d' d' v dB,if_pos rfl]
     have dX:=bT.cA d' _ hF
     rw [ji] at dX
     have aS:=bT.rows d' _ hH
     have oc:=br (φ:=cy) hH
     unfold bK at aS
     cases dX with
     | rep h=>cases h
     | ref id e' m g l c hi hm hc hx gC =>
      rw [oc] at hi
      simp only [Option.some.injEq,Prod.mk.injEq] at hi
      obtain ⟨he,nF,bY⟩:=hi
      subst he;subst nF
      rw [bY] at aS
      obtain ⟨cur,te,fr,Vg,gZ,hle,nn,dS⟩:=aS
      have x8:cur.size=e*c:=by unfold aY at gC;rw [Vg] at gC;exact gC
      refine ⟨[g],.own g l c e row cur te fr Vg gZ hm hc hx x8 (fun j u x hu hx=>?_),by simp,fun g' jm=>by simp at jm;subst jm;exact ⟨(bT.cW _ _ bY).1.2.elim id fun h=>h.elim,(bT.cW _ _ bY).2⟩⟩
      obtain ⟨v',rfl⟩:=hv x (List.mem_of_getElem? hx)
      have:=dS j u _ hu hx
      have this:cz _ w' u (.val v'):=this
      cases this
      exact .val _
     | cB id e' hi =>
      rw [oc] at hi
      simp only [Option.some.injEq,Prod.mk.injEq] at hi
      obtain ⟨he,nF,bY⟩:=hi
      have:row= []:=List.eq_nil_of_length_eq_zero nF
      subst this
      exact ⟨[],.nil e,by simp,by simp⟩
    ·cases hr
   ·cases hr
  ·cases hr
 ·cases hr
end
def nK:AV->AV
 | .own _ _=>.dead
 | .box _=>.dead
 | x=>x
def qW (P:Program) (n:Nat) (s:AS) (ds:List Nat) (ops:List Oper) (hs:List (Nat×Hint)) (Ks:List Nat):List Oper->Nat->List AV->Option (List AV×List Prop)
 | [],_,h_=>some (h_,[])
 | o::l,i,h_=>match (match Ks.any (Nat.beq i) with
   | true=>Ac P n (xi s ds ops (h_.map nK) o) o (gQ hs i)
   | false=>tR P ops (xi s ds ops (h_.map nK) o) o (gQ hs i)) with
  | some (x,C)=>(match qW P n s ds ops hs Ks l (i+1) (h_++ [x]) with|some (jk,D)=>some (jk,C++D)|none=>none)
  | none=>none
def jl:List Oper->List AV->List (Nat×Nat×List AV)
 | o::l,.own e row::m=>(match o.dst with|some d=>(d,e,row)::jl l m|none=>jl l m)
 | _::l,_::m=>jl l m
 | _,_=>[]
def EW:AS->List (Nat×Nat×List AV)->AS
 | s,[]=>s
 | s,(d,e,row)::l=>EW ⟨(d,.ref d)::s.F,(d,⟨e,true,false,row⟩)::s.H⟩ l
def mv (s:AS):List (Nat×Nat×List AV)->Bool
 | []=>true
 | (d,_,_)::l=>match look s.H d,Nat.ble d 999999999999 with|none,true=>mv s l|_,_=>false
def Ai (P:Program) (n T:Nat) (Ks:List Nat) (ops:List Oper) (hs:List (Nat×Hint)) (s:AS):Option (AS×List Prop) :=
 match P.follows .mixedOrders,lZ ops.toArray n,pd ops.toArray T with
 | true,true,true=>(match qW P n s ((ops.take T).filterMap (·.dst)) ops hs Ks (ops.take T) 0 [] with
  | some (h_,C)=>(match mv s (jl (ops.take T) h_),kn P n ops hs (ops.drop T) T (EW ⟨jn (ops.take T) (h_.map nK)++n0 ((ops.take T).filterMap (·.dst)) s.F,s.H⟩ (jl (ops.take T) h_)) with
   | true,some (s',D)=>some (s',C++D)
   | _,_=>none)
  | none=>none)
 | _,_,_=>none
theorem tr {P:Program} {n:Nat} {ops:List Oper} {s:AS} {ds:List Nat} {hs:List (Nat×Hint)} {Ks:List Nat}:∀(l:List Oper) (i:Nat) (h_ jk:List AV) (C:List Prop),qW P n s ds ops hs Ks l i h_=some (jk,C)->bw C->h_.length=i ->
  jk.length=i+l.length∧jk.take i=h_∧ ∀(j:Nat) (o:Oper),l[j]?=some o-> ∃x D,jk[i+j]?=some x∧bw D∧(Ac P n (xi s ds ops ((jk.take (i+j)).map nK) o) o (gQ hs (i+j))=some (x,D)∨tR P ops (xi s ds ops ((jk.take (i+j)).map nK) o) o (gQ hs (i+j))=some (x,D))
 | [],i,h_,jk,C,he,hC,hl=>by
  cases he
  exact ⟨by simp [hl],by rw [←hl,List.take_length],fun j o h=>by simp at h⟩
 | o::l,i,h_,jk,C,he,hC,hl=>by
  simp only [qW] at he
  split at he
  ·rename_i x C1 h1
   split at he
   ·rename_i Uy D h2
    cases he
    obtain ⟨iX,hD⟩:=bN.1 hC
    obtain ⟨e1,e2,e3⟩:=tr l (i+1) (h_++ [x]) jk D h2 hD (by simp [hl])
    have e4:jk.take i=h_:=by
     have:=congrArg (List.take i) e2
     rw [List.take_take,Nat.min_eq_left ag,←hl,List.take_left] at this
     rw [←hl];exact this
    have e5:jk[i]?=some x:=by
     have h3:(jk.take (i+1))[i]?=some x:=by rw [e2,List.getElem?_append_right ag,hl];simp
     exact bS _ _ _ _ h3
    refine ⟨by rw [e1,List.length_cons];omega,e4,fun j p hp=>?_⟩
    cases j with
    | zero =>
     simp at hp;subst hp
     refine ⟨x,C1,by simpa using e5,iX,?_⟩
     simp only [Nat.add_zero]
     rw [e4]
     split at h1
     ·exact .inl h1
     ·exact .inr h1
    | succ j =>
     obtain ⟨y,D',h5,h6,h7⟩:=e3 j p (by simpa using hp)
     rw [show i+1+j=i+(j+1) by omega] at h5 h7
     exact ⟨y,D',h5,h6,h7⟩
   ·cases he
  ·cases he
theorem ky (s:AS):∀(L:List (Nat×Nat×List AV)),mv s L=true↔ ∀p∈L,look s.H p.1=none∧p.1<1000000000000
 | []=>by simp [mv]
 | (d,e,row)::L=>by
  simp only [mv]
  split
  ·rename_i h hb
   have hb:=Nat.le_of_ble_eq_true hb
   rw [ky s L]
   constructor
   ·intro hL p hp
    rcases List.mem_cons.1 hp with rfl|hp
    ·exact ⟨h,by show d<_;omega⟩
    ·exact hL p hp
   ·intro hL p hp;exact hL p (by simp [hp])
  ·rename_i fO
   constructor
   ·intro hf;cases hf
   ·intro hL
    have:=hL (d,e,row) (by simp)
    exact (fO this.1 (by have:=this.2;simp at this;exact Nat.ble_eq_true_of_le ag)).elim
theorem xP:∀(l:List Oper) (m:List AV) (p:Nat×Nat×List AV),p∈jl l m->p.1∈l.filterMap (·.dst)
 | [],m,p,h=>by cases m<;>simp [jl] at h
 | o::l,[],p,h=>by simp [jl] at h
 | o::l,x::m,p,h=>by
  have step:p∈jl l m->p.1∈(o::l).filterMap (·.dst):=fun h=>by
   have:=xP l m p h
   rw [List.mem_filterMap] at this ⊢
   obtain ⟨q,h1,h2⟩:=this
   exact ⟨q,by simp [h1],h2⟩
  cases x with
  | own e row =>
   simp only [jl] at h
   split at h
   ·rename_i d hd
    rcases List.mem_cons.1 h with rfl|h
    ·rw [List.mem_filterMap];exact ⟨o,by simp,hd⟩
    ·exact step h
   ·exact step h
  | _=>exact step h
def fQ (own:Nat->List Nat):List Oper->List AV->Nat->List Nat
 | o::l,.own _ _::m,i=>(match o.dst with|some _=>own i++fQ own l m (i+1)|none=>fQ own l m (i+1))
 | _::l,_::m,i=>fQ own l m (i+1)
 | _,_,_=>[]
theorem oH (own:Nat->List Nat):∀(l:List Oper) (m:List AV) (i g:Nat),g∈fQ own l m i-> ∃k,i≤k∧k<i+l.length∧g∈own k
 | [],m,i,g,h=>by cases m<;>simp [fQ] at h
 | o::l,[],i,g,h=>by simp [fQ] at h
 | o::l,x::m,i,g,h=>by
  have step:g∈fQ own l m (i+1)-> ∃k,i≤k∧k<i+(o::l).length∧g∈own k:=fun h=>by
   obtain ⟨k,h1,h2,h3⟩:=oH own l m (i+1) g h
   exact ⟨k,ag,by simp only [List.length_cons];omega,h3⟩
  cases x with
  | own e row =>
   simp only [fQ] at h
   split at h
   ·rcases List.mem_append.1 h with h|h
    ·exact ⟨i,ag,by simp only [List.length_cons];omega,h⟩
    ·exact step h
   ·exact step h
  | _=>exact step h
theorem tf (own:Nat->List Nat) (h1:∀k,(own k).Nodup) (h2:∀j k g,g∈own j->g∈own k->j=k):∀(l:List Oper) (m:List AV) (i:Nat),(fQ own l m i).Nodup
 | [],m,i=>by cases m<;>simp [fQ]
 | o::l,[],i=>by simp [fQ]
 | o::l,x::m,i=>by
  have ih:=tf own h1 h2 l m (i+1)
  cases x with
  | own e row =>
   simp only [fQ]
   split
   ·rw [List.nodup_append]
    refine ⟨h1 i,ih,fun g hg g' jm e=>?_⟩
    subst e
    obtain ⟨k,h3,-,h4⟩:=oH own l m (i+1) _ jm
    have:=h2 i k _ hg h4
    omega
   ·exact ih
  | _=>exact ih
section
variable {S0:bo} {w0 w:World} {n:Nat} {a:Act}
theorem AD (own:Nat->List Nat):∀(l:List Oper) (m:List AV) (i:Nat) (s:AS) (φ:Nat->Option Nat),aJ S0 w0 n (fQ own l m i) s a w φ ->
  (∀(j:Nat) o e row d,l[j]?=some o->m[j]?=some (.own e row)->o.dst=some d->iu (fun _=>False) w (a.tmps.getD d undef) (.own e row) (own (i+j))) ->
  (fQ own l m i).Nodup->(∀g∈fQ own l m i,(w0.heap.size≤g∨S0.X g)∧g<w.heap.size)->mv s (jl l m)=true->(l.filterMap (·.dst)).Nodup ->
  ∃ cy,aJ S0 w0 n [] (EW s (jl l m)) a w cy
 | [],m,i,s,φ,h,_,_,_,_,_=>by cases m<;>exact ⟨φ,h⟩
 | o::l,[],i,s,φ,h,_,_,_,_,_=>⟨φ,h⟩
 | o::l,x::m,i,s,φ,h,hv,iF,mZ,gZ,O6=>by
  have O5:(l.filterMap (·.dst)).Nodup:=List.Nodup.sublist ((List.sublist_cons_self o l).filterMap _) O6
  have HW:∀(j:Nat) o e row d,l[j]?=some o->m[j]?=some (.own e row)->o.dst=some d->iu (fun _=>False) w (a.tmps.getD d undef) (.own e row) (own (i+1+j)):=fun j p e row d h1 h2 h3=>by
   have:=hv (j+1) p e row d (by simpa using h1) (by simpa using h2) h3
   rwa [show i+(j+1)=i+1+j by omega] at this
  cases x with
  | own e row =>
   cases hd:o.dst with
   | none =>
    have e1:fQ own (o::l) (.own e row::m) i=fQ own l m (i+1):=by simp only [fQ,hd]
    have e2:jl (o::l) (.own e row::m)=jl l m:=by simp only [jl,hd]
    rw [e1] at h iF mZ
    rw [e2] at gZ ⊢
    exact AD own l m (i+1) s φ h HW iF mZ gZ O5
   | some d =>
    have e1:fQ own (o::l) (.own e row::m) i=own i++fQ own l m (i+1):=by simp only [fQ,hd]
    have e2:jl (o::l) (.own e row::m)=(d,e,row)::jl l m:=by simp only [jl,hd]
    rw [e1] at h iF mZ
    rw [e2] at gZ ⊢
    have OV:=(ky s _).1 gZ
    have hg:=hv 0 o e row d rfl rfl hd
    simp only [Nat.add_zero] at hg
    obtain ⟨iW,h1,h2,-⟩:=mK (S0:=S0) (w0:=w0) (w:=w) (n:=n) (a:=a) s φ (own i) (fQ own l m (i+1)) _ (.own e row) d h (hg.mono fun b hb=>hb.elim) iF (fun g hg=>mZ g (by simp [hg])) (fun j hj=>by
     simp [jD] at hj;subst hj;exact OV _ (List.mem_cons_self ..)) (by simp [jD])
    have h3:aJ S0 w0 n (fQ own l m (i+1)) ⟨(d,.ref d)::s.F,(d,⟨e,true,false,row⟩)::s.H⟩ a w iW:=by
     refine ⟨h1.j7,h1.j_,h1.cX,fun j av hj=>?_,h1.rows,h1.only,h1.inj,h1.cW,h1.apart,h1.new⟩
     have hj:look ((d,AV.ref d)::s.F) j=some av:=hj
     rw [aD] at hj
     by_cases TS:d=j
     ·rw [if_pos TS] at hj;injection hj with hj;subst hj;subst TS
      exact h2
     ·rw [if_neg TS] at hj
      exact h1.cA j av hj
    refine AD own l m (i+1) _ iW h3 HW (List.nodup_append.1 iF).2.1 (fun g hg=>mZ g (by simp [hg])) ?_ O5
    rw [ky]
    intro p hp
    refine ⟨?_,(OV p (by simp [hp])).2⟩
    show look ((d,_)::s.H) p.1=none
    rw [aD]
    have cU:d≠p.1:=fun e=>by
     have:=xP l m p hp
     rw [List.filterMap_cons_some (by simpa using hd)] at O6
     exact (List.nodup_cons.1 O6).1 (by rw [e];exact this)
    rw [if_neg cU]
    exact (OV p (by simp [hp])).1
  | _=>exact AD own l m (i+1) s φ h HW iF mZ gZ O5
theorem iu.grow {w w':World} (hb:Below w.heap.size w w') {v:Value} {x:AV} {O:List Nat} (h:iu (fun _=>False) w v x O):iu (fun _=>False) w' v x O:=by
 cases h with
 | rep h=>exact .rep (h.mono fun b hb=>hb.elim)
 | nil e=>exact .nil e
 | own g l c e row cur te fr hg hf hl hc hm hs h =>
  have cZ:g<w.heap.size:=(Array.getElem?_eq_some_iff.1 hg).1
  exact .own g l c e row cur te fr ((hb.block g cZ).trans hg) hf hl hc hm hs fun j u x hu hx=>(h j u x hu hx).mono fun b hb=>hb.elim
 | box g row cur te fr hg hf hs h =>
  have cZ:g<w.heap.size:=(Array.getElem?_eq_some_iff.1 hg).1
  exact .box g row cur te fr ((hb.block g cZ).trans hg) hf hs fun j u x hu hx=>(h j u x hu hx).mono fun b hb=>hb.elim
theorem rE {I:Info} {S:Nat->Prop} {v:Value} {x:AV} (h:Den I S w v x):nK x=x:=by
 cases x with
 | own e row=>cases h with|rep h=>cases h
 | box row=>cases h with|rep h=>cases h
 | _=>rfl
end
section
variable {P:Program} {ops:List Oper} {S0:bo} {w0:World} {Q:Exit->Act->World->Prop}
def tT (T:Nat) (own:Nat->List Nat):List Nat:=(List.range T).flatMap own
theorem kW {T g:Nat} {own:Nat->List Nat}:g∈tT T own↔ ∃k,k<T∧g∈own k:=by
 unfold tT
 rw [List.mem_flatMap]
 exact ⟨fun ⟨k,h1,h2⟩=>⟨k,List.mem_range.1 h1,h2⟩,fun ⟨k,h1,h2⟩=>⟨k,List.mem_range.2 h1,h2⟩⟩
def IW (own:Nat->List Nat) (i:Nat) (O:List Nat):Nat->List Nat:=fun k=>if k=i then O else own k
theorem Ej {n T:Nat} {Ks:List Nat} {hs:List (Nat×Hint)} {s s':AS} {C:List Prop} (he:Ai P n T Ks ops hs s=some (s',C)) (hC:bw C) {a:Act} {w:World} (gB:iI S0 w0 n s a w) (hQ:∀a' w',iI S0 w0 n s' a' w'->Q .normal a' w'):P.follows .mixedOrders=true∧wpAny P .any ops.toArray Q ops.toArray.size (Array.replicate ops.toArray.size false) a {w with drawn:=w.drawn+1}:=by
 unfold Ai at he
 split at he
 ·rename_i hm hB hT
  split at he
  ·rename_i h_ C1 DU
   split at he
   ·rename_i s2 D gZ pt
    cases he
    obtain ⟨iX,hD⟩:=bN.1 hC
    obtain ⟨φ,l9⟩:=gB
    obtain ⟨hlen,-,ic⟩:=tr _ 0 [] h_ C1 DU iX rfl
    simp only [Nat.zero_add] at hlen ic
    obtain ⟨cZ,iF,wW⟩:=gp hB
    unfold pd at hT
    simp only [Bool.and_eq_true,decide_eq_true_eq] at hT
    obtain ⟨⟨⟨H2,Mw⟩,Mv⟩,Mu⟩:=hT
    have T1:T<ops.length:=by simpa using H2
    have J0:h_.length=T:=by rw [hlen,List.length_take];omega
    let F:(Nat->List Nat)->Nat->Value->World->Prop:=fun own k v w'=>w.heap.size≤w'.heap.size∧ ∀x,h_[k]?=some x->((∃e row,x= .own e row)∧iu (fun _=>False) w' v x (own k))∨Den (az s.H φ) (aO S0 w' φ (tT T own)) w' v x
    let J:(Nat->List Nat)->World->Prop:=fun own w'=>(∀k,(own k).Nodup)∧(∀j k g,g∈own j->g∈own k->j=k)∧(∀k g,g∈own k->w.heap.size≤g∧g<w'.heap.size)
    let St:Nat->(Nat->List Nat)->World->(Nat->List Nat)->World->Prop:=fun i own w1 ve _=>(∀k,k≠i->ve k=own k)∧ ∀g∈ve i,w1.heap.size≤g
    have vK:∀i k v own ve w1 w2,i≠k->Below w1.heap.size w1 w2->St i own w1 ve w2->F own k v w1->F ve k v w2:=by
     intro i k v own ve w1 w2 Nw hb ⟨UF,VJ⟩ ⟨h1,h2⟩
     refine ⟨Nat.le_trans h1 hb.size,fun x hx=>?_⟩
     rcases h2 x hx with ⟨e,hg⟩|dX
     ·left;rw [UF k (Ne.symm Nw)];exact ⟨e,hg.grow hb⟩
     ·right
      have vH:∀b,aO S0 w1 φ (tT T own) b->b ∉ tT T ve:=fun b hS ob=>by
       obtain ⟨j,hj,Li⟩:=kW.1 ob
       by_cases Nv:j=i
       ·subst Nv;have:=VJ b Li;have:=hS.1;omega
       ·rw [UF j Nv] at Li;exact hS.2.1 (kW.2 ⟨j,hj,Li⟩)
      have gC:∀id e m g,az s.H φ id=some (e,m,some g)->aY w2 g=aY w1 g:=fun id e m g hi=>by
       obtain ⟨r,-,-,-,bY⟩:=aT hi
       have:=(l9.cW id g bY).2
       unfold aY;rw [hb.block g ag]
      exact dX.mono (fun _ _ h=>h) (fun b hS=>⟨⟨by have:=hS.1;have:=hb.size;omega,vH b hS,hS.2.2⟩,hb.block b hS.1⟩) gC
    have waiting:∀(O:List Nat) w',Below w.heap.size w w'->(∀g∈O,w.heap.size≤g)->aJ S0 w0 n O s a w' φ:=by
     intro O w' hb hO
     have h1:=oy O [] s φ l9 hO
     rw [List.append_nil] at h1
     exact h1.grow hb
    refine ⟨hm,AQ (γ :=Nat->List Nat) H2 Mw Mv Mu l9.j7 hB F J St vK ?_ ?_ ops.toArray.size _ a _ (fun _=>[]) ⟨(Below.refl _ _).drew,by simp,?_,rfl,rfl,?_,?_,fun _ _=>rfl⟩ ⟨by simp,by simp,by simp⟩ (fun j _=>by simp only [List.size_toArray];exact getD_replicate_false _ _) (by simp)⟩
    ·
     intro k o xd ho own a' w' hb hJ Th jo fM
     have r_:ops[k]?=some o:=by simpa using ho
     obtain ⟨x,Dk,hx,Sx,eC⟩:=ic k o (by rw [List.getElem?_take,if_pos xd];exact r_)
     have k9:Below w.heap.size w w':=hb
     have T7:∀g∈tT T own,w.heap.size≤g:=fun g hg=>by
      obtain ⟨j,-,hj⟩:=kW.1 hg
      exact (hJ.2.2 j g hj).1
     have Pa:∀g∈tT T own,g<w'.heap.size:=fun g hg=>by
      obtain ⟨j,-,hj⟩:=kW.1 hg
      exact (hJ.2.2 j g hj).2
     have hg:=waiting (tT T own) w' k9 T7
     have Lh:aJ S0 w0 n (tT T own) (xi s ((ops.take T).filterMap (·.dst)) ops ((h_.take k).map nK) o) ⟨a'.tmps,S0.tu⟩ w' φ:=by
      refine ⟨Th.trans l9.j7,rfl,hg.cX,fun i av hi=>?_,hg.rows,hg.only,hg.inj,hg.cW,hg.apart,hg.new⟩
      show Den (az s.H φ) _ _ _ _
      unfold xi at hi
      rw [bJ] at hi
      cases Hc:look (jB ops ((h_.take k).map nK) (bh o)) i with
      | some y =>
       rw [Hc] at hi
       simp at hi;subst hi
       obtain ⟨d,p,h1,h2,h3,h4⟩:=oL _ _ _ _ _ Hc
       rcases jo d h1 with hF|⟨q,hq,hn⟩
       ·have ji:sU ops.toArray a' d=a'.tmps.getD i undef:=by
         unfold sU
         have:(ops.toArray[d]?).bind (·.dst)=some i:=by simp [h2,h3]
         rw [this]
        rw [ji] at hF
        rw [List.getElem?_map] at h4
        cases hz:(h_.take k)[d]? with
        | none=>rw [hz] at h4;cases h4
        | some z =>
         rw [hz] at h4;injection h4 with h4;subst h4
         rcases hF.2 z (bS _ _ _ _ hz) with ⟨⟨e,row,rfl⟩,-⟩|dX
         ·exact .dead _
         ·rw [rE dX];exact dX
       ·have hY:ops[d]?=some q:=by simpa using hq
        rw [h2] at hY;injection hY with hY;subst hY
        rw [h3] at hn;cases hn
      | none =>
       rw [Hc] at hi
       simp at hi
       obtain ⟨h1,h2⟩:=gn _ _ _ _ hi
       have hk:=fM i (fun j p hj hp=>(kH ops T i).1 h2 j p hj (by simpa using hp))
       have o9:a'.tmps.getD i undef=a.tmps.getD i undef:=hk
       show Den _ _ _ (a'.tmps.getD i undef) av
       rw [o9]
       exact hg.cA i av h1
     have i6:ib P ops.toArray Q o a' w' fun v w2=>w'.heap.size≤w2.heap.size∧ ∃O',O'.Nodup∧(∀g∈O',w'.heap.size≤g∧g<w2.heap.size)∧(((∃e row,x= .own e row)∧iu (fun _=>False) w2 v x O')∨(O'= []∧Den (az s.H φ) (aO S0 w2 φ (tT T own)) w2 v x)):=by
      rcases eC with eC|eC
      ·obtain ⟨Le,hr⟩:=Hu (Q:=Q) (ops:=ops.toArray) eC Sx Lh (b:=a') rfl
       unfold ib at hr ⊢
       split
       ·rename_i hw
        rw [if_pos hw] at hr
        exact Oper.wp_mono (fun b' w2 ⟨v,h1,h2,O',h3,h4,h5⟩=>⟨v,h1,h2,h2.size,O',h4,h5,.inl ⟨Le,h3⟩⟩) hr
       ·rename_i hw
        rw [if_neg hw] at hr
        obtain ⟨O',h3,h4,h5⟩:=hr
        exact ⟨Nat.le_refl _,O',h4,h5,.inl ⟨Le,h3⟩⟩
      ·have hr:=Kw (Q:=Q) (ops:=ops) eC Sx Lh Pa (b:=a') rfl
       unfold ib at hr ⊢
       split
       ·rename_i hw
        rw [if_pos hw] at hr
        exact Oper.wp_mono (fun b' w2 ⟨v,h1,h2,h3,h4⟩=>⟨v,h1,h2,h3,[],by simp,by simp,.inr ⟨rfl,h4⟩⟩) hr
       ·rename_i hw
        rw [if_neg hw] at hr
        exact ⟨hr.1,[],by simp,by simp,.inr ⟨rfl,hr.2⟩⟩
     have fin:∀v w2,(w'.heap.size≤w2.heap.size∧ ∃O',O'.Nodup∧(∀g∈O',w'.heap.size≤g∧g<w2.heap.size)∧(((∃e row,x= .own e row)∧iu (fun _=>False) w2 v x O')∨(O'= []∧Den (az s.H φ) (aO S0 w2 φ (tT T own)) w2 v x)))-> ∃ve,St k own w' ve w2∧J ve w2∧F ve k v w2:=by
      rintro v w2 ⟨dB,O',h4,h5,h6⟩
      have p1:∀j,j≠k->IW own k O' j=own j:=fun j hj=>by unfold IW;rw [if_neg hj]
      have p2:IW own k O' k=O':=by unfold IW;rw [if_pos rfl]
      refine ⟨IW own k O',⟨p1,fun g hg=>by rw [p2] at hg;exact (h5 g hg).1⟩,⟨fun j=>?_,fun i j g hi hj=>?_,fun j g hj=>?_⟩,Nat.le_trans k9.size dB,fun y hy=>?_⟩
      ·by_cases hj:j=k
       ·subst hj;rw [p2];exact h4
       ·rw [p1 j hj];exact hJ.1 j
      ·by_cases Nw:i=k
       ·by_cases xe:j=k
        ·rw [Nw,xe]
        ·subst Nw
         rw [p2] at hi;rw [p1 j xe] at hj
         have:=(h5 g hi).1;have:=(hJ.2.2 j g hj).2;omega
       ·by_cases xe:j=k
        ·subst xe
         rw [p2] at hj;rw [p1 i Nw] at hi
         have:=(h5 g hj).1;have:=(hJ.2.2 i g hi).2;omega
        ·rw [p1 i Nw] at hi;rw [p1 j xe] at hj;exact hJ.2.1 i j g hi hj
      ·by_cases xe:j=k
       ·subst xe;rw [p2] at hj
        exact ⟨Nat.le_trans k9.size (h5 g hj).1,(h5 g hj).2⟩
       ·rw [p1 j xe] at hj
        exact ⟨(hJ.2.2 j g hj).1,Nat.lt_of_lt_of_le (hJ.2.2 j g hj).2 dB⟩
      ·rw [hx] at hy;injection hy with hy;subst hy
       rcases h6 with ⟨e1,e2⟩|⟨e1,e2⟩
       ·left;rw [p2];exact ⟨e1,e2⟩
       ·right
        subst e1
        refine e2.mono (fun _ _ h=>h) (fun b hS=>⟨⟨hS.1,fun hm=>?_,hS.2.2⟩,rfl⟩) (fun _ _ _ _ _=>rfl)
        obtain ⟨j,hj,Li⟩:=kW.1 hm
        by_cases xe:j=k
        ·subst xe;rw [p2] at Li;simp at Li
        ·rw [p1 j xe] at Li;exact hS.2.1 (kW.2 ⟨j,hj,Li⟩)
     unfold ib at i6 ⊢
     split
     ·rename_i hw
      rw [if_pos hw] at i6
      exact Oper.wp_mono (fun b' w2 ⟨v,h1,h2,h3⟩=>⟨v,h1,h2,fin v w2 h3⟩) i6
     ·rename_i hw
      rw [if_neg hw] at i6
      exact fin undef w' i6
    ·
     intro vs own w' hb hJ zz
     have k9:Below w.heap.size w w':=hb
     have DN:∀g∈fQ own (ops.take T) h_ 0,g∈tT T own:=fun g hg=>by
      obtain ⟨j,h1,h2,h3⟩:=oH own _ _ 0 g hg
      exact kW.2 ⟨j,by rw [List.length_take] at h2;omega,h3⟩
     have hOr:∀g∈fQ own (ops.take T) h_ 0,w.heap.size≤g∧g<w'.heap.size:=fun g hg=>by
      obtain ⟨j,h1,h2,h3⟩:=oH own _ _ 0 g hg
      exact hJ.2.2 j g h3
     have hg:=waiting (fQ own (ops.take T) h_ 0) w' k9 (fun g hg=>(hOr g hg).1)
     have jZ:=jV vs (ops.zipIdx.take T) a (by
      have h1:(ops.zipIdx.take T).filterMap (·.1.dst)=(ops.take T).filterMap (·.dst):=by
       conv=>rhs;rw [←List.zipIdx_map_fst 0 ops,←List.map_take]
       rw [List.filterMap_map];rfl
      rw [h1]
      exact List.Nodup.sublist ((List.take_sublist T ops).filterMap _) (by simpa using iF))
     have UY:∀(k:Nat) (o:Oper) (i:Nat),k<T->ops[k]?=some o->o.dst=some i->(eZ (ops.zipIdx.take T) vs a).tmps.getD i undef=vs k:=by
      intro k o i xd ho hd
      have hv:=jZ.2.2.1 (o,k) ((ml ops T _).2 ⟨xd,ho⟩) i hd (by rw [l9.j7];exact wW k o i (by simpa using ho) hd)
      simp [hv]
     show wpList P ops.toArray Q (ops.drop T) (eZ (ops.zipIdx.take T) vs a) w'
     have hA:aJ S0 w0 n (fQ own (ops.take T) h_ 0) ⟨jn (ops.take T) (h_.map nK)++n0 ((ops.take T).filterMap (·.dst)) s.F,s.H⟩ (eZ (ops.zipIdx.take T) vs a) w' φ:=by
      refine ⟨jZ.1.trans l9.j7,jZ.2.1.trans l9.j_,hg.cX,fun i av hi=>?_,hg.rows,hg.only,hg.inj,hg.cW,hg.apart,hg.new⟩
      show Den (az s.H φ) _ _ _ _
      have hi:look (jn (ops.take T) (h_.map nK)++n0 ((ops.take T).filterMap (·.dst)) s.F) i=some av:=hi
      rw [bJ] at hi
      cases hh:look (jn (ops.take T) (h_.map nK)) i with
      | some y =>
       rw [hh] at hi
       simp at hi;subst hi
       obtain ⟨k,o,h1,h2,h3⟩:=kZ _ _ _ _ hh
       have xd:k<T:=by have:=(List.getElem?_eq_some_iff.1 h3).1;rw [List.length_map] at this;omega
       have ho:ops[k]?=some o:=bS _ _ _ _ h1
       rw [UY k o i xd ho h2]
       rw [List.getElem?_map] at h3
       cases hz:h_[k]? with
       | none=>rw [hz] at h3;cases h3
       | some z =>
        rw [hz] at h3;injection h3 with h3;subst h3
        rcases (zz k xd).2 z hz with ⟨⟨e,row,rfl⟩,-⟩|dX
        ·exact .dead _
        ·rw [rE dX]
         exact dX.mono (fun _ _ h=>h) (fun b hS=>⟨⟨hS.1,fun hm=>hS.2.1 (DN b hm),hS.2.2⟩,rfl⟩) (fun _ _ _ _ _=>rfl)
      | none =>
       rw [hh] at hi
       simp at hi
       obtain ⟨h1,h2⟩:=gn _ _ _ _ hi
       have hv:=jZ.2.2.2 i (fun p hp hd=>(kH ops T i).1 h2 p.2 p.1 ((ml ops T p).1 hp).1 ((ml ops T p).1 hp).2 hd)
       have:(eZ (ops.zipIdx.take T) vs a).tmps.getD i undef=a.tmps.getD i undef:=by
        simp [hv]
       rw [this]
       exact hg.cA i av h1
     obtain ⟨cy,kv⟩:=AD own (ops.take T) h_ 0 _ φ hA (fun j o e row d h1 h2 h3=>by
      have Sq:j<T:=by have:=(List.getElem?_eq_some_iff.1 h2).1;omega
      have ho:ops[j]?=some o:=bS _ _ _ _ h1
      rw [UY j o d Sq ho h3,Nat.zero_add]
      rcases (zz j Sq).2 _ h2 with ⟨-,WB⟩|dX
      ·exact WB
      ·have:=rE dX;cases this) (tf own hJ.1 hJ.2.1 _ _ 0) (fun g hg=>⟨.inl (Nat.le_trans l9.cX.size (hOr g hg).1),(hOr g hg).2⟩) (by
       rw [ky] at gZ ⊢
       exact gZ) (List.Nodup.sublist ((List.take_sublist T ops).filterMap _) (by simpa using iF))
     exact j0 (S0:=S0) (w0:=w0) _ _ _ _ _ pt hD _ _ ⟨cy,kv⟩ hQ
    ·intro k o hk;rw [getD_replicate_false] at hk;cases hk
    ·intro k o s hk;rw [getD_replicate_false] at hk;cases hk
    ·intro k o hk;rw [getD_replicate_false] at hk;cases hk
   ·cases he
  ·cases he
 ·cases he
def su (P:Program) (n T:Nat) (Ks:List Nat) (hs:List (Nat×Hint)) (c:Code) (s:AS):Option (AS×List Prop) :=
 match c with
 | .region _ ⟨l⟩ true=>Ai P n T Ks l hs s
 | _=>none
theorem bf.QC {n:Nat} {c:Code} {Q:Exit->AS->Prop} {s s':AS} {C:List Prop} (T:Nat) (Ks:List Nat) (hs:List (Nat×Hint)) (he:su P n T Ks hs c s=some (s',C)) (hC:bw C) (h:Q .normal s'):bf P n c Q s:=by
 intro S0 w0 a w gB
 unfold su at he
 split at he
 ·exact Ej (S0:=S0) (w0:=w0) he hC gB fun a' w' bT=>⟨s',h,bT.one⟩
 ·cases he
theorem bf.UL {n:Nat} {c:Code} {Q:Exit->AS->Prop} {s:AS} {C:List Prop} (T:Nat) (Ks:List Nat) (hs:List (Nat×Hint)) (he:pI (su P n T Ks hs c s)=some C) (hC:bw C) (h:Q .normal (qs (su P n T Ks hs c s))):bf P n c Q s:=bf.QC T Ks hs (i_ he) hC h
end
end Go.Proofs.YtjgbhhnghedgdaaGreatDoor
