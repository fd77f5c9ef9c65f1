import Derived.Test.YtjgbhhnghedgdaaGreatDoorZaV8
set_option linter.all false
namespace Go.Proofs.YtjgbhhnghedgdaaGreatDoor
open Go.RowKit
section
variable {P:Program} {ops:Array Oper} {Q:Exit->Act->World->Prop} {a:Act} {w:World}
theorem zl {γ :Type} {n T:Nat} (hT:T<ops.size) (J2:Region.sinkB .any ops T=true) (vJ:Region.chainB .any ops T=true) (Pt:Region.seqB .any ops (ops.size-T) T ((List.range ops.size).map (decide<| · <T)).toArray=true) (dw:a.tmps.size=n) (hB:lD ops n=true) (F: γ ->Nat->Value->World->Prop) (J: γ ->World->Prop) (St:Nat-> γ ->World-> γ ->World->Prop) (mono:∀i k v g g' w1 w2,i≠k->Below w1.heap.size w1 w2->St i g w1 g' w2->F g k v w1->F g' k v w2)
  (vp:∀k o,k<T->ops[k]?=some o-> ∀g a' w',Below w.heap.size w w'->J g w'->a'.tmps.size=a.tmps.size->(∀d∈bk o,F g d (rP ops a' d) w'∨(∃p,ops[d]?=some p∧p.dst=none))->(∀s,(∀(j:Nat) (p:Oper),j<T->ops[j]?=some p->p.dst≠some s)->a'.eval (.tmp s)=a.eval (.tmp s))->gQ P ops Q o a' w' (fun v fp=>∃g',St k g w' g' fp∧J g' fp∧F g' k v fp))
  (ke:∀(vs:Nat->Value) (g: γ),∀w',Below w.heap.size w w'->J g w'->(∀k,k<T->F g k (vs k) w')->wpList P ops Q (ops.toList.drop T) (eG (ops.toList.zipIdx.take T) vs a) w') :
  ∀(fuel:Nat) (listed:Array Bool) (a':Act) (w':World) (g: γ),Inv ops (F g) a w listed a' w'->J g w'->(∀j,T≤j->listed.getD j false=false) ->
   (listed.toList.filter (· == false)).length=fuel->wpAny P .any ops Q fuel listed a' w':=by
 obtain ⟨dh,ik,vq⟩:=fR hB
 have ky:∀(listed:Array Bool) (a':Act) (w':World) (g: γ),Inv ops (F g) a w listed a' w'-> ∀k,k<T->listed.getD k false=false-> ∃i,i<T∧i∈Region.ready .any ops listed:=by
  intro listed a' w' g I k
  induction k using Nat.strongRecOn with
  | _ k ih =>
   intro hk hl
   have iG:k<listed.size:=by rw [I.size];omega
   have r9:k<ops.size:=ah
   have oA:ops[k]?=some ops[k]:=Array.getElem?_eq_getElem r9
   by_cases gi:∀d∈bk ops[k],listed.getD d false=true
   ·refine ⟨k,hk,?_⟩
    rw [mem_ready]
    refine ⟨?_,ops[k],oA,fun e he hb=>gi e.on ?_⟩
    ·simp [iG] at hl ⊢;exact hl
    ·unfold bk
     exact List.mem_map.2 ⟨e,List.mem_filter.2 ⟨by simpa using he,hb⟩,rfl⟩
   ·have:∃d,d∈bk ops[k]∧listed.getD d false=false:=by
     refine Classical.byContradiction fun gf=>gi fun d hd=>?_
     cases hx:listed.getD d false with
     | true=>rfl
     | false=>exact absurd ⟨d,hd,hx⟩ gf
    obtain ⟨d,hd,hx⟩:=this
    exact ih d (dh k _ oA d hd) (by have:=dh k _ oA d hd;omega) hx
 have done:∀(listed:Array Bool) (a':Act) (w':World) (g: γ),Inv ops (F g) a w listed a' w'->J g w'->(∀k,k<T->listed.getD k false=true)->(∀j,T≤j->listed.getD j false=false)->wpList P ops Q (ops.toList.drop T) a' w':=by
  intro listed a' w' g I hJ all tail
  have hv:∀k,∃v,k<T->(F g k v w'∧ ∀o s,ops[k]?=some o->o.dst=some s->a'.tmps[s]?=some v):=by
   intro k
   by_cases hk:k<T
   ·have r9:k<ops.size:=ah
    have oA:ops[k]?=some ops[k]:=Array.getElem?_eq_getElem r9
    cases hd:ops[k].dst with
    | none =>
     obtain ⟨v,hv⟩:=I.Ed k _ (all k hk) oA hd
     exact ⟨v,fun _=>⟨hv,fun o s ho hs=>by rw [oA] at ho;injection ho with ho;subst ho;rw [hd] at hs;cases hs⟩⟩
    | some s =>
     obtain ⟨v,hv,hF⟩:=I.val k _ s (all k hk) oA hd
     exact ⟨v,fun _=>⟨hF,fun o s' ho hs=>by rw [oA] at ho;injection ho with ho;subst ho;rw [hd] at hs;injection hs with hs;subst hs;exact hv⟩⟩
   ·exact ⟨undef,fun h=>absurd h hk⟩
  obtain ⟨vs,Es⟩:=Classical.axiomOfChoice hv
  have rb:∀p:Oper×Nat,p∈ops.toList.zipIdx.take T↔(p.2<T∧ops[p.2]?=some p.1):=by
   intro p
   rw [List.mem_iff_getElem?]
   constructor
   ·rintro ⟨x,hx⟩
    rw [List.getElem?_take] at hx
    split at hx
    ·rename_i AJ
     rw [List.getElem?_zipIdx] at hx
     cases ho:ops.toList[x]? with
     | none=>rw [ho] at hx;simp at hx
     | some q =>
      rw [ho] at hx
      simp at hx
      subst hx
      exact ⟨by simpa using AJ,by simpa using ho⟩
    ·cases hx
   ·rintro ⟨h1,h2⟩
    refine ⟨p.2,?_⟩
    rw [List.getElem?_take,if_pos h1,List.getElem?_zipIdx]
    have OE:ops.toList[p.2]?=some p.1:=by simpa using h2
    rw [OE];simp
  have jM:=jI vs (ops.toList.zipIdx.take T) a (by
   have h1:(ops.toList.zipIdx.take T).filterMap (·.1.dst)=(ops.toList.take T).filterMap (·.dst):=by
    conv=>rhs;rw [←List.zipIdx_map_fst 0 ops.toList,←List.map_take]
    rw [List.filterMap_map];rfl
   rw [h1]
   exact List.Nodup.sublist ((List.take_sublist T ops.toList).filterMap _) ik)
  have he:a'=eG (ops.toList.zipIdx.take T) vs a:=by
   have ht:a'.tmps=(eG (ops.toList.zipIdx.take T) vs a).tmps:=by
    apply Array.ext_getElem?
    intro s
    by_cases hs:∃(k:Nat) (o:Oper),k<T∧ops[k]?=some o∧o.dst=some s
    ·obtain ⟨k,o,hk,ho,hd⟩:=hs
     rw [(Es k hk).2 o s ho hd]
     exact (jM.2.2.1 (o,k) ((rb _).2 ⟨hk,ho⟩) s hd (by rw [dw];exact vq k o s ho hd)).symm
    ·rw [I.old s fun k o hl ho hd=>hs ⟨k,o,(Classical.byContradiction fun hk=>(by have:=tail k (Nat.le_of_not_lt hk);rw [this] at hl;cases hl)),ho,hd⟩]
     exact (jM.2.2.2 s fun p hp hd=>hs ⟨p.2,p.1,((rb p).1 hp).1,((rb p).1 hp).2,hd⟩).symm
   have hd:a'.defers=(eG (ops.toList.zipIdx.take T) vs a).defers:=I.sS.trans jM.2.1.symm
   cases a';cases h:eG (ops.toList.zipIdx.take T) vs a
   rw [h] at ht hd
   simp only at ht hd
   rw [ht,hd]
  rw [he]
  exact ke vs g w' I.grown hJ (fun k hk=>(Es k hk).1)
 have rest:∀(fuel:Nat) (listed:Array Bool) (a':Act) (w':World) (g: γ),Inv ops (F g) a w listed a' w'->J g w'->(∀j,T≤j->listed.getD j false=false)->(listed.toList.filter (· == false)).length=fuel->(∀k,k<T->listed.getD k false=true)->wpAny P .any ops Q fuel listed a' w':=by
  intro fuel listed a' w' g I hJ tail hc all
  have nG:listed=((List.range ops.size).map (decide<| · <T)).toArray:=by
   apply Array.ext_getElem?
   intro x
   by_cases hx:x<ops.size
   ·have Er:x<listed.size:=by rw [I.size];exact hx
    have hr:((List.range ops.size).map (decide<| · <T)).toArray[x]?=some (decide (x<T)):=by simp [hx]
    rw [hr]
    by_cases AJ:x<T
    ·have:=all x AJ;simp [Er] at this ⊢;rw [this,decide_eq_true AJ]
    ·have:=tail x ah;simp [Er] at this ⊢;rw [this,decide_eq_false AJ]
   ·rw [Array.getElem?_eq_none (by rw [I.size];omega),Array.getElem?_eq_none (by simp;omega)]
  have hlen:fuel=(ops.toList.drop T).length:=by
   rw [←hc,nG]
   simp only [List.length_drop,Array.length_toList,List.filter_map,List.length_map]
   have key:∀n,T≤n->((List.range n).filter ((fun x=>x == false) ∘ (decide<| · <T))).length=n-T:=by
    intro n hn
    induction n with
    | zero=>simp
    | succ n ih =>
     rw [List.range_succ,List.filter_append,List.length_append]
     by_cases PK:T≤n
     ·rw [ih PK]
      have:((fun x=>x == false) ∘ (decide<| · <T)) n=true:=by simp;omega
      rw [List.filter_cons_of_pos this];simp;omega
     ·obtain rfl:T=n+1:=ah
      have h1:(List.range n).filter ((fun x=>x == false) ∘ (decide<| · <n+1))= []:=by
       rw [List.filter_eq_nil_iff];intro x hx;have:=List.mem_range.1 hx;simp;omega
      have h2:[n].filter ((fun x=>x == false) ∘ (decide<| · <n+1))= []:=by
       rw [List.filter_eq_nil_iff];intro x hx;simp at hx;subst hx;simp
      rw [h1,h2];simp
   exact key ops.size ah
  rw [hlen]
  refine wpAny_of_seq (ops.toList.drop T) T listed a' w' (fun j=>by rw [List.getElem?_drop];simp) ?_ (done listed a' w' g I hJ all tail)
  rw [nG]
  simpa using Pt
 intro fuel
 induction fuel with
 | zero =>
  intro listed a' w' g I hJ tail hc
  refine rest 0 listed a' w' g I hJ tail hc fun k hk=>?_
  cases hx:listed.getD k false with
  | true=>rfl
  | false =>
   exfalso
   have iG:k<listed.size:=by rw [I.size];omega
   have:false∈listed.toList.filter (· == false):=by
    refine List.mem_filter.2 ⟨?_,rfl⟩
    have h1:listed.toList[k]?=some false:=by simp [iG] at hx ⊢;exact hx
    exact List.mem_of_getElem? h1
   have:=List.length_pos_of_mem this
   omega
 | succ fuel ih =>
  intro listed a' w' g I hJ tail hc
  by_cases hex:∀k,k<T->listed.getD k false=true
  ·exact rest (fuel+1) listed a' w' g I hJ tail hc hex
  have Po:∃k,k<T∧listed.getD k false=false:=by
   refine Classical.byContradiction fun gf=>hex fun k hk=>?_
   cases hx:listed.getD k false with
   | true=>rfl
   | false=>exact absurd ⟨k,hk,hx⟩ gf
  obtain ⟨k0,xU,H7⟩:=Po
  have P_:HeadInv .any ops T listed:=⟨I.size,fun j oj hj hl e he hb=>I.closed j oj hl hj e.on (by
    unfold bk
    exact List.mem_map.2 ⟨e,List.mem_filter.2 ⟨by simpa using he,hb⟩,rfl⟩),fun t ht Ps=>getD_in (by rw [I.size];exact Ps) (tail t ht)⟩
  have Iw:listed.getD k0 true=false:=getD_in (by rw [I.size];omega) H7
  refine ⟨fun hr=>(by
   obtain ⟨i,_,hi⟩:=ky listed a' w' g I k0 xU H7
   rw [hr] at hi;cases hi),fun i hi=>?_⟩
  have PR:i<T:=Classical.byContradiction fun h=>tail_waits J2 vJ hT P_ _ k0 rfl xU Iw i ah hi
  obtain ⟨h0,o,ho,gi⟩:=mem_ready.1 hi
  have Ix:i<listed.size:=by rw [I.size];exact (Array.getElem?_eq_some_iff.1 ho).1
  have OG:listed.getD i false=false:=by simp [Ix] at h0 ⊢;exact h0
  have jc:∀d∈bk o,listed.getD d false=true:=by
   intro d hd
   unfold bk at hd
   obtain ⟨e,he,rfl⟩:=List.mem_map.1 hd
   obtain ⟨Mb,K6⟩:=List.mem_filter.1 he
   exact gi e (by simpa using Mb) K6
  have next:∀v fp g',Below w'.heap.size w' fp->St i g w' g' fp->F g' i v fp->Inv ops (F g') a w (listed.setIfInBounds i true) (a'.put o.dst v) fp:=by
   intro v fp g' hb dP hF
   have lists:∀k,(listed.setIfInBounds i true).getD k false=true->k=i∨listed.getD k false=true:=by
    intro k hk
    by_cases sG:i=k
    ·exact .inl sG.symm
    ·right;rw [getD_set_ne false sG] at hk;exact hk
   have diff:∀k,listed.getD k false=true->i≠k:=fun k hk e=>by subst e;rw [OG] at hk;cases hk
   refine ⟨I.grown.pI hb,by simpa using I.size,?_,(pQ ..).trans I.zu,(put_defers ..).trans I.sS,?_,?_,?_⟩
   ·intro k p hk hp d hd
    rcases lists k hk with rfl|hk
    ·rw [ho] at hp;injection hp with hp;subst hp
     exact getD_set_true (jc d hd)
    ·exact getD_set_true (I.closed k p hk hp d hd)
   ·intro k p s hk hp hs
    rcases lists k hk with rfl|hk
    ·rw [ho] at hp;injection hp with hp;subst hp
     refine ⟨v,?_,hF⟩
     rw [hs]
     exact mn a' s v (by rw [I.zu,dw];exact vq k _ s ho hs)
    ·obtain ⟨u,hu,Sx⟩:=I.val k p s hk hp hs
     refine ⟨u,?_,mono i k u g g' w' fp (diff k hk) hb dP Sx⟩
     rw [gZ a' o.dst s v fun he=>?_]
     ·exact hu
     ·have:=oo ik ho hp he hs
      subst this
      rw [OG] at hk;cases hk
   ·intro k p hk hp hs
    rcases lists k hk with rfl|hk
    ·exact ⟨v,hF⟩
    ·obtain ⟨u,hu⟩:=I.Ed k p hk hp hs
     exact ⟨u,mono i k u g g' w' fp (diff k hk) hb dP hu⟩
   ·intro s hs
    rw [gZ a' o.dst s v (hs i o (by simp [Ix]) ho)]
    exact I.old s fun k p hk hp=>hs k p (getD_set_true hk) hp
  have nC:∀j,T≤j->(listed.setIfInBounds i true).getD j false=false:=fun j hj=>by rw [getD_set_ne false ah];exact tail j hj
  have nF:((listed.setIfInBounds i true).toList.filter (· == false)).length=fuel:=by
   have PM:((listed.setIfInBounds i true).toList.filter (· == false)).length+1=(listed.toList.filter (· == false)).length:=by
    rw [Array.toList_setIfInBounds]
    have jj:listed.toList[i]?=some false:=by simp [Ix] at h0 ⊢;exact h0
    exact pv _ i jj
   omega
  have iP:=vp i o PR ho g a' w' I.grown hJ I.zu (fun d hd=>by
   have hl:=jc d hd
   cases hp:ops[d]? with
   | none =>
    have qD:d<listed.size:=by
     rcases Nat.lt_or_ge d listed.size with h|h
     ·exact h
     ·simp [Array.getElem?_eq_none h] at hl
    rw [I.size] at qD
    rw [Array.getElem?_eq_getElem qD] at hp;cases hp
   | some p =>
    cases hs:p.dst with
    | none=>exact .inr ⟨p,rfl,hs⟩
    | some s =>
     left
     obtain ⟨u,hu,hF⟩:=I.val d p s hl hp hs
     unfold rP
     rw [hp]
     simp only [Option.bind_some,hs]
     simp [hu];exact hF) (fun s hs=>by
   show a'.tmps.getD s undef=a.tmps.getD s undef
   have:a'.tmps[s]?=a.tmps[s]?:=I.old s fun k p hk hp hd=>by
    have vG:k<T:=Classical.byContradiction fun h=>(by have:=tail k (Nat.le_of_not_lt h);rw [this] at hk;cases hk)
    exact hs k p vG hp hd
   simp [this])
  unfold gQ at iP
  unfold wpOp
  rw [ho]
  simp only
  by_cases hw:Region.wanted o (yielded ops a'.tmps)=true
  ·rw [if_pos hw] at iP ⊢
   left
   exact Oper.wp_mono (fun rK fp ⟨v,he,hb,g',dP,Nv,hF⟩=>by
    subst he
    exact ih _ _ _ _ (next v fp g' hb dP hF) Nv nC nF) iP
  ·rw [if_neg hw] at iP ⊢
   obtain ⟨g',dP,Nv,hF⟩:=iP
   exact ih _ _ _ _ (next undef w' g' (Below.refl _ _) dP hF) Nv nC nF
end
def y7 (P:Program) (s:AS) (o:Oper) (x:AV) (C:List Prop):Prop :=
 bx C-> ∀S0 w0 n O a w φ Q (b:Act),aL S0 w0 n O s a w φ->(∀g∈O,g<w.heap.size)->b.tmps=a.tmps->o.wp P b w (fun b' w'=>∃v,b'=b.put o.dst v∧Below w.heap.size w w'∧Den (az s.H φ) (aN S0 w' φ O) w' v x) Q
section
variable {P:Program} {s:AS} {o:Oper} {h:Hint} {r:AV×List Prop}
theorem r_ (hp:dc P s o r.1 r.2):y7 P s o r.1 r.2:=by
 intro hC S0 w0 n O a w φ Q b hs _ hb
 obtain ⟨v,cp,dU⟩:=hp hC S0 w0 n O a w φ hs
 rw [←eE hb] at cp
 exact cT cp ⟨v,rfl,Below.refl _ _,dU⟩
theorem kM {S0:bm} {w0 w w':World} {n:Nat} {O:List Nat} {a:Act} {φ:Nat->Option Nat} (hs:aL S0 w0 n O s a w φ) (hO:∀g∈O,g<w.heap.size) (hb:Below w.heap.size w w') (b:Nat) (h:aN S0 w φ O b∨(w.heap.size≤b∧b<w'.heap.size)):aN S0 w' φ O b:=by
 rcases h with h|⟨h1,h2⟩
 ·exact ⟨by have:=h.1;have:=hb.size;omega,h.2⟩
 ·exact ⟨h2,fun hm=>by have:=hO b hm;omega,fun i hi=>by have:=(hs.cW i b hi).2;omega,hs.new b (.inl (by have:=hs.cX.size;omega))⟩
theorem Ek {S0:bm} {w0 w:World} {n:Nat} {O:List Nat} {a:Act} {φ:Nat->Option Nat} (hs:aL S0 w0 n O s a w φ) (z:Nat):∀(parts:List (Nat×Operand)) (i:Nat) (cells:List AV) (cur:Array Value),fT s z i parts=some cells->dY cells=true->i*z+parts.length*z=cur.size ->
  cells.length=parts.length*z∧ ∃us:Array Value,Instr.fill (fun i=>some (i*z,z)) cur (parts.map fun p=>(p.1,a.eval p.2))=some us∧us.size=cur.size∧(∀j,j<i*z->us[j]?=cur[j]?)∧ ∀(j:Nat) u x,us[i*z+j]?=some u->cells[j]?=some x->cz (aN S0 w φ O) w u x
 | [],i,cells,cur,hc,hp,dw=>by cases hc;exact ⟨by simp,cur,rfl,rfl,fun _ _=>rfl,fun j u x _ hx=>by simp at hx⟩
 | (j,x)::l,i,cells,cur,hc,hp,dw=>by
  simp only [fT] at hc
  split at hc
  ·rename_i c m M_ K8 hm
   split at hc
   ·rename_i K7
    cases hc
    have M_:=Nat.eq_of_beq_eq_true M_
    have K7:=Nat.eq_of_beq_eq_true K7
    subst M_
    obtain ⟨vs,hv,hlen,dU⟩:=l8 (hs.bp x) K8
    have RK:dY m=true:=by
     have key:∀(c m:List AV),dY (c++m)=true->dY m=true:=by
      intro c
      induction c with
      | nil=>intro m h;exact h
      | cons y c ih =>
       intro m h
       simp only [List.cons_append,dY] at h
       split at h
       ·exact ih m h
       ·cases h
     exact key c m hp
    simp only [List.length_cons] at dw
    have KS:(l.length+1)*z=l.length*z+z:=by rw [Nat.add_mul,Nat.one_mul]
    have dz:(i+1)*z=i*z+z:=by rw [Nat.add_mul,Nat.one_mul]
    have Iz:((a.eval x).cells.zipIdx.foldl (fun cs (cj:Value×Nat)=>cs.setIfInBounds (i*z+cj.2) cj.1) cur)=(vs.zipIdx.foldl (fun cs (cj:Value×Nat)=>cs.setIfInBounds (i*z+cj.2) cj.1) cur):=by rw [hv];simp
    obtain ⟨GA,us,FE,H_,H9,M0⟩:=Ek hs z l (i+1) m (vs.zipIdx.foldl (fun cs (cj:Value×Nat)=>cs.setIfInBounds (i*z+cj.2) cj.1) cur) hm RK (by rw [jl];omega)
    rw [jl] at H_
    refine ⟨by rw [List.length_append,List.length_cons,GA,K7];omega,us,?_,H_,fun j hj=>?_,fun j u y hu hy=>?_⟩
    ·rw [List.map_cons]
     unfold Instr.fill
     simp only
     have Pm:(a.eval x).cells.size=z:=by rw [hv];simp;omega
     rw [if_neg (by rw [Pm];simp;omega),Iz]
     exact FE
    ·rw [H9 j ah,kp,if_neg ah]
    ·by_cases hj:j<z
     ·rw [H9 _ ah,kp,if_pos ah] at hu
      rw [List.getElem?_append_left ah] at hy
      have RB:vs[j]?=some u:=by rw [←hu];congr 1;omega
      exact (eH (dU j u y RB hy) (iz (l:=c++m) (j:=j) hp (by rw [List.getElem?_append_left ah];exact hy))).1
     ·rw [List.getElem?_append_right ah] at hy
      refine M0 (j-z) u y ?_ (by rw [←hy,K7])
      rw [←hu];congr 1;omega
   ·cases hc
  ·cases hc
theorem uK {c:Callee} {xs:Array Operand} {ts:Array TypeId} {f:FuncId} {args:List AV} {x:AV} {C:List Prop} (ho:o.op= .call ⟨c,xs,ts⟩) (hc:callee s c=some f) (hE:ib P f=true) (nD:bx C->bK P f args x) (hl:args.length=xs.toList.length)
  (hG:bx C-> ∀S0 w0 n O a w φ,aL S0 w0 n O s a w φ-> ∃S:Nat->Prop,(∀b,S b->b<w.heap.size)∧(∀(j:Nat) v y,(xs.toList.map a.eval)[j]?=some v->args[j]?=some y->cz S w v y)∧ ∀w' v O',sP (fun b=>S b∨(w.heap.size≤b∧b<w'.heap.size∧b ∉ O')) w' v x O'->sP (fun b=>aN S0 w φ O b∨(w.heap.size≤b∧b<w'.heap.size∧b ∉ O')) w' v x O'):y7 P s o (OH x) C:=by
 intro hC S0 w0 n O a w φ Q b hs hO hb
 have cp:=jq (P:=P) hs hc ho hE
 rw [←eE hb] at cp
 obtain ⟨S,hS,iC,uF⟩:=hG hC S0 w0 n O a w φ hs
 unfold Oper.wp
 rw [cp]
 have mT:=nD hC w S (xs.toList.map a.eval) hs.cX.mG hS (by simp [hl]) iC
 have e:(xs.toList.map a.eval).toArray=xs.map b.eval:=by rw [eE hb];apply Array.ext';simp
 rw [e] at mT
 refine mT.mono ?_
 rintro en w' ⟨v,O',rfl,pD,ik,mC,hg⟩
 refine ⟨v,rfl,pD,.rep (IQ (fun b hb=>?_) (fun g hg=>?_) (uF w' v O' hg))⟩
 ·exact kM hs hO pD b (hb.imp id fun h=>⟨h.1,h.2.1⟩)
 ·exact kM hs hO pD g (.inr (mC g hg))
theorem u6 (hr:ry P s o h=some r):y7 P s o r.1 r.2:=by
 unfold ry at hr
 split at hr
 ·rename_i t len parts ho
  split at hr
  ·rename_i el hu
   split at hr
   ·rename_i z zero hz hzero
    split at hr
    ·rename_i cells dM hlen AX uz
     split at hr
     ·rename_i hp
      cases hr
      intro hC S0 w0 n O a w φ Q b hs hO hb
      have hlen:=Nat.eq_of_beq_eq_true hlen
      have AX:len*(z+1)≤16777216:=Nat.le_of_ble_eq_true AX
      have hn:(named h cells).1=cells:=(g_ (C:=[]) (by rw [List.append_nil];exact hC)).1
      obtain ⟨h1,us,h2,h3,-,h4⟩:=Ek hs (z+1) parts.toList 0 cells ((Array.range (len*(z+1))).map (zero.cells[· %zero.cells.size]!)) dM hp (by simp [←hlen])
      have hm:len≤maxLen:=by
       have:len≤len*(z+1):=Nat.le_mul_of_pos_right _ ah
       unfold maxLen;omega
      have cp:(execOp b.eval o).run P w= .ok (.value (.slice (some ⟨w.heap.size,0,none⟩) len len)) {w with heap:=w.heap.push (.cells us el (0,0))}:=by
       have AH:(sizeOf el).run P w= .ok (z+1) w:=run_sizeOf hz
       have oP:(parts.map fun p=>(p.1,a.eval p.2)).toList=parts.toList.map fun p=>(p.1,a.eval p.2):=by simp
       rw [eE hb]
       unfold execOp
       simp only [ho,Instr.buildSlice,Sem.run_bind,run_underlying hu,Result.andThen_ok,AH,Sem.run_ite]
       rw [if_neg ah]
       by_cases h0:len*(z+1)=0
       ·rw [if_pos h0]
        simp only [Sem.run_pure,Result.andThen_ok]
        have:(Array.range (len*(z+1))).map (fun x=>(#[]:Array Value)[x%(#[]:Array Value).size]!)=(Array.range (len*(z+1))).map (fun x=>zero.cells[x%zero.cells.size]!):=by rw [h0,ig,ig]
        rw [this,oP,h2]
        rfl
       ·rw [if_neg h0]
        simp only [iO hzero,Result.andThen_ok,Sem.run_pure]
        rw [oP,h2]
        rfl
      have pD:Below w.heap.size w {w with heap:=w.heap.push (.cells us el (0,0))}:=⟨rfl,rfl,rfl,by simp,fun k hk=>cK w _ k hk⟩
      have gl:cells.length=(z+1)*len:=by rw [h1,hlen,Nat.mul_comm]
      refine cT cp ⟨_,rfl,pD,?_⟩
      simp only [hn]
      refine .rep (e9 (r:=⟨z+1,true,false,cells⟩) (dL w _) (kM hs hO pD _ (.inr ⟨Nat.le_refl _,by simp⟩)) cells 0 (by rw [h3,gl];simp [Nat.mul_comm]) gl (Nat.le_refl _) hm _ (fun _=>rfl) (fun j u x hu hx=>?_))
      exact (h4 j u x (by simpa using hu) hx).mono fun b hb=>⟨kM hs hO pD b (.inl hb),cK w _ b hb.1⟩
     ·cases hr
    ·cases hr
   ·cases hr
  ·cases hr
 ·rename_i t l c ho
  split at hr
  ·rename_i kl L kc C el hl hc hu
   split at hr
   ·rename_i i hi
    split at hr
    ·rename_i zero z hz dw
     split at hr
     ·rename_i hb
      cases hr
      have hb:=Nat.eq_of_beq_eq_true hb
      intro hC S0 w0 n O a w φ Q b hs hO GF
      obtain ⟨KY,hC⟩:=g_ hC
      obtain ⟨h1,h2,h3,h4,h5,-⟩:=hC
      have Mg:b.eval l= .int kl L:=by rw [eE GF];exact bL (hl ▸ hs.bp l)
      have ec:b.eval c= .int kc C:=by rw [eE GF];exact bL (hc ▸ hs.bp c)
      obtain ⟨cur,cp,wM,bu⟩:=run_make ho Mg ec hu hi hz dw hb h1 h2 h3 h4 h5 w
      have pD:Below w.heap.size w {w with heap:=w.heap.push (.cells cur el (0,0))}:=⟨rfl,rfl,rfl,by simp,fun k hk=>cK w _ k hk⟩
      have Gw:(zero.cells.toList.map bC).length=z+1:=by simp [hb]
      have Gy:=tl (zero.cells.toList.map bC) (z+1) Gw h.k
      have hle:(z+1)*h.k≤(z+1)*h.m:=Nat.mul_le_mul_left _ h3
      refine cT cp ⟨_,rfl,pD,?_⟩
      simp only [KY]
      refine .rep (e9 (r:=⟨z+1,true,false,tn (zero.cells.toList.map bC) h.k⟩) (dL w _) (kM hs hO pD _ (.inr ⟨Nat.le_refl _,by simp⟩)) _ 0 (by rw [Gy,wM];omega) Gy h3 h5 _ (fun _=>rfl) (fun j u x hu hx=>?_))
      have h6:=w_ _ (z+1) Gw ah _ _ _ hx
      have h7:=bu j u (by simpa using hu)
      rw [List.getElem?_map] at h6
      have h8:zero.cells.toList[j%(z+1)]?=some u:=by simpa using h7
      rw [h8] at h6;injection h6 with h6;subst h6;exact fN u
     ·cases hr
    ·cases hr
   ·cases hr
  ·cases hr
 ·exact r_ (kQ hr)
 ·rename_i c xs ts _ ho
  split at hr
  ·rename_i f x hc _
   split at hr
   ·rename_i hE _
    split at hr
    ·rename_i vs C hv sH
     cases hr
     refine uK ho hc hE (fun hC=>hC.1) ?_ fun hC S0 w0 n O a w φ hs=>?_
     ·have key:∀(l:List AV) (m:List AV),jQ s l=some m->m.length=l.length:=by
       intro l
       induction l with
       | nil=>intro m h;cases h;rfl
       | cons y l ih =>
        intro m h
        simp only [jQ] at h
        split at h
        ·rename_i y' m' _ hm
         cases h
         simp [ih m' hm]
        ·cases h
      rw [key _ _ hv];simp
     ·exact ⟨fun b=>b<w.heap.size,fun _ h=>h,(lM hs _ _ hv).2,fun w' v _ hg=>s_ sH hC.2 hg⟩
    ·cases hr
   ·rename_i hE _
    split at hr
    ·rename_i xS
     cases hr
     refine uK ho hc hE (fun hC=>hC.1) (by simp) fun hC S0 w0 n O a w φ hs=>⟨aN S0 w φ O,fun b hb=>hb.1,fun j v x hv hx=>?_,fun w' v _ hg=>hg⟩
     have M4:=lS xS hx
     rw [List.getElem?_map] at hv hx
     cases hj:xs.toList[j]? with
     | none=>rw [hj] at hv;cases hv
     | some y =>
      rw [hj] at hv hx
      injection hv with hv;injection hx with hx;subst hv;subst hx
      exact nW (hs.bp y) M4
    ·cases hr
   ·cases hr
  ·cases hr
 ·exact r_ (kQ hr)
end
section
variable {P:Program} {ops:List Oper} {S0:bm} {w0:World} {Q:Exit->Act->World->Prop}
theorem I9 {s:AS} {o:Oper} {h:Hint} {r:AV×List Prop} (hr:sL P ops s o h=some r) (hC:bx r.2) {n:Nat} {O:List Nat} {a b:Act} {w:World} {φ:Nat->Option Nat} (hs:aL S0 w0 n O s a w φ) (hO:∀g∈O,g<w.heap.size) (hb:b.tmps=a.tmps) :
  gQ P ops.toArray Q o b w fun v w'=>w.heap.size≤w'.heap.size∧Den (az s.H φ) (aN S0 w' φ O) w' v r.1:=by
 unfold sL at hr
 unfold gQ
 split at hr
 ·rename_i hg
  have hw:Region.wanted o (yielded ops.toArray b.tmps)=true:=by unfold Region.wanted;rw [hg]
  rw [if_pos hw]
  exact Oper.wp_mono (fun b' w' ⟨v,h1,h2,h3⟩=>⟨v,h1,h2,h2.size,h3⟩) (u6 hr hC S0 w0 n O a w φ Q b hs hO hb)
 ·rename_i j want hg
  split at hr
  ·rename_i p hp
   split at hr
   ·rename_i d hd
    split at hr
    ·rename_i bb uM
     have ht:=hs.get d
     rw [uM] at ht
     have hy:=me (ops:=ops) hp hd (qo ht)
     rw [←hb] at hy
     split at hr
     ·rename_i jX
      split at hr
      ·rename_i x C he
       cases hr
       obtain ⟨FP,hC⟩:=hC
       have hw:Region.wanted o (yielded ops.toArray b.tmps)=true:=by
        unfold Region.wanted;rw [hg];simp only [hy,FP]
        have:h.g=want:=by simpa using jX
        rw [this];simp
       rw [if_pos hw]
       exact Oper.wp_mono (fun b' w' ⟨v,h1,h2,h3⟩=>⟨v,h1,h2,h2.size,h3⟩) (u6 he hC S0 w0 n O a w φ Q b hs hO hb)
      ·cases hr
     ·rename_i jX
      cases hr
      obtain ⟨FP,-⟩:=hC
      have hw:¬Region.wanted o (yielded ops.toArray b.tmps)=true:=by
       unfold Region.wanted;rw [hg];simp only [hy,FP]
       have:¬h.g=want:=by simpa using jX
       simpa using this
      rw [if_neg hw]
      exact ⟨Nat.le_refl _,.rep (.val _)⟩
    ·rename_i arr uM
     have ht:=hs.get d
     rw [uM] at ht
     have hy:=mc (ops:=ops) hp hd (bL ht)
     rw [←hb] at hy
     cases hr
     have hw:¬Region.wanted o (yielded ops.toArray b.tmps)=true:=by
      unfold Region.wanted;rw [hg];simp [hy]
     rw [if_neg hw]
     exact ⟨Nat.le_refl _,.rep (.val _)⟩
    ·cases hr
   ·cases hr
  ·cases hr
end
def vT (s:AS):List (Nat×AV)->List (Nat×AV)
 | []=>[]
 | (i,x)::l=>(i,(view s x).getD .dead)::vT s l
theorem um (s:AS):∀(l:List (Nat×AV)) (i:Nat),look (vT s l) i=(look l i).map fun x=>(view s x).getD .dead
 | [],i=>rfl
 | (k,x)::l,i=>by
  simp only [vT,aE,um s l i]
  by_cases h:k=i<;>simp [h]
section
variable {P:Program} {n:Nat} {s:AS} {o:Oper} {h:Hint} {S0:bm} {w0 w:World} {O:List Nat} {a b:Act} {φ:Nat->Option Nat}
theorem GQ (hs:aL S0 w0 n O s a w φ):aL ⟨fun _=>True,fun _=>False,fun _=>none,a.defers⟩ w n [] ⟨vT s s.F,[]⟩ a w (fun _=>none) where
 jP:=hs.jP
 jS:=rfl
 cX:=⟨rfl,rfl,rfl,Nat.le_refl _,fun _ _ _=>rfl,hs.cX.mG,fun _ _ h=>h⟩
 cC:=fun i av hi=>by
  have hi:look (vT s s.F) i=some av:=hi
  rw [um] at hi
  cases hl:look s.F i with
  | none=>rw [hl] at hi;cases hi
  | some x =>
   rw [hl] at hi;injection hi with hi;subst hi
   show Den _ _ _ _ ((view s x).getD .dead)
   cases hv:view s x with
   | none=>exact .dead _
   | some y =>
    refine .rep ((xb hs (hs.cC i x hl) hv).mono ?_)
    intro b hb
    exact ⟨⟨hb,by simp,fun _ h=>(by cases h),trivial⟩,rfl⟩
 rows:=fun id r hr=>by cases hr
 only:=fun _ _=>rfl
 inj:=fun _ _ _ h=>by cases h
 cW:=fun _ _ h=>by cases h
 apart:=fun _ _ h=>by cases h
 new:=fun _ _=>trivial
theorem E3 {K:Act->World->Prop} {Q:Exit->Act->World->Prop} (h:o.wp P a w K (fun _ _ _=>False)) (hK:∀a' w',K a' w'->a'.defers=a.defers) (hb:b.tmps=a.tmps):o.wp P b w (fun b' w'=>∃v,b'=b.put o.dst v∧K (a.put o.dst v) w') Q:=by
 unfold Oper.wp at *
 rw [eE hb]
 generalize (execOp a.eval o).run P w=r at *
 cases r with
 | halt x w'=>cases x with
  | panic v=>exact h.elim
  | _=>exact h
 | ok x w'=>cases x with
  | value v=>exact ⟨v,rfl,h⟩
  | skip=>exact ⟨undef,rfl,h⟩
  | enter f args =>
   refine Calls.mono h fun e fp he=>?_
   cases e with
   | returned v=>exact ⟨v,rfl,he⟩
   | panicked c=>exact he.elim
   | outgrown=>obtain ⟨_,_,hf⟩:=he;exact hf.elim
  | defer d =>
   have:=congrArg List.length (hK _ _ h)
   rw [pr] at this
   simp at this
  | row r args=>exact Rows.mono h fun v fp he=>⟨v,rfl,he⟩
  | _=>exact h
def yl (P:Program) (n:Nat) (s:AS) (o:Oper) (h:Hint):Option (AV×List Prop) :=
 match o.guard,o.dst with
 | none,some d=>(match Bi P n ⟨vT s s.F,[]⟩ o h with
  | some (s',C)=>(match look s'.F d,look s'.H d with
   | some (.ref d'),some ⟨e,true,_,row⟩=>(match Nat.beq d' d with|true=>some (.own e row,C++ [lj row])|false=>none)
   | _,_=>none)
  | none=>none)
 | _,_=>none
theorem F8 {Q:Exit->Act->World->Prop} {ops:Array Oper} {x:AV} {C:List Prop} (hr:yl P n s o h=some (x,C)) (hC:bx C) (hs:aL S0 w0 n O s a w φ) (hb:b.tmps=a.tmps) :
  (∃e row,x= .own e row)∧gQ P ops Q o b w fun v w'=>∃O',h_ (fun _=>False) w' v x O'∧O'.Nodup∧ ∀g∈O',w.heap.size≤g∧g<w'.heap.size:=by
 unfold yl at hr
 split at hr
 ·rename_i d hg hd
  split at hr
  ·rename_i s' C' vp
   split at hr
   ·rename_i d' e fl row hF hH
    split at hr
    ·rename_i Sc
     cases hr
     have Sc:=Nat.eq_of_beq_eq_true Sc
     subst Sc
     obtain ⟨Qc,hv,-⟩:=bQ.1 hC
     refine ⟨⟨e,row,rfl⟩,?_⟩
     have hw:Region.wanted o (yielded ops b.tmps)=true:=by unfold Region.wanted;rw [hg]
     unfold gQ
     rw [if_pos hw]
     have key:=oc vp Qc ⟨fun _=>True,fun _=>False,fun _=>none,a.defers⟩ w a w (fun _ _ _=>False) ⟨_,GQ hs⟩
     refine Oper.wp_mono ?_ (E3 (Q:=Q) key (fun a' w' ⟨_,bY⟩=>bY.jS) hb)
     rintro b' w' ⟨v,rfl,cB,bY⟩
     refine ⟨v,rfl,bY.cX.below (fun _ h=>h),?_⟩
     have dw:d'<a.tmps.size:=by
      rcases Nat.lt_or_ge d' a.tmps.size with h|h
      ·exact h
      ·exfalso
       have dU:=bY.cC d' _ hF
       have uB:(a.put o.dst v).tmps.getD d' undef=undef:=by
        have:(a.put o.dst v).tmps.size≤d':=by rw [tD];exact h
        simp [Array.getElem?_eq_none this]
       rw [uB] at dU
       cases dU with
       | rep h=>cases h
     have ji:(a.put o.dst v).tmps.getD d' undef=v:=by rw [hd,pR a d' d' v dw,if_pos rfl]
     have dU:=bY.cC d' _ hF
     rw [ji] at dU
     have aP:=bY.rows d' _ hH
     have nE:=br (φ:=cB) hH
     unfold bN at aP
     cases dU with
     | rep h=>cases h
     | ref id e' m g l c hi hm hc hx gl =>
      rw [nE] at hi
      simp only [Option.some.injEq,Prod.mk.injEq] at hi
      obtain ⟨he,mb,cm⟩:=hi
      subst he;subst mb
      rw [cm] at aP
      obtain ⟨cur,te,fr,TF,gw,hle,mS,dM⟩:=aP
      have wM:cur.size=e*c:=by unfold aV at gl;rw [TF] at gl;exact gl
      refine ⟨[g],.own g l c e row cur te fr TF gw hm hc hx wM (fun j u x hu hx=>?_),by simp,fun g' ja=>by simp at ja;subst ja;exact ⟨(bY.cW _ _ cm).1.2.elim id fun h=>h.elim,(bY.cW _ _ cm).2⟩⟩
      obtain ⟨v',rfl⟩:=hv x (List.mem_of_getElem? hx)
      have:=dM j u _ hu hx
      have this:cz _ w' u (.val v'):=this
      cases this
      exact .val _
     | cD id e' hi =>
      rw [nE] at hi
      simp only [Option.some.injEq,Prod.mk.injEq] at hi
      obtain ⟨he,mb,cm⟩:=hi
      have:row= []:=List.eq_nil_of_length_eq_zero mb
      subst this
      exact ⟨[],.nil e,by simp,by simp⟩
    ·cases hr
   ·cases hr
  ·cases hr
 ·cases hr
end
def nf:AV->AV
 | .own _ _=>.dead
 | .box _=>.dead
 | x=>x
def qi (P:Program) (n:Nat) (s:AS) (ds:List Nat) (ops:List Oper) (hs:List (Nat×Hint)) (Ks:List Nat):List Oper->Nat->List AV->Option (List AV×List Prop)
 | [],_,gM=>some (gM,[])
 | o::l,i,gM=>match (match Ks.any (Nat.beq i) with
   | true=>yl P n (vL s ds ops (gM.map nf) o) o (gv hs i)
   | false=>sL P ops (vL s ds ops (gM.map nf) o) o (gv hs i)) with
  | some (x,C)=>(match qi P n s ds ops hs Ks l (i+1) (gM++ [x]) with|some (i7,D)=>some (i7,C++D)|none=>none)
  | none=>none
def i_:List Oper->List AV->List (Nat×Nat×List AV)
 | o::l,.own e row::m=>(match o.dst with|some d=>(d,e,row)::i_ l m|none=>i_ l m)
 | _::l,_::m=>i_ l m
 | _,_=>[]
def DF:AS->List (Nat×Nat×List AV)->AS
 | s,[]=>s
 | s,(d,e,row)::l=>DF ⟨(d,.ref d)::s.F,(d,⟨e,true,false,row⟩)::s.H⟩ l
def l0 (s:AS):List (Nat×Nat×List AV)->Bool
 | []=>true
 | (d,_,_)::l=>match look s.H d,Nat.ble d 999999999999 with|none,true=>l0 s l|_,_=>false
def yr (P:Program) (n T:Nat) (Ks:List Nat) (ops:List Oper) (hs:List (Nat×Hint)) (s:AS):Option (AS×List Prop) :=
 match P.follows .mixedOrders,lD ops.toArray n,oG ops.toArray T with
 | true,true,true=>(match qi P n s ((ops.take T).filterMap (·.dst)) ops hs Ks (ops.take T) 0 [] with
  | some (gM,C)=>(match l0 s (i_ (ops.take T) gM),j0 P n ops hs (ops.drop T) T (DF ⟨jb (ops.take T) (gM.map nf)++nA ((ops.take T).filterMap (·.dst)) s.F,s.H⟩ (i_ (ops.take T) gM)) with
   | true,some (s',D)=>some (s',C++D)
   | _,_=>none)
  | none=>none)
 | _,_,_=>none
theorem sf {P:Program} {n:Nat} {ops:List Oper} {s:AS} {ds:List Nat} {hs:List (Nat×Hint)} {Ks:List Nat}:∀(l:List Oper) (i:Nat) (gM i7:List AV) (C:List Prop),qi P n s ds ops hs Ks l i gM=some (i7,C)->bx C->gM.length=i ->
  i7.length=i+l.length∧i7.take i=gM∧ ∀(j:Nat) (o:Oper),l[j]?=some o-> ∃x D,i7[i+j]?=some x∧bx D∧(yl P n (vL s ds ops ((i7.take (i+j)).map nf) o) o (gv hs (i+j))=some (x,D)∨sL P ops (vL s ds ops ((i7.take (i+j)).map nf) o) o (gv hs (i+j))=some (x,D))
 | [],i,gM,i7,C,he,hC,hl=>by
  cases he
  exact ⟨by simp [hl],by rw [←hl,List.take_length],fun j o h=>by simp at h⟩
 | o::l,i,gM,i7,C,he,hC,hl=>by
  simp only [qi] at he
  split at he
  ·rename_i x C1 h1
   split at he
   ·rename_i SU D h2
    cases he
    obtain ⟨iI,hD⟩:=bQ.1 hC
    obtain ⟨e1,e2,e3⟩:=sf l (i+1) (gM++ [x]) i7 D h2 hD (by simp [hl])
    have e4:i7.take i=gM:=by
     have:=congrArg (List.take i) e2
     rw [List.take_take,Nat.min_eq_left ah,←hl,List.take_left] at this
     rw [←hl];exact this
    have e5:i7[i]?=some x:=by
     have h3:(i7.take (i+1))[i]?=some x:=by rw [e2,List.getElem?_append_right ah,hl];simp
     exact bX _ _ _ _ h3
    refine ⟨by rw [e1,List.length_cons];omega,e4,fun j p hp=>?_⟩
    cases j with
    | zero =>
     simp at hp;subst hp
     refine ⟨x,C1,by simpa using e5,iI,?_⟩
     simp only [Nat.add_zero]
     rw [e4]
     split at h1
     ·exact .inl h1
     ·exact .inr h1
    | succ j =>
     obtain ⟨y,D',h5,h6,h7⟩:=e3 j p (by simpa using hp)
     rw [show i+1+j=i+(j+1) by omega] at h5 h7
     exact ⟨y,D',h5,h6,h7⟩
   ·cases he
  ·cases he
theorem kg (s:AS):∀(L:List (Nat×Nat×List AV)),l0 s L=true↔ ∀p∈L,look s.H p.1=none∧p.1<1000000000000
 | []=>by simp [l0]
 | (d,e,row)::L=>by
  simp only [l0]
  split
  ·rename_i h hb
   have hb:=Nat.le_of_ble_eq_true hb
   rw [kg s L]
   constructor
   ·intro hL p hp
    rcases List.mem_cons.1 hp with rfl|hp
    ·exact ⟨h,by show d<_;omega⟩
    ·exact hL p hp
   ·intro hL p hp;exact hL p (by simp [hp])
  ·rename_i gf
   constructor
   ·intro hf;cases hf
   ·intro hL
    have:=hL (d,e,row) (by simp)
    exact (gf this.1 (by have:=this.2;simp at this;exact Nat.ble_eq_true_of_le ah)).elim
theorem wC:∀(l:List Oper) (m:List AV) (p:Nat×Nat×List AV),p∈i_ l m->p.1∈l.filterMap (·.dst)
 | [],m,p,h=>by cases m<;>simp [i_] at h
 | o::l,[],p,h=>by simp [i_] at h
 | o::l,x::m,p,h=>by
  have step:p∈i_ l m->p.1∈(o::l).filterMap (·.dst):=fun h=>by
   have:=wC l m p h
   rw [List.mem_filterMap] at this ⊢
   obtain ⟨q,h1,h2⟩:=this
   exact ⟨q,by simp [h1],h2⟩
  cases x with
  | own e row =>
   simp only [i_] at h
   split at h
   ·rename_i d hd
    rcases List.mem_cons.1 h with rfl|h
    ·rw [List.mem_filterMap];exact ⟨o,by simp,hd⟩
    ·exact step h
   ·exact step h
  | _=>exact step h
def fy (own:Nat->List Nat):List Oper->List AV->Nat->List Nat
 | o::l,.own _ _::m,i=>(match o.dst with|some _=>own i++fy own l m (i+1)|none=>fy own l m (i+1))
 | _::l,_::m,i=>fy own l m (i+1)
 | _,_,_=>[]
theorem nX (own:Nat->List Nat):∀(l:List Oper) (m:List AV) (i g:Nat),g∈fy own l m i-> ∃k,i≤k∧k<i+l.length∧g∈own k
 | [],m,i,g,h=>by cases m<;>simp [fy] at h
 | o::l,[],i,g,h=>by simp [fy] at h
 | o::l,x::m,i,g,h=>by
  have step:g∈fy own l m (i+1)-> ∃k,i≤k∧k<i+(o::l).length∧g∈own k:=fun h=>by
   obtain ⟨k,h1,h2,h3⟩:=nX own l m (i+1) g h
   exact ⟨k,ah,by simp only [List.length_cons];omega,h3⟩
  cases x with
  | own e row =>
   simp only [fy] at h
   split at h
   ·rcases List.mem_append.1 h with h|h
    ·exact ⟨i,ah,by simp only [List.length_cons];omega,h⟩
    ·exact step h
   ·exact step h
  | _=>exact step h
theorem rZ (own:Nat->List Nat) (h1:∀k,(own k).Nodup) (h2:∀j k g,g∈own j->g∈own k->j=k):∀(l:List Oper) (m:List AV) (i:Nat),(fy own l m i).Nodup
 | [],m,i=>by cases m<;>simp [fy]
 | o::l,[],i=>by simp [fy]
 | o::l,x::m,i=>by
  have ih:=rZ own h1 h2 l m (i+1)
  cases x with
  | own e row =>
   simp only [fy]
   split
   ·rw [List.nodup_append]
    refine ⟨h1 i,ih,fun g hg g' ja e=>?_⟩
    subst e
    obtain ⟨k,h3,-,h4⟩:=nX own l m (i+1) _ ja
    have:=h2 i k _ hg h4
    omega
   ·exact ih
  | _=>exact ih
section
variable {S0:bm} {w0 w:World} {n:Nat} {a:Act}
theorem y1 (own:Nat->List Nat):∀(l:List Oper) (m:List AV) (i:Nat) (s:AS) (φ:Nat->Option Nat),aL S0 w0 n (fy own l m i) s a w φ ->
  (∀(j:Nat) o e row d,l[j]?=some o->m[j]?=some (.own e row)->o.dst=some d->h_ (fun _=>False) w (a.tmps.getD d undef) (.own e row) (own (i+j))) ->
  (fy own l m i).Nodup->(∀g∈fy own l m i,(w0.heap.size≤g∨S0.X g)∧g<w.heap.size)->l0 s (i_ l m)=true->(l.filterMap (·.dst)).Nodup ->
  ∃ cB,aL S0 w0 n [] (DF s (i_ l m)) a w cB
 | [],m,i,s,φ,h,_,_,_,_,_=>by cases m<;>exact ⟨φ,h⟩
 | o::l,[],i,s,φ,h,_,_,_,_,_=>⟨φ,h⟩
 | o::l,x::m,i,s,φ,h,hv,ik,mC,gw,Np=>by
  have Nn:(l.filterMap (·.dst)).Nodup:=List.Nodup.sublist ((List.sublist_cons_self o l).filterMap _) Np
  have H8:∀(j:Nat) o e row d,l[j]?=some o->m[j]?=some (.own e row)->o.dst=some d->h_ (fun _=>False) w (a.tmps.getD d undef) (.own e row) (own (i+1+j)):=fun j p e row d h1 h2 h3=>by
   have:=hv (j+1) p e row d (by simpa using h1) (by simpa using h2) h3
   rwa [show i+(j+1)=i+1+j by omega] at this
  cases x with
  | own e row =>
   cases hd:o.dst with
   | none =>
    have e1:fy own (o::l) (.own e row::m) i=fy own l m (i+1):=by simp only [fy,hd]
    have e2:i_ (o::l) (.own e row::m)=i_ l m:=by simp only [i_,hd]
    rw [e1] at h ik mC
    rw [e2] at gw ⊢
    exact y1 own l m (i+1) s φ h H8 ik mC gw Nn
   | some d =>
    have e1:fy own (o::l) (.own e row::m) i=own i++fy own l m (i+1):=by simp only [fy,hd]
    have e2:i_ (o::l) (.own e row::m)=(d,e,row)::i_ l m:=by simp only [i_,hd]
    rw [e1] at h ik mC
    rw [e2] at gw ⊢
    have Nf:=(kg s _).1 gw
    have hg:=hv 0 o e row d rfl rfl hd
    simp only [Nat.add_zero] at hg
    obtain ⟨iH,h1,h2,-⟩:=mg (S0:=S0) (w0:=w0) (w:=w) (n:=n) (a:=a) s φ (own i) (fy own l m (i+1)) _ (.own e row) d h (hg.mono fun b hb=>hb.elim) ik (fun g hg=>mC g (by simp [hg])) (fun j hj=>by
     simp [jr] at hj;subst hj;exact Nf _ (List.mem_cons_self ..)) (by simp [jr])
    have h3:aL S0 w0 n (fy own l m (i+1)) ⟨(d,.ref d)::s.F,(d,⟨e,true,false,row⟩)::s.H⟩ a w iH:=by
     refine ⟨h1.jP,h1.jS,h1.cX,fun j av hj=>?_,h1.rows,h1.only,h1.inj,h1.cW,h1.apart,h1.new⟩
     have hj:look ((d,AV.ref d)::s.F) j=some av:=hj
     rw [aE] at hj
     by_cases Sb:d=j
     ·rw [if_pos Sb] at hj;injection hj with hj;subst hj;subst Sb
      exact h2
     ·rw [if_neg Sb] at hj
      exact h1.cC j av hj
    refine y1 own l m (i+1) _ iH h3 H8 (List.nodup_append.1 ik).2.1 (fun g hg=>mC g (by simp [hg])) ?_ Nn
    rw [kg]
    intro p hp
    refine ⟨?_,(Nf p (by simp [hp])).2⟩
    show look ((d,_)::s.H) p.1=none
    rw [aE]
    have cV:d≠p.1:=fun e=>by
     have:=wC l m p hp
     rw [List.filterMap_cons_some (by simpa using hd)] at Np
     exact (List.nodup_cons.1 Np).1 (by rw [e];exact this)
    rw [if_neg cV]
    exact (Nf p (by simp [hp])).1
  | _=>exact y1 own l m (i+1) s φ h H8 ik mC gw Nn
theorem h_.grow {w w':World} (hb:Below w.heap.size w w') {v:Value} {x:AV} {O:List Nat} (h:h_ (fun _=>False) w v x O):h_ (fun _=>False) w' v x O:=by
 cases h with
 | rep h=>exact .rep (h.mono fun b hb=>hb.elim)
 | nil e=>exact .nil e
 | own g l c e row cur te fr hg hf hl hc hm hs h =>
  have dh:g<w.heap.size:=(Array.getElem?_eq_some_iff.1 hg).1
  exact .own g l c e row cur te fr ((hb.block g dh).trans hg) hf hl hc hm hs fun j u x hu hx=>(h j u x hu hx).mono fun b hb=>hb.elim
 | box g row cur te fr hg hf hs h =>
  have dh:g<w.heap.size:=(Array.getElem?_eq_some_iff.1 hg).1
  exact .box g row cur te fr ((hb.block g dh).trans hg) hf hs fun j u x hu hx=>(h j u x hu hx).mono fun b hb=>hb.elim
theorem qF {I:Info} {S:Nat->Prop} {v:Value} {x:AV} (h:Den I S w v x):nf x=x:=by
 cases x with
 | own e row=>cases h with|rep h=>cases h
 | box row=>cases h with|rep h=>cases h
 | _=>rfl
end
section
variable {P:Program} {ops:List Oper} {S0:bm} {w0:World} {Q:Exit->Act->World->Prop}
def sO (T:Nat) (own:Nat->List Nat):List Nat:=(List.range T).flatMap own
theorem kG {T g:Nat} {own:Nat->List Nat}:g∈sO T own↔ ∃k,k<T∧g∈own k:=by
 unfold sO
 rw [List.mem_flatMap]
 exact ⟨fun ⟨k,h1,h2⟩=>⟨k,List.mem_range.1 h1,h2⟩,fun ⟨k,h1,h2⟩=>⟨k,List.mem_range.2 h1,h2⟩⟩
def Hx (own:Nat->List Nat) (i:Nat) (O:List Nat):Nat->List Nat:=fun k=>if k=i then O else own k
theorem C3 {n T:Nat} {Ks:List Nat} {hs:List (Nat×Hint)} {s s':AS} {C:List Prop} (he:yr P n T Ks ops hs s=some (s',C)) (hC:bx C) {a:Act} {w:World} (fZ:iu S0 w0 n s a w) (hQ:∀a' w',iu S0 w0 n s' a' w'->Q .normal a' w'):P.follows .mixedOrders=true∧wpAny P .any ops.toArray Q ops.toArray.size (Array.replicate ops.toArray.size false) a {w with drawn:=w.drawn+1}:=by
 unfold yr at he
 split at he
 ·rename_i hm hB hT
  split at he
  ·rename_i gM C1 CA
   split at he
   ·rename_i s2 D gw oO
    cases he
    obtain ⟨iI,hD⟩:=bQ.1 hC
    obtain ⟨φ,lH⟩:=fZ
    obtain ⟨hlen,-,gh⟩:=sf _ 0 [] gM C1 CA iI rfl
    simp only [Nat.zero_add] at hlen gh
    obtain ⟨dh,ik,vq⟩:=fR hB
    unfold oG at hT
    simp only [Bool.and_eq_true,decide_eq_true_eq] at hT
    obtain ⟨⟨⟨GG,Ld⟩,Lc⟩,Lb⟩:=hT
    have Sm:T<ops.length:=by simpa using GG
    have Sl:gM.length=T:=by rw [hlen,List.length_take];omega
    let F:(Nat->List Nat)->Nat->Value->World->Prop:=fun own k v w'=>w.heap.size≤w'.heap.size∧ ∀x,gM[k]?=some x->((∃e row,x= .own e row)∧h_ (fun _=>False) w' v x (own k))∨Den (az s.H φ) (aN S0 w' φ (sO T own)) w' v x
    let J:(Nat->List Nat)->World->Prop:=fun own w'=>(∀k,(own k).Nodup)∧(∀j k g,g∈own j->g∈own k->j=k)∧(∀k g,g∈own k->w.heap.size≤g∧g<w'.heap.size)
    let St:Nat->(Nat->List Nat)->World->(Nat->List Nat)->World->Prop:=fun i own w1 ua _=>(∀k,k≠i->ua k=own k)∧ ∀g∈ua i,w1.heap.size≤g
    have uE:∀i k v own ua w1 w2,i≠k->Below w1.heap.size w1 w2->St i own w1 ua w2->F own k v w1->F ua k v w2:=by
     intro i k v own ua w1 w2 L_ hb ⟨S4,Ub⟩ ⟨h1,h2⟩
     refine ⟨Nat.le_trans h1 hb.size,fun x hx=>?_⟩
     rcases h2 x hx with ⟨e,hg⟩|dU
     ·left;rw [S4 k (Ne.symm L_)];exact ⟨e,hg.grow hb⟩
     ·right
      have uB:∀b,aN S0 w1 φ (sO T own) b->b ∉ sO T ua:=fun b hS rb=>by
       obtain ⟨j,hj,J3⟩:=kG.1 rb
       by_cases L9:j=i
       ·subst L9;have:=Ub b J3;have:=hS.1;omega
       ·rw [S4 j L9] at J3;exact hS.2.1 (kG.2 ⟨j,hj,J3⟩)
      have gl:∀id e m g,az s.H φ id=some (e,m,some g)->aV w2 g=aV w1 g:=fun id e m g hi=>by
       obtain ⟨r,-,-,-,cm⟩:=aQ hi
       have:=(lH.cW id g cm).2
       unfold aV;rw [hb.block g ah]
      exact dU.mono (fun _ _ h=>h) (fun b hS=>⟨⟨by have:=hS.1;have:=hb.size;omega,uB b hS,hS.2.2⟩,hb.block b hS.1⟩) gl
    have waiting:∀(O:List Nat) w',Below w.heap.size w w'->(∀g∈O,w.heap.size≤g)->aL S0 w0 n O s a w' φ:=by
     intro O w' hb hO
     have h1:=nQ O [] s φ lH hO
     rw [List.append_nil] at h1
     exact h1.grow hb
    refine ⟨hm,zl (γ :=Nat->List Nat) GG Ld Lc Lb lH.jP hB F J St uE ?_ ?_ ops.toArray.size _ a _ (fun _=>[]) ⟨(Below.refl _ _).drew,by simp,?_,rfl,rfl,?_,?_,fun _ _=>rfl⟩ ⟨by simp,by simp,by simp⟩ (fun j _=>by simp only [List.size_toArray];exact getD_replicate_false _ _) (by simp)⟩
    ·
     intro k o vG ho own a' w' hb hJ RC jc fq
     have ra:ops[k]?=some o:=by simpa using ho
     obtain ⟨x,Dk,hx,QY,dZ⟩:=gh k o (by rw [List.getElem?_take,if_pos vG];exact ra)
     have kL:Below w.heap.size w w':=hb
     have Sr:∀g∈sO T own,w.heap.size≤g:=fun g hg=>by
      obtain ⟨j,-,hj⟩:=kG.1 hg
      exact (hJ.2.2 j g hj).1
     have Nu:∀g∈sO T own,g<w'.heap.size:=fun g hg=>by
      obtain ⟨j,-,hj⟩:=kG.1 hg
      exact (hJ.2.2 j g hj).2
     have hg:=waiting (sO T own) w' kL Sr
     have J2:aL S0 w0 n (sO T own) (vL s ((ops.take T).filterMap (·.dst)) ops ((gM.take k).map nf) o) ⟨a'.tmps,S0.si⟩ w' φ:=by
      refine ⟨RC.trans lH.jP,rfl,hg.cX,fun i av hi=>?_,hg.rows,hg.only,hg.inj,hg.cW,hg.apart,hg.new⟩
      show Den (az s.H φ) _ _ _ _
      unfold vL at hi
      rw [bM] at hi
      cases IC:look (jo ops ((gM.take k).map nf) (bk o)) i with
      | some y =>
       rw [IC] at hi
       simp at hi;subst hi
       obtain ⟨d,p,h1,h2,h3,h4⟩:=nZ _ _ _ _ _ IC
       rcases jc d h1 with hF|⟨q,hq,hn⟩
       ·have ji:rP ops.toArray a' d=a'.tmps.getD i undef:=by
         unfold rP
         have:(ops.toArray[d]?).bind (·.dst)=some i:=by simp [h2,h3]
         rw [this]
        rw [ji] at hF
        rw [List.getElem?_map] at h4
        cases hz:(gM.take k)[d]? with
        | none=>rw [hz] at h4;cases h4
        | some z =>
         rw [hz] at h4;injection h4 with h4;subst h4
         rcases hF.2 z (bX _ _ _ _ hz) with ⟨⟨e,row,rfl⟩,-⟩|dU
         ·exact .dead _
         ·rw [qF dU];exact dU
       ·have gL:ops[d]?=some q:=by simpa using hq
        rw [h2] at gL;injection gL with gL;subst gL
        rw [h3] at hn;cases hn
      | none =>
       rw [IC] at hi
       simp at hi
       obtain ⟨h1,h2⟩:=fP _ _ _ _ hi
       have hk:=fq i (fun j p hj hp=>(ko ops T i).1 h2 j p hj (by simpa using hp))
       have oA:a'.tmps.getD i undef=a.tmps.getD i undef:=hk
       show Den _ _ _ (a'.tmps.getD i undef) av
       rw [oA]
       exact hg.cC i av h1
     have iP:gQ P ops.toArray Q o a' w' fun v w2=>w'.heap.size≤w2.heap.size∧ ∃O',O'.Nodup∧(∀g∈O',w'.heap.size≤g∧g<w2.heap.size)∧(((∃e row,x= .own e row)∧h_ (fun _=>False) w2 v x O')∨(O'= []∧Den (az s.H φ) (aN S0 w2 φ (sO T own)) w2 v x)):=by
      rcases dZ with dZ|dZ
      ·obtain ⟨JZ,hr⟩:=F8 (Q:=Q) (ops:=ops.toArray) dZ QY J2 (b:=a') rfl
       unfold gQ at hr ⊢
       split
       ·rename_i hw
        rw [if_pos hw] at hr
        exact Oper.wp_mono (fun b' w2 ⟨v,h1,h2,O',h3,h4,h5⟩=>⟨v,h1,h2,h2.size,O',h4,h5,.inl ⟨JZ,h3⟩⟩) hr
       ·rename_i hw
        rw [if_neg hw] at hr
        obtain ⟨O',h3,h4,h5⟩:=hr
        exact ⟨Nat.le_refl _,O',h4,h5,.inl ⟨JZ,h3⟩⟩
      ·have hr:=I9 (Q:=Q) (ops:=ops) dZ QY J2 Nu (b:=a') rfl
       unfold gQ at hr ⊢
       split
       ·rename_i hw
        rw [if_pos hw] at hr
        exact Oper.wp_mono (fun b' w2 ⟨v,h1,h2,h3,h4⟩=>⟨v,h1,h2,h3,[],by simp,by simp,.inr ⟨rfl,h4⟩⟩) hr
       ·rename_i hw
        rw [if_neg hw] at hr
        exact ⟨hr.1,[],by simp,by simp,.inr ⟨rfl,hr.2⟩⟩
     have fin:∀v w2,(w'.heap.size≤w2.heap.size∧ ∃O',O'.Nodup∧(∀g∈O',w'.heap.size≤g∧g<w2.heap.size)∧(((∃e row,x= .own e row)∧h_ (fun _=>False) w2 v x O')∨(O'= []∧Den (az s.H φ) (aN S0 w2 φ (sO T own)) w2 v x)))-> ∃ua,St k own w' ua w2∧J ua w2∧F ua k v w2:=by
      rintro v w2 ⟨dw,O',h4,h5,h6⟩
      have p1:∀j,j≠k->Hx own k O' j=own j:=fun j hj=>by unfold Hx;rw [if_neg hj]
      have p2:Hx own k O' k=O':=by unfold Hx;rw [if_pos rfl]
      refine ⟨Hx own k O',⟨p1,fun g hg=>by rw [p2] at hg;exact (h5 g hg).1⟩,⟨fun j=>?_,fun i j g hi hj=>?_,fun j g hj=>?_⟩,Nat.le_trans kL.size dw,fun y hy=>?_⟩
      ·by_cases hj:j=k
       ·subst hj;rw [p2];exact h4
       ·rw [p1 j hj];exact hJ.1 j
      ·by_cases L_:i=k
       ·by_cases vH:j=k
        ·rw [L_,vH]
        ·subst L_
         rw [p2] at hi;rw [p1 j vH] at hj
         have:=(h5 g hi).1;have:=(hJ.2.2 j g hj).2;omega
       ·by_cases vH:j=k
        ·subst vH
         rw [p2] at hj;rw [p1 i L_] at hi
         have:=(h5 g hj).1;have:=(hJ.2.2 i g hi).2;omega
        ·rw [p1 i L_] at hi;rw [p1 j vH] at hj;exact hJ.2.1 i j g hi hj
      ·by_cases vH:j=k
       ·subst vH;rw [p2] at hj
        exact ⟨Nat.le_trans kL.size (h5 g hj).1,(h5 g hj).2⟩
       ·rw [p1 j vH] at hj
        exact ⟨(hJ.2.2 j g hj).1,Nat.lt_of_lt_of_le (hJ.2.2 j g hj).2 dw⟩
      ·rw [hx] at hy;injection hy with hy;subst hy
       rcases h6 with ⟨e1,e2⟩|⟨e1,e2⟩
       ·left;rw [p2];exact ⟨e1,e2⟩
       ·right
        subst e1
        refine e2.mono (fun _ _ h=>h) (fun b hS=>⟨⟨hS.1,fun hm=>?_,hS.2.2⟩,rfl⟩) (fun _ _ _ _ _=>rfl)
        obtain ⟨j,hj,J3⟩:=kG.1 hm
        by_cases vH:j=k
        ·subst vH;rw [p2] at J3;simp at J3
        ·rw [p1 j vH] at J3;exact hS.2.1 (kG.2 ⟨j,hj,J3⟩)
     unfold gQ at iP ⊢
     split
     ·rename_i hw
      rw [if_pos hw] at iP
      exact Oper.wp_mono (fun b' w2 ⟨v,h1,h2,h3⟩=>⟨v,h1,h2,fin v w2 h3⟩) iP
     ·rename_i hw
      rw [if_neg hw] at iP
      exact fin undef w' iP
    ·
     intro vs own w' hb hJ xW
     have kL:Below w.heap.size w w':=hb
     have Ct:∀g∈fy own (ops.take T) gM 0,g∈sO T own:=fun g hg=>by
      obtain ⟨j,h1,h2,h3⟩:=nX own _ _ 0 g hg
      exact kG.2 ⟨j,by rw [List.length_take] at h2;omega,h3⟩
     have hOr:∀g∈fy own (ops.take T) gM 0,w.heap.size≤g∧g<w'.heap.size:=fun g hg=>by
      obtain ⟨j,h1,h2,h3⟩:=nX own _ _ 0 g hg
      exact hJ.2.2 j g h3
     have hg:=waiting (fy own (ops.take T) gM 0) w' kL (fun g hg=>(hOr g hg).1)
     have jM:=jI vs (ops.zipIdx.take T) a (by
      have h1:(ops.zipIdx.take T).filterMap (·.1.dst)=(ops.take T).filterMap (·.dst):=by
       conv=>rhs;rw [←List.zipIdx_map_fst 0 ops,←List.map_take]
       rw [List.filterMap_map];rfl
      rw [h1]
      exact List.Nodup.sublist ((List.take_sublist T ops).filterMap _) (by simpa using ik))
     have Tk:∀(k:Nat) (o:Oper) (i:Nat),k<T->ops[k]?=some o->o.dst=some i->(eG (ops.zipIdx.take T) vs a).tmps.getD i undef=vs k:=by
      intro k o i vG ho hd
      have hv:=jM.2.2.1 (o,k) ((lV ops T _).2 ⟨vG,ho⟩) i hd (by rw [lH.jP];exact vq k o i (by simpa using ho) hd)
      simp [hv]
     show wpList P ops.toArray Q (ops.drop T) (eG (ops.zipIdx.take T) vs a) w'
     have hA:aL S0 w0 n (fy own (ops.take T) gM 0) ⟨jb (ops.take T) (gM.map nf)++nA ((ops.take T).filterMap (·.dst)) s.F,s.H⟩ (eG (ops.zipIdx.take T) vs a) w' φ:=by
      refine ⟨jM.1.trans lH.jP,jM.2.1.trans lH.jS,hg.cX,fun i av hi=>?_,hg.rows,hg.only,hg.inj,hg.cW,hg.apart,hg.new⟩
      show Den (az s.H φ) _ _ _ _
      have hi:look (jb (ops.take T) (gM.map nf)++nA ((ops.take T).filterMap (·.dst)) s.F) i=some av:=hi
      rw [bM] at hi
      cases hh:look (jb (ops.take T) (gM.map nf)) i with
      | some y =>
       rw [hh] at hi
       simp at hi;subst hi
       obtain ⟨k,o,h1,h2,h3⟩:=kJ _ _ _ _ hh
       have vG:k<T:=by have:=(List.getElem?_eq_some_iff.1 h3).1;rw [List.length_map] at this;omega
       have ho:ops[k]?=some o:=bX _ _ _ _ h1
       rw [Tk k o i vG ho h2]
       rw [List.getElem?_map] at h3
       cases hz:gM[k]? with
       | none=>rw [hz] at h3;cases h3
       | some z =>
        rw [hz] at h3;injection h3 with h3;subst h3
        rcases (xW k vG).2 z hz with ⟨⟨e,row,rfl⟩,-⟩|dU
        ·exact .dead _
        ·rw [qF dU]
         exact dU.mono (fun _ _ h=>h) (fun b hS=>⟨⟨hS.1,fun hm=>hS.2.1 (Ct b hm),hS.2.2⟩,rfl⟩) (fun _ _ _ _ _=>rfl)
      | none =>
       rw [hh] at hi
       simp at hi
       obtain ⟨h1,h2⟩:=fP _ _ _ _ hi
       have hv:=jM.2.2.2 i (fun p hp hd=>(ko ops T i).1 h2 p.2 p.1 ((lV ops T p).1 hp).1 ((lV ops T p).1 hp).2 hd)
       have:(eG (ops.zipIdx.take T) vs a).tmps.getD i undef=a.tmps.getD i undef:=by
        simp [hv]
       rw [this]
       exact hg.cC i av h1
     obtain ⟨cB,ke⟩:=y1 own (ops.take T) gM 0 _ φ hA (fun j o e row d h1 h2 h3=>by
      have QS:j<T:=by have:=(List.getElem?_eq_some_iff.1 h2).1;omega
      have ho:ops[j]?=some o:=bX _ _ _ _ h1
      rw [Tk j o d QS ho h3,Nat.zero_add]
      rcases (xW j QS).2 _ h2 with ⟨-,U1⟩|dU
      ·exact U1
      ·have:=qF dU;cases this) (rZ own hJ.1 hJ.2.1 _ _ 0) (fun g hg=>⟨.inl (Nat.le_trans lH.cX.size (hOr g hg).1),(hOr g hg).2⟩) (by
       rw [kg] at gw ⊢
       exact gw) (List.Nodup.sublist ((List.take_sublist T ops).filterMap _) (by simpa using ik))
     exact jN (S0:=S0) (w0:=w0) _ _ _ _ _ oO hD _ _ ⟨cB,ke⟩ hQ
    ·intro k o hk;rw [getD_replicate_false] at hk;cases hk
    ·intro k o s hk;rw [getD_replicate_false] at hk;cases hk
    ·intro k o hk;rw [getD_replicate_false] at hk;cases hk
   ·cases he
  ·cases he
 ·cases he
def rr (P:Program) (n T:Nat) (Ks:List Nat) (hs:List (Nat×Hint)) (c:Code) (s:AS):Option (AS×List Prop) :=
 match c with
 | .region _ ⟨l⟩ true=>yr P n T Ks l hs s
 | _=>none
theorem bf.O3 {n:Nat} {c:Code} {Q:Exit->AS->Prop} {s s':AS} {C:List Prop} (T:Nat) (Ks:List Nat) (hs:List (Nat×Hint)) (he:rr P n T Ks hs c s=some (s',C)) (hC:bx C) (h:Q .normal s'):bf P n c Q s:=by
 intro S0 w0 a w fZ
 unfold rr at he
 split at he
 ·exact C3 (S0:=S0) (w0:=w0) he hC fZ fun a' w' bY=>⟨s',h,bY.one⟩
 ·cases he
theorem bf.S_ {n:Nat} {c:Code} {Q:Exit->AS->Prop} {s:AS} {C:List Prop} (T:Nat) (Ks:List Nat) (hs:List (Nat×Hint)) (he:oY (rr P n T Ks hs c s)=some C) (hC:bx C) (h:Q .normal (pN (rr P n T Ks hs c s))):bf P n c Q s:=bf.O3 T Ks hs (iR he) hC h
end
end Go.Proofs.YtjgbhhnghedgdaaGreatDoor
