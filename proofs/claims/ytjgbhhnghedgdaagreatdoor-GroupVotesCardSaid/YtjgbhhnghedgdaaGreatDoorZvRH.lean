import Derived.Test.YtjgbhhnghedgdaaGreatDoorZvV8
set_option linter.all false
namespace Go.Proofs.YtjgbhhnghedgdaaGreatDoor
open Go.RowKit
section
variable {P:Program} {ops:Array Oper} {Q:Exit->Act->World->Prop} {a:Act} {w:World}
theorem AB {γ :Type} {n T:Nat} (hT:T<ops.size) (KG:Region.sinkB .any ops T=true) (tI:Region.chainB .any ops T=true) (Qf:Region.seqB .any ops (ops.size-T) T ((List.range ops.size).map (decide<| · <T)).toArray=true) (dv:a.tmps.size=n) (hB:l7 ops n=true) (F: γ ->Nat->Value->World->Prop) (J: γ ->World->Prop) (St:Nat-> γ ->World-> γ ->World->Prop) (mono:∀i k v g g' w1 w2,i≠k->Below w1.heap.size w1 w2->St i g w1 g' w2->F g k v w1->F g' k v w2)
  (uc:∀k o,k<T->ops[k]?=some o-> ∀g a' w',Below w.heap.size w w'->J g w'->a'.tmps.size=a.tmps.size->(∀d∈bl o,F g d (sO ops a' d) w'∨(∃p,ops[d]?=some p∧p.dst=none))->(∀s,(∀(j:Nat) (p:Oper),j<T->ops[j]?=some p->p.dst≠some s)->a'.eval (.tmp s)=a.eval (.tmp s))->h_ P ops Q o a' w' (fun v fJ=>∃g',St k g w' g' fJ∧J g' fJ∧F g' k v fJ))
  (kA:∀(vs:Nat->Value) (g: γ),∀w',Below w.heap.size w w'->J g w'->(∀k,k<T->F g k (vs k) w')->wpList P ops Q (ops.toList.drop T) (eZ (ops.toList.zipIdx.take T) vs a) w') :
  ∀(fuel:Nat) (listed:Array Bool) (a':Act) (w':World) (g: γ),Inv ops (F g) a w listed a' w'->J g w'->(∀j,T≤j->listed.getD j false=false) ->
   (listed.toList.filter (· == false)).length=fuel->wpAny P .any ops Q fuel listed a' w':=by
 obtain ⟨cW,iI,wM⟩:=gl hB
 have kS:∀(listed:Array Bool) (a':Act) (w':World) (g: γ),Inv ops (F g) a w listed a' w'-> ∀k,k<T->listed.getD k false=false-> ∃i,i<T∧i∈Region.ready .any ops listed:=by
  intro listed a' w' g I k
  induction k using Nat.strongRecOn with
  | _ k ih =>
   intro hk hl
   have iY:k<listed.size:=by rw [I.size];omega
   have w8:k<ops.size:=ag
   have pf:ops[k]?=some ops[k]:=Array.getElem?_eq_getElem w8
   by_cases gD:∀d∈bl ops[k],listed.getD d false=true
   ·refine ⟨k,hk,?_⟩
    rw [mem_ready]
    refine ⟨?_,ops[k],pf,fun e he hb=>gD e.on ?_⟩
    ·simp [iY] at hl ⊢;exact hl
    ·unfold bl
     exact List.mem_map.2 ⟨e,List.mem_filter.2 ⟨by simpa using he,hb⟩,rfl⟩
   ·have:∃d,d∈bl ops[k]∧listed.getD d false=false:=by
     refine Classical.byContradiction fun gr=>gD fun d hd=>?_
     cases hx:listed.getD d false with
     | true=>rfl
     | false=>exact absurd ⟨d,hd,hx⟩ gr
    obtain ⟨d,hd,hx⟩:=this
    exact ih d (cW k _ pf d hd) (by have:=cW k _ pf d hd;omega) hx
 have done:∀(listed:Array Bool) (a':Act) (w':World) (g: γ),Inv ops (F g) a w listed a' w'->J g w'->(∀k,k<T->listed.getD k false=true)->(∀j,T≤j->listed.getD j false=false)->wpList P ops Q (ops.toList.drop T) a' w':=by
  intro listed a' w' g I hJ all tail
  have hv:∀k,∃v,k<T->(F g k v w'∧ ∀o s,ops[k]?=some o->o.dst=some s->a'.tmps[s]?=some v):=by
   intro k
   by_cases hk:k<T
   ·have w8:k<ops.size:=ag
    have pf:ops[k]?=some ops[k]:=Array.getElem?_eq_getElem w8
    cases hd:ops[k].dst with
    | none =>
     obtain ⟨v,hv⟩:=I.EO k _ (all k hk) pf hd
     exact ⟨v,fun _=>⟨hv,fun o s ho hs=>by rw [pf] at ho;injection ho with ho;subst ho;rw [hd] at hs;cases hs⟩⟩
    | some s =>
     obtain ⟨v,hv,hF⟩:=I.val k _ s (all k hk) pf hd
     exact ⟨v,fun _=>⟨hF,fun o s' ho hs=>by rw [pf] at ho;injection ho with ho;subst ho;rw [hd] at hs;injection hs with hs;subst hs;exact hv⟩⟩
   ·exact ⟨undef,fun h=>absurd h hk⟩
  obtain ⟨vs,E5⟩:=Classical.axiomOfChoice hv
  have r6:∀p:Oper×Nat,p∈ops.toList.zipIdx.take T↔(p.2<T∧ops[p.2]?=some p.1):=by
   intro p
   rw [List.mem_iff_getElem?]
   constructor
   ·rintro ⟨x,hx⟩
    rw [List.getElem?_take] at hx
    split at hx
    ·rename_i BB
     rw [List.getElem?_zipIdx] at hx
     cases ho:ops.toList[x]? with
     | none=>rw [ho] at hx;simp at hx
     | some q =>
      rw [ho] at hx
      simp at hx
      subst hx
      exact ⟨by simpa using BB,by simpa using ho⟩
    ·cases hx
   ·rintro ⟨h1,h2⟩
    refine ⟨p.2,?_⟩
    rw [List.getElem?_take,if_pos h1,List.getElem?_zipIdx]
    have Pp:ops.toList[p.2]?=some p.1:=by simpa using h2
    rw [Pp];simp
  have jZ:=jV vs (ops.toList.zipIdx.take T) a (by
   have h1:(ops.toList.zipIdx.take T).filterMap (·.1.dst)=(ops.toList.take T).filterMap (·.dst):=by
    conv=>rhs;rw [←List.zipIdx_map_fst 0 ops.toList,←List.map_take]
    rw [List.filterMap_map];rfl
   rw [h1]
   exact List.Nodup.sublist ((List.take_sublist T ops.toList).filterMap _) iI)
  have he:a'=eZ (ops.toList.zipIdx.take T) vs a:=by
   have ht:a'.tmps=(eZ (ops.toList.zipIdx.take T) vs a).tmps:=by
    apply Array.ext_getElem?
    intro s
    by_cases hs:∃(k:Nat) (o:Oper),k<T∧ops[k]?=some o∧o.dst=some s
    ·obtain ⟨k,o,hk,ho,hd⟩:=hs
     rw [(E5 k hk).2 o s ho hd]
     exact (jZ.2.2.1 (o,k) ((r6 _).2 ⟨hk,ho⟩) s hd (by rw [dv];exact wM k o s ho hd)).symm
    ·rw [I.old s fun k o hl ho hd=>hs ⟨k,o,(Classical.byContradiction fun hk=>(by have:=tail k (Nat.le_of_not_lt hk);rw [this] at hl;cases hl)),ho,hd⟩]
     exact (jZ.2.2.2 s fun p hp hd=>hs ⟨p.2,p.1,((r6 p).1 hp).1,((r6 p).1 hp).2,hd⟩).symm
   have hd:a'.defers=(eZ (ops.toList.zipIdx.take T) vs a).defers:=I.tU.trans jZ.2.1.symm
   cases a';cases h:eZ (ops.toList.zipIdx.take T) vs a
   rw [h] at ht hd
   simp only at ht hd
   rw [ht,hd]
  rw [he]
  exact kA vs g w' I.grown hJ (fun k hk=>(E5 k hk).1)
 have rest:∀(fuel:Nat) (listed:Array Bool) (a':Act) (w':World) (g: γ),Inv ops (F g) a w listed a' w'->J g w'->(∀j,T≤j->listed.getD j false=false)->(listed.toList.filter (· == false)).length=fuel->(∀k,k<T->listed.getD k false=true)->wpAny P .any ops Q fuel listed a' w':=by
  intro fuel listed a' w' g I hJ tail hc all
  have om:listed=((List.range ops.size).map (decide<| · <T)).toArray:=by
   apply Array.ext_getElem?
   intro x
   by_cases hx:x<ops.size
   ·have Hf:x<listed.size:=by rw [I.size];exact hx
    have hr:((List.range ops.size).map (decide<| · <T)).toArray[x]?=some (decide (x<T)):=by simp [hx]
    rw [hr]
    by_cases BB:x<T
    ·have:=all x BB;simp [Hf] at this ⊢;rw [this,decide_eq_true BB]
    ·have:=tail x ag;simp [Hf] at this ⊢;rw [this,decide_eq_false BB]
   ·rw [Array.getElem?_eq_none (by rw [I.size];omega),Array.getElem?_eq_none (by simp;omega)]
  have hlen:fuel=(ops.toList.drop T).length:=by
   rw [←hc,om]
   simp only [List.length_drop,Array.length_toList,List.filter_map,List.length_map]
   have key:∀n,T≤n->((List.range n).filter ((fun x=>x == false) ∘ (decide<| · <T))).length=n-T:=by
    intro n hn
    induction n with
    | zero=>simp
    | succ n ih =>
     rw [List.range_succ,List.filter_append,List.length_append]
     by_cases Qx:T≤n
     ·rw [ih Qx]
      have:((fun x=>x == false) ∘ (decide<| · <T)) n=true:=by simp;omega
      rw [List.filter_cons_of_pos this];simp;omega
     ·obtain rfl:T=n+1:=ag
      have h1:(List.range n).filter ((fun x=>x == false) ∘ (decide<| · <n+1))= []:=by
       rw [List.filter_eq_nil_iff];intro x hx;have:=List.mem_range.1 hx;simp;omega
      have h2:[n].filter ((fun x=>x == false) ∘ (decide<| · <n+1))= []:=by
       rw [List.filter_eq_nil_iff];intro x hx;simp at hx;subst hx;simp
      rw [h1,h2];simp
   exact key ops.size ag
  rw [hlen]
  refine wpAny_of_seq (ops.toList.drop T) T listed a' w' (fun j=>by rw [List.getElem?_drop];simp) ?_ (done listed a' w' g I hJ all tail)
  rw [om]
  simpa using Qf
 intro fuel
 induction fuel with
 | zero =>
  intro listed a' w' g I hJ tail hc
  refine rest 0 listed a' w' g I hJ tail hc fun k hk=>?_
  cases hx:listed.getD k false with
  | true=>rfl
  | false =>
   exfalso
   have iY:k<listed.size:=by rw [I.size];omega
   have:false∈listed.toList.filter (· == false):=by
    refine List.mem_filter.2 ⟨?_,rfl⟩
    have h1:listed.toList[k]?=some false:=by simp [iY] at hx ⊢;exact hx
    exact List.mem_of_getElem? h1
   have:=List.length_pos_of_mem this
   omega
 | succ fuel ih =>
  intro listed a' w' g I hJ tail hc
  by_cases hex:∀k,k<T->listed.getD k false=true
  ·exact rest (fuel+1) listed a' w' g I hJ tail hc hex
  have Qa:∃k,k<T∧listed.getD k false=false:=by
   refine Classical.byContradiction fun gr=>hex fun k hk=>?_
   cases hx:listed.getD k false with
   | true=>rfl
   | false=>exact absurd ⟨k,hk,hx⟩ gr
  obtain ⟨k0,zl,IX⟩:=Qa
  have QZ:HeadInv .any ops T listed:=⟨I.size,fun j oj hj hl e he hb=>I.closed j oj hl hj e.on (by
    unfold bl
    exact List.mem_map.2 ⟨e,List.mem_filter.2 ⟨by simpa using he,hb⟩,rfl⟩),fun t ht Qe=>getD_in (by rw [I.size];exact Qe) (tail t ht)⟩
  have Jg:listed.getD k0 true=false:=getD_in (by rw [I.size];omega) IX
  refine ⟨fun hr=>(by
   obtain ⟨i,_,hi⟩:=kS listed a' w' g I k0 zl IX
   rw [hr] at hi;cases hi),fun i hi=>?_⟩
  have QE:i<T:=Classical.byContradiction fun h=>tail_waits KG tI hT QZ _ k0 rfl zl Jg i ag hi
  obtain ⟨h0,o,ho,gD⟩:=mem_ready.1 hi
  have Hk:i<listed.size:=by rw [I.size];exact (Array.getElem?_eq_some_iff.1 ho).1
  have Pq:listed.getD i false=false:=by simp [Hk] at h0 ⊢;exact h0
  have js:∀d∈bl o,listed.getD d false=true:=by
   intro d hd
   unfold bl at hd
   obtain ⟨e,he,rfl⟩:=List.mem_map.1 hd
   obtain ⟨ML,LJ⟩:=List.mem_filter.1 he
   exact gD e (by simpa using ML) LJ
  have next:∀v fJ g',Below w'.heap.size w' fJ->St i g w' g' fJ->F g' i v fJ->Inv ops (F g') a w (listed.setIfInBounds i true) (a'.put o.dst v) fJ:=by
   intro v fJ g' hb dJ hF
   have lists:∀k,(listed.setIfInBounds i true).getD k false=true->k=i∨listed.getD k false=true:=by
    intro k hk
    by_cases tH:i=k
    ·exact .inl tH.symm
    ·right;rw [getD_set_ne false tH] at hk;exact hk
   have diff:∀k,listed.getD k false=true->i≠k:=fun k hk e=>by subst e;rw [Pq] at hk;cases hk
   refine ⟨I.grown.qh hb,by simpa using I.size,?_,(qt ..).trans I.AL,(put_defers ..).trans I.tU,?_,?_,?_⟩
   ·intro k p hk hp d hd
    rcases lists k hk with rfl|hk
    ·rw [ho] at hp;injection hp with hp;subst hp
     exact getD_set_true (js d hd)
    ·exact getD_set_true (I.closed k p hk hp d hd)
   ·intro k p s hk hp hs
    rcases lists k hk with rfl|hk
    ·rw [ho] at hp;injection hp with hp;subst hp
     refine ⟨v,?_,hF⟩
     rw [hs]
     exact mY a' s v (by rw [I.AL,dv];exact wM k _ s ho hs)
    ·obtain ⟨u,hu,TV⟩:=I.val k p s hk hp hs
     refine ⟨u,?_,mono i k u g g' w' fJ (diff k hk) hb dJ TV⟩
     rw [iq a' o.dst s v fun he=>?_]
     ·exact hu
     ·have:=o8 iI ho hp he hs
      subst this
      rw [Pq] at hk;cases hk
   ·intro k p hk hp hs
    rcases lists k hk with rfl|hk
    ·exact ⟨v,hF⟩
    ·obtain ⟨u,hu⟩:=I.EO k p hk hp hs
     exact ⟨u,mono i k u g g' w' fJ (diff k hk) hb dJ hu⟩
   ·intro s hs
    rw [iq a' o.dst s v (hs i o (by simp [Hk]) ho)]
    exact I.old s fun k p hk hp=>hs k p (getD_set_true hk) hp
  have oe:∀j,T≤j->(listed.setIfInBounds i true).getD j false=false:=fun j hj=>by rw [getD_set_ne false ag];exact tail j hj
  have oi:((listed.setIfInBounds i true).toList.filter (· == false)).length=fuel:=by
   have QA:((listed.setIfInBounds i true).toList.filter (· == false)).length+1=(listed.toList.filter (· == false)).length:=by
    rw [Array.toList_setIfInBounds]
    have jx:listed.toList[i]?=some false:=by simp [Hk] at h0 ⊢;exact h0
    exact p7 _ i jx
   omega
  have i_:=uc i o QE ho g a' w' I.grown hJ I.AL (fun d hd=>by
   have hl:=js d hd
   cases hp:ops[d]? with
   | none =>
    have ue:d<listed.size:=by
     rcases Nat.lt_or_ge d listed.size with h|h
     ·exact h
     ·simp [Array.getElem?_eq_none h] at hl
    rw [I.size] at ue
    rw [Array.getElem?_eq_getElem ue] at hp;cases hp
   | some p =>
    cases hs:p.dst with
    | none=>exact .inr ⟨p,rfl,hs⟩
    | some s =>
     left
     obtain ⟨u,hu,hF⟩:=I.val d p s hl hp hs
     unfold sO
     rw [hp]
     simp only [Option.bind_some,hs]
     simp [hu];exact hF) (fun s hs=>by
   show a'.tmps.getD s undef=a.tmps.getD s undef
   have:a'.tmps[s]?=a.tmps[s]?:=I.old s fun k p hk hp hd=>by
    have w7:k<T:=Classical.byContradiction fun h=>(by have:=tail k (Nat.le_of_not_lt h);rw [this] at hk;cases hk)
    exact hs k p w7 hp hd
   simp [this])
  unfold h_ at i_
  unfold wpOp
  rw [ho]
  simp only
  by_cases hw:Region.wanted o (yielded ops a'.tmps)=true
  ·rw [if_pos hw] at i_ ⊢
   left
   exact Oper.wp_mono (fun sJ fJ ⟨v,he,hb,g',dJ,Oj,hF⟩=>by
    subst he
    exact ih _ _ _ _ (next v fJ g' hb dJ hF) Oj oe oi) i_
  ·rw [if_neg hw] at i_ ⊢
   obtain ⟨g',dJ,Oj,hF⟩:=i_
   exact ih _ _ _ _ (next undef w' g' (Below.refl _ _) dJ hF) Oj oe oi
end
def Ap (P:Program) (s:AS) (o:Oper) (x:AV) (C:List Prop):Prop :=
 bx C-> ∀S0 w0 n O a w φ Q (b:Act),aI S0 w0 n O s a w φ->(∀g∈O,g<w.heap.size)->b.tmps=a.tmps->o.wp P b w (fun b' w'=>∃v,b'=b.put o.dst v∧Below w.heap.size w w'∧Den (az s.H φ) (aP S0 w' φ O) w' v x) Q
section
variable {P:Program} {s:AS} {o:Oper} {h:Hint} {r:AV×List Prop}
theorem tg (hp:de P s o r.1 r.2):Ap P s o r.1 r.2:=by
 intro hC S0 w0 n O a w φ Q b hs _ hb
 obtain ⟨v,bT,dW⟩:=hp hC S0 w0 n O a w φ hs
 rw [←eY hb] at bT
 exact cN bT ⟨v,rfl,Below.refl _ _,dW⟩
theorem lf {S0:bn} {w0 w w':World} {n:Nat} {O:List Nat} {a:Act} {φ:Nat->Option Nat} (hs:aI S0 w0 n O s a w φ) (hO:∀g∈O,g<w.heap.size) (hb:Below w.heap.size w w') (b:Nat) (h:aP S0 w φ O b∨(w.heap.size≤b∧b<w'.heap.size)):aP S0 w' φ O b:=by
 rcases h with h|⟨h1,h2⟩
 ·exact ⟨by have:=h.1;have:=hb.size;omega,h.2⟩
 ·exact ⟨h2,fun hm=>by have:=hO b hm;omega,fun i hi=>by have:=(hs.cY i b hi).2;omega,hs.new b (.inl (by have:=hs.da.size;omega))⟩
theorem EY {S0:bn} {w0 w:World} {n:Nat} {O:List Nat} {a:Act} {φ:Nat->Option Nat} (hs:aI S0 w0 n O s a w φ) (z:Nat):∀(parts:List (Nat×Operand)) (i:Nat) (cells:List AV) (cur:Array Value),fA s z i parts=some cells->eh cells=true->i*z+parts.length*z=cur.size ->
  cells.length=parts.length*z∧ ∃us:Array Value,Instr.fill (fun i=>some (i*z,z)) cur (parts.map fun p=>(p.1,a.eval p.2))=some us∧us.size=cur.size∧(∀j,j<i*z->us[j]?=cur[j]?)∧ ∀(j:Nat) u x,us[i*z+j]?=some u->cells[j]?=some x->cz (aP S0 w φ O) w u x
 | [],i,cells,cur,hc,hp,dv=>by cases hc;exact ⟨by simp,cur,rfl,rfl,fun _ _=>rfl,fun j u x _ hx=>by simp at hx⟩
 | (j,x)::l,i,cells,cur,hc,hp,dv=>by
  simp only [fA] at hc
  split at hc
  ·rename_i c m NT LL hm
   split at hc
   ·rename_i LK
    cases hc
    have NT:=Nat.eq_of_beq_eq_true NT
    have LK:=Nat.eq_of_beq_eq_true LK
    subst NT
    obtain ⟨vs,hv,hlen,dW⟩:=mG (hs.bq x) LL
    have SN:eh m=true:=by
     have key:∀(c m:List AV),eh (c++m)=true->eh m=true:=by
      intro c
      induction c with
      | nil=>intro m h;exact h
      | cons y c ih =>
       intro m h
       simp only [List.cons_append,eh] at h
       split at h
       ·exact ih m h
       ·cases h
     exact key c m hp
    simp only [List.length_cons] at dv
    have IW:(l.length+1)*z=l.length*z+z:=by rw [Nat.add_mul,Nat.one_mul]
    have dI:(i+1)*z=i*z+z:=by rw [Nat.add_mul,Nat.one_mul]
    have Ji:((a.eval x).cells.zipIdx.foldl (fun cs (cj:Value×Nat)=>cs.setIfInBounds (i*z+cj.2) cj.1) cur)=(vs.zipIdx.foldl (fun cs (cj:Value×Nat)=>cs.setIfInBounds (i*z+cj.2) cj.1) cur):=by rw [hv];simp
    obtain ⟨Hj,us,BC,IZ,IY,NI⟩:=EY hs z l (i+1) m (vs.zipIdx.foldl (fun cs (cj:Value×Nat)=>cs.setIfInBounds (i*z+cj.2) cj.1) cur) hm SN (by rw [jz];omega)
    rw [jz] at IZ
    refine ⟨by rw [List.length_append,List.length_cons,Hj,LK];omega,us,?_,IZ,fun j hj=>?_,fun j u y hu hy=>?_⟩
    ·rw [List.map_cons]
     unfold Instr.fill
     simp only
     have P8:(a.eval x).cells.size=z:=by rw [hv];simp;omega
     rw [if_neg (by rw [P8];simp;omega),Ji]
     exact BC
    ·rw [IY j ag,kK,if_neg ag]
    ·by_cases hj:j<z
     ·rw [IY _ ag,kK,if_pos ag] at hu
      rw [List.getElem?_append_left ag] at hy
      have SD:vs[j]?=some u:=by rw [←hu];congr 1;omega
      exact (e_ (dW j u y SD hy) (iR (l:=c++m) (j:=j) hp (by rw [List.getElem?_append_left ag];exact hy))).1
     ·rw [List.getElem?_append_right ag] at hy
      refine NI (j-z) u y ?_ (by rw [←hy,LK])
      rw [←hu];congr 1;omega
   ·cases hc
  ·cases hc
theorem vM {c:Callee} {xs:Array Operand} {ts:Array TypeId} {f:FuncId} {args:List AV} {x:AV} {C:List Prop} (ho:o.op= .call ⟨c,xs,ts⟩) (hc:callee s c=some f) (hE:gV P f=true) (nc:bx C->bG P f args x) (hl:args.length=xs.toList.length)
  (hG:bx C-> ∀S0 w0 n O a w φ,aI S0 w0 n O s a w φ-> ∃S:Nat->Prop,(∀b,S b->b<w.heap.size)∧(∀(j:Nat) v y,(xs.toList.map a.eval)[j]?=some v->args[j]?=some y->cz S w v y)∧ ∀w' v O',tQ (fun b=>S b∨(w.heap.size≤b∧b<w'.heap.size∧b ∉ O')) w' v x O'->tQ (fun b=>aP S0 w φ O b∨(w.heap.size≤b∧b<w'.heap.size∧b ∉ O')) w' v x O'):Ap P s o (Pr x) C:=by
 intro hC S0 w0 n O a w φ Q b hs hO hb
 have bT:=iX (P:=P) hs hc ho hE
 rw [←eY hb] at bT
 obtain ⟨S,hS,gZ,r8⟩:=hG hC S0 w0 n O a w φ hs
 unfold Oper.wp
 rw [bT]
 have la:=nc hC w S (xs.toList.map a.eval) hs.da.ng hS (by simp [hl]) gZ
 have e:(xs.toList.map a.eval).toArray=xs.map b.eval:=by rw [eY hb];apply Array.ext';simp
 rw [e] at la
 refine la.mono ?_
 rintro en w' ⟨v,O',rfl,qc,iI,mv,hg⟩
 refine ⟨v,rfl,qc,.rep (Jw (fun b hb=>?_) (fun g hg=>?_) (r8 w' v O' hg))⟩
 ·exact lf hs hO qc b (hb.imp id fun h=>⟨h.1,h.2.1⟩)
 ·exact lf hs hO qc g (.inr (mv g hg))
theorem wi (hr:sq P s o h=some r):Ap P s o r.1 r.2:=by
 unfold sq at hr
 split at hr
 ·rename_i t len parts ho
  split at hr
  ·rename_i el hu
   split at hr
   ·rename_i z zero hz hzero
    split at hr
    ·rename_i cells dk hlen vO tE
     split at hr
     ·rename_i hp
      cases hr
      intro hC S0 w0 n O a w φ Q b hs hO hb
      have hlen:=Nat.eq_of_beq_eq_true hlen
      have vO:len*(z+1)≤16777216:=Nat.le_of_ble_eq_true vO
      have hn:(named h cells).1=cells:=(ir (C:=[]) (by rw [List.append_nil];exact hC)).1
      obtain ⟨h1,us,h2,h3,-,h4⟩:=EY hs (z+1) parts.toList 0 cells ((Array.range (len*(z+1))).map (zero.cells[· %zero.cells.size]!)) dk hp (by simp [←hlen])
      have hm:len≤maxLen:=by
       have:len≤len*(z+1):=Nat.le_mul_of_pos_right _ ag
       unfold maxLen;omega
      have bT:(execOp b.eval o).run P w= .ok (.value (.slice (some ⟨w.heap.size,0,none⟩) len len)) {w with heap:=w.heap.push (.cells us el (0,0))}:=by
       have zi:(sizeOf el).run P w= .ok (z+1) w:=run_sizeOf hz
       have nw:(parts.map fun p=>(p.1,a.eval p.2)).toList=parts.toList.map fun p=>(p.1,a.eval p.2):=by simp
       rw [eY hb]
       unfold execOp
       simp only [ho,Instr.buildSlice,Sem.run_bind,run_underlying hu,Result.andThen_ok,zi,Sem.run_ite]
       rw [if_neg ag]
       by_cases h0:len*(z+1)=0
       ·rw [if_pos h0]
        simp only [Sem.run_pure,Result.andThen_ok]
        have:(Array.range (len*(z+1))).map (fun x=>(#[]:Array Value)[x%(#[]:Array Value).size]!)=(Array.range (len*(z+1))).map (fun x=>zero.cells[x%zero.cells.size]!):=by rw [h0,iE,iE]
        rw [this,nw,h2]
        rfl
       ·rw [if_neg h0]
        simp only [il hzero,Result.andThen_ok,Sem.run_pure]
        rw [nw,h2]
        rfl
      have qc:Below w.heap.size w {w with heap:=w.heap.push (.cells us el (0,0))}:=⟨rfl,rfl,rfl,by simp,fun k hk=>cA w _ k hk⟩
      have fi:cells.length=(z+1)*len:=by rw [h1,hlen,Nat.mul_comm]
      refine cN bT ⟨_,rfl,qc,?_⟩
      simp only [hn]
      refine .rep (fq (r:=⟨z+1,true,false,cells⟩) (df w _) (lf hs hO qc _ (.inr ⟨Nat.le_refl _,by simp⟩)) cells 0 (by rw [h3,fi];simp [Nat.mul_comm]) fi (Nat.le_refl _) hm _ (fun _=>rfl) (fun j u x hu hx=>?_))
      exact (h4 j u x (by simpa using hu) hx).mono fun b hb=>⟨lf hs hO qc b (.inl hb),cA w _ b hb.1⟩
     ·cases hr
    ·cases hr
   ·cases hr
  ·cases hr
 ·rename_i t l c ho
  split at hr
  ·rename_i kl L kc C el hl hc hu
   split at hr
   ·rename_i i hi
    split at hr
    ·rename_i zero z hz dv
     split at hr
     ·rename_i hb
      cases hr
      have hb:=Nat.eq_of_beq_eq_true hb
      intro hC S0 w0 n O a w φ Q b hs hO Ho
      obtain ⟨Lv,hC⟩:=ir hC
      obtain ⟨h1,h2,h3,h4,h5,-⟩:=hC
      have MQ:b.eval l= .int kl L:=by rw [eY Ho];exact bF (hl ▸ hs.bq l)
      have ec:b.eval c= .int kc C:=by rw [eY Ho];exact bF (hc ▸ hs.bq c)
      obtain ⟨cur,bT,uf,bw⟩:=run_make ho MQ ec hu hi hz dv hb h1 h2 h3 h4 h5 w
      have qc:Below w.heap.size w {w with heap:=w.heap.push (.cells cur el (0,0))}:=⟨rfl,rfl,rfl,by simp,fun k hk=>cA w _ k hk⟩
      have He:(zero.cells.toList.map bC).length=z+1:=by simp [hb]
      have Hi:=uv (zero.cells.toList.map bC) (z+1) He h.k
      have hle:(z+1)*h.k≤(z+1)*h.m:=Nat.mul_le_mul_left _ h3
      refine cN bT ⟨_,rfl,qc,?_⟩
      simp only [Lv]
      refine .rep (fq (r:=⟨z+1,true,false,uw (zero.cells.toList.map bC) h.k⟩) (df w _) (lf hs hO qc _ (.inr ⟨Nat.le_refl _,by simp⟩)) _ 0 (by rw [Hi,uf];omega) Hi h3 h5 _ (fun _=>rfl) (fun j u x hu hx=>?_))
      have h6:=yf _ (z+1) He ag _ _ _ hx
      have h7:=bw j u (by simpa using hu)
      rw [List.getElem?_map] at h6
      have h8:zero.cells.toList[j%(z+1)]?=some u:=by simpa using h7
      rw [h8] at h6;injection h6 with h6;subst h6;exact gh u
     ·cases hr
    ·cases hr
   ·cases hr
  ·cases hr
 ·exact tg (lk hr)
 ·rename_i c xs ts _ ho
  split at hr
  ·rename_i f x hc _
   split at hr
   ·rename_i hE _
    split at hr
    ·rename_i vs C hv wN
     cases hr
     refine vM ho hc hE (fun hC=>hC.1) ?_ fun hC S0 w0 n O a w φ hs=>?_
     ·have key:∀(l:List AV) (m:List AV),j9 s l=some m->m.length=l.length:=by
       intro l
       induction l with
       | nil=>intro m h;cases h;rfl
       | cons y l ih =>
        intro m h
        simp only [j9] at h
        split at h
        ·rename_i y' m' _ hm
         cases h
         simp [ih m' hm]
        ·cases h
      rw [key _ _ hv];simp
     ·exact ⟨fun b=>b<w.heap.size,fun _ h=>h,(ma hs _ _ hv).2,fun w' v _ hg=>ui wN hC.2 hg⟩
    ·cases hr
   ·rename_i hE _
    split at hr
    ·rename_i w6
     cases hr
     refine vM ho hc hE (fun hC=>hC.1) (by simp) fun hC S0 w0 n O a w φ hs=>⟨aP S0 w φ O,fun b hb=>hb.1,fun j v x hv hx=>?_,fun w' v _ hg=>hg⟩
     have NL:=ml w6 hx
     rw [List.getElem?_map] at hv hx
     cases hj:xs.toList[j]? with
     | none=>rw [hj] at hv;cases hv
     | some y =>
      rw [hj] at hv hx
      injection hv with hv;injection hx with hx;subst hv;subst hx
      exact oI (hs.bq y) NL
    ·cases hr
   ·cases hr
  ·cases hr
 ·exact tg (lk hr)
end
section
variable {P:Program} {ops:List Oper} {S0:bn} {w0:World} {Q:Exit->Act->World->Prop}
theorem JN {s:AS} {o:Oper} {h:Hint} {r:AV×List Prop} (hr:tN P ops s o h=some r) (hC:bx r.2) {n:Nat} {O:List Nat} {a b:Act} {w:World} {φ:Nat->Option Nat} (hs:aI S0 w0 n O s a w φ) (hO:∀g∈O,g<w.heap.size) (hb:b.tmps=a.tmps) :
  h_ P ops.toArray Q o b w fun v w'=>w.heap.size≤w'.heap.size∧Den (az s.H φ) (aP S0 w' φ O) w' v r.1:=by
 unfold tN at hr
 unfold h_
 split at hr
 ·rename_i hg
  have hw:Region.wanted o (yielded ops.toArray b.tmps)=true:=by unfold Region.wanted;rw [hg]
  rw [if_pos hw]
  exact Oper.wp_mono (fun b' w' ⟨v,h1,h2,h3⟩=>⟨v,h1,h2,h2.size,h3⟩) (wi hr hC S0 w0 n O a w φ Q b hs hO hb)
 ·rename_i j want hg
  split at hr
  ·rename_i p hp
   split at hr
   ·rename_i d hd
    split at hr
    ·rename_i bb r_
     have ht:=hs.get d
     rw [r_] at ht
     have hy:=mP (ops:=ops) hp hd (qZ ht)
     rw [←hb] at hy
     split at hr
     ·rename_i kj
      split at hr
      ·rename_i x C he
       cases hr
       obtain ⟨Gv,hC⟩:=hC
       have hw:Region.wanted o (yielded ops.toArray b.tmps)=true:=by
        unfold Region.wanted;rw [hg];simp only [hy,Gv]
        have:h.g=want:=by simpa using kj
        rw [this];simp
       rw [if_pos hw]
       exact Oper.wp_mono (fun b' w' ⟨v,h1,h2,h3⟩=>⟨v,h1,h2,h2.size,h3⟩) (wi he hC S0 w0 n O a w φ Q b hs hO hb)
      ·cases hr
     ·rename_i kj
      cases hr
      obtain ⟨Gv,-⟩:=hC
      have hw:¬Region.wanted o (yielded ops.toArray b.tmps)=true:=by
       unfold Region.wanted;rw [hg];simp only [hy,Gv]
       have:¬h.g=want:=by simpa using kj
       simpa using this
      rw [if_neg hw]
      exact ⟨Nat.le_refl _,.rep (.val _)⟩
    ·rename_i arr r_
     have ht:=hs.get d
     rw [r_] at ht
     have hy:=mO (ops:=ops) hp hd (bF ht)
     rw [←hb] at hy
     cases hr
     have hw:¬Region.wanted o (yielded ops.toArray b.tmps)=true:=by
      unfold Region.wanted;rw [hg];simp [hy]
     rw [if_neg hw]
     exact ⟨Nat.le_refl _,.rep (.val _)⟩
    ·cases hr
   ·cases hr
  ·cases hr
end
def xj (s:AS):List (Nat×AV)->List (Nat×AV)
 | []=>[]
 | (i,x)::l=>(i,(view s x).getD .dead)::xj s l
theorem vp (s:AS):∀(l:List (Nat×AV)) (i:Nat),look (xj s l) i=(look l i).map fun x=>(view s x).getD .dead
 | [],i=>rfl
 | (k,x)::l,i=>by
  simp only [xj,aD,vp s l i]
  by_cases h:k=i<;>simp [h]
section
variable {P:Program} {n:Nat} {s:AS} {o:Oper} {h:Hint} {S0:bn} {w0 w:World} {O:List Nat} {a b:Act} {φ:Nat->Option Nat}
theorem HA (hs:aI S0 w0 n O s a w φ):aI ⟨fun _=>True,fun _=>False,fun _=>none,a.defers⟩ w n [] ⟨xj s s.F,[]⟩ a w (fun _=>none) where
 j8:=hs.j8
 ke:=rfl
 da:=⟨rfl,rfl,rfl,Nat.le_refl _,fun _ _ _=>rfl,hs.da.ng,fun _ _ h=>h⟩
 cC:=fun i av hi=>by
  have hi:look (xj s s.F) i=some av:=hi
  rw [vp] at hi
  cases hl:look s.F i with
  | none=>rw [hl] at hi;cases hi
  | some x =>
   rw [hl] at hi;injection hi with hi;subst hi
   show Den _ _ _ _ ((view s x).getD .dead)
   cases hv:view s x with
   | none=>exact .dead _
   | some y =>
    refine .rep ((yj hs (hs.cC i x hl) hv).mono ?_)
    intro b hb
    exact ⟨⟨hb,by simp,fun _ h=>(by cases h),trivial⟩,rfl⟩
 rows:=fun id r hr=>by cases hr
 only:=fun _ _=>rfl
 inj:=fun _ _ _ h=>by cases h
 cY:=fun _ _ h=>by cases h
 apart:=fun _ _ h=>by cases h
 new:=fun _ _=>trivial
theorem FL {K:Act->World->Prop} {Q:Exit->Act->World->Prop} (h:o.wp P a w K (fun _ _ _=>False)) (hK:∀a' w',K a' w'->a'.defers=a.defers) (hb:b.tmps=a.tmps):o.wp P b w (fun b' w'=>∃v,b'=b.put o.dst v∧K (a.put o.dst v) w') Q:=by
 unfold Oper.wp at *
 rw [eY hb]
 generalize (execOp a.eval o).run P w=r at *
 cases r with
 | halt x w'=>cases x with
  | panic v=>exact h.elim
  | _=>exact h
 | ok x w'=>cases x with
  | value v=>exact ⟨v,rfl,h⟩
  | skip=>exact ⟨undef,rfl,h⟩
  | enter f args =>
   refine Calls.mono h fun e fJ he=>?_
   cases e with
   | returned v=>exact ⟨v,rfl,he⟩
   | panicked c=>exact he.elim
   | outgrown=>obtain ⟨_,_,hf⟩:=he;exact hf.elim
  | defer d =>
   have:=congrArg List.length (hK _ _ h)
   rw [pY] at this
   simp at this
  | row r args=>exact Rows.mono h fun v fJ he=>⟨v,rfl,he⟩
  | _=>exact h
def zI (P:Program) (n:Nat) (s:AS) (o:Oper) (h:Hint):Option (AV×List Prop) :=
 match o.guard,o.dst with
 | none,some d=>(match B9 P n ⟨xj s s.F,[]⟩ o h with
  | some (s',C)=>(match look s'.F d,look s'.H d with
   | some (.ref d'),some ⟨e,true,_,row⟩=>(match Nat.beq d' d with|true=>some (.own e row,C++ [kP row])|false=>none)
   | _,_=>none)
  | none=>none)
 | _,_=>none
theorem GK {Q:Exit->Act->World->Prop} {ops:Array Oper} {x:AV} {C:List Prop} (hr:zI P n s o h=some (x,C)) (hC:bx C) (hs:aI S0 w0 n O s a w φ) (hb:b.tmps=a.tmps) :
  (∃e row,x= .own e row)∧h_ P ops Q o b w fun v w'=>∃O',iv (fun _=>False) w' v x O'∧O'.Nodup∧ ∀g∈O',w.heap.size≤g∧g<w'.heap.size:=by
 unfold zI at hr
 split at hr
 ·rename_i d hg hd
  split at hr
  ·rename_i s' C' uc
   split at hr
   ·rename_i d' e fl row hF hH
    split at hr
    ·rename_i Tt
     cases hr
     have Tt:=Nat.eq_of_beq_eq_true Tt
     subst Tt
     obtain ⟨Q3,hv,-⟩:=bO.1 hC
     refine ⟨⟨e,row,rfl⟩,?_⟩
     have hw:Region.wanted o (yielded ops b.tmps)=true:=by unfold Region.wanted;rw [hg]
     unfold h_
     rw [if_pos hw]
     have key:=oX uc Q3 ⟨fun _=>True,fun _=>False,fun _=>none,a.defers⟩ w a w (fun _ _ _=>False) ⟨_,HA hs⟩
     refine Oper.wp_mono ?_ (FL (Q:=Q) key (fun a' w' ⟨_,bY⟩=>bY.ke) hb)
     rintro b' w' ⟨v,rfl,b_,bY⟩
     refine ⟨v,rfl,bY.da.below (fun _ h=>h),?_⟩
     have dv:d'<a.tmps.size:=by
      rcases Nat.lt_or_ge d' a.tmps.size with h|h
      ·exact h
      ·exfalso
       have dW:=bY.cC d' _ hF
       have vC:(a.put o.dst v).tmps.getD d' undef=undef:=by
        have:(a.put o.dst v).tmps.size≤d':=by rw [uG];exact h
        simp [Array.getElem?_eq_none this]
       rw [vC] at dW
       cases dW with
       | rep h=>cases h
     have iG:(a.put o.dst v).tmps.getD d' undef=v:=by rw [hd,qu a d' d' v dv,if_pos rfl]
     have dW:=bY.cC d' _ hF
     rw [iG] at dW
     have aQ:=bY.rows d' _ hH
     have oh:=bt (φ:=b_) hH
     unfold bJ at aQ
     cases dW with
     | rep h=>cases h
     | ref id e' m g l c hi hm hc hx fi =>
      rw [oh] at hi
      simp only [Option.some.injEq,Prod.mk.injEq] at hi
      obtain ⟨he,nG,bW⟩:=hi
      subst he;subst nG
      rw [bW] at aQ
      obtain ⟨cur,te,fr,UY,gu,hle,nr,dk⟩:=aQ
      have uf:cur.size=e*c:=by unfold aW at fi;rw [UY] at fi;exact fi
      refine ⟨[g],.own g l c e row cur te fr UY gu hm hc hx uf (fun j u x hu hx=>?_),by simp,fun g' jq=>by simp at jq;subst jq;exact ⟨(bY.cY _ _ bW).1.2.elim id fun h=>h.elim,(bY.cY _ _ bW).2⟩⟩
      obtain ⟨v',rfl⟩:=hv x (List.mem_of_getElem? hx)
      have:=dk j u _ hu hx
      have this:cz _ w' u (.val v'):=this
      cases this
      exact .val _
     | cm id e' hi =>
      rw [oh] at hi
      simp only [Option.some.injEq,Prod.mk.injEq] at hi
      obtain ⟨he,nG,bW⟩:=hi
      have:row= []:=List.eq_nil_of_length_eq_zero nG
      subst this
      exact ⟨[],.nil e,by simp,by simp⟩
    ·cases hr
   ·cases hr
  ·cases hr
 ·cases hr
end
def nO:AV->AV
 | .own _ _=>.dead
 | .box _=>.dead
 | x=>x
def qT (P:Program) (n:Nat) (s:AS) (ds:List Nat) (ops:List Oper) (hs:List (Nat×Hint)) (Ks:List Nat):List Oper->Nat->List AV->Option (List AV×List Prop)
 | [],_,g_=>some (g_,[])
 | o::l,i,g_=>match (match Ks.any (Nat.beq i) with
   | true=>zI P n (xc s ds ops (g_.map nO) o) o (gL hs i)
   | false=>tN P ops (xc s ds ops (g_.map nO) o) o (gL hs i)) with
  | some (x,C)=>(match qT P n s ds ops hs Ks l (i+1) (g_++ [x]) with|some (jm,D)=>some (jm,C++D)|none=>none)
  | none=>none
def jn:List Oper->List AV->List (Nat×Nat×List AV)
 | o::l,.own e row::m=>(match o.dst with|some d=>(d,e,row)::jn l m|none=>jn l m)
 | _::l,_::m=>jn l m
 | _,_=>[]
def Ek:AS->List (Nat×Nat×List AV)->AS
 | s,[]=>s
 | s,(d,e,row)::l=>Ek ⟨(d,.ref d)::s.F,(d,⟨e,true,false,row⟩)::s.H⟩ l
def mz (s:AS):List (Nat×Nat×List AV)->Bool
 | []=>true
 | (d,_,_)::l=>match look s.H d,Nat.ble d 999999999999 with|none,true=>mz s l|_,_=>false
def z1 (P:Program) (n T:Nat) (Ks:List Nat) (ops:List Oper) (hs:List (Nat×Hint)) (s:AS):Option (AS×List Prop) :=
 match P.follows .mixedOrders,l7 ops.toArray n,po ops.toArray T with
 | true,true,true=>(match qT P n s ((ops.take T).filterMap (·.dst)) ops hs Ks (ops.take T) 0 [] with
  | some (g_,C)=>(match mz s (jn (ops.take T) g_),kp P n ops hs (ops.drop T) T (Ek ⟨jr (ops.take T) (g_.map nO)++oa ((ops.take T).filterMap (·.dst)) s.F,s.H⟩ (jn (ops.take T) g_)) with
   | true,some (s',D)=>some (s',C++D)
   | _,_=>none)
  | none=>none)
 | _,_,_=>none
theorem tn {P:Program} {n:Nat} {ops:List Oper} {s:AS} {ds:List Nat} {hs:List (Nat×Hint)} {Ks:List Nat}:∀(l:List Oper) (i:Nat) (g_ jm:List AV) (C:List Prop),qT P n s ds ops hs Ks l i g_=some (jm,C)->bx C->g_.length=i ->
  jm.length=i+l.length∧jm.take i=g_∧ ∀(j:Nat) (o:Oper),l[j]?=some o-> ∃x D,jm[i+j]?=some x∧bx D∧(zI P n (xc s ds ops ((jm.take (i+j)).map nO) o) o (gL hs (i+j))=some (x,D)∨tN P ops (xc s ds ops ((jm.take (i+j)).map nO) o) o (gL hs (i+j))=some (x,D))
 | [],i,g_,jm,C,he,hC,hl=>by
  cases he
  exact ⟨by simp [hl],by rw [←hl,List.take_length],fun j o h=>by simp at h⟩
 | o::l,i,g_,jm,C,he,hC,hl=>by
  simp only [qT] at he
  split at he
  ·rename_i x C1 h1
   split at he
   ·rename_i Uf D h2
    cases he
    obtain ⟨i3,hD⟩:=bO.1 hC
    obtain ⟨e1,e2,e3⟩:=tn l (i+1) (g_++ [x]) jm D h2 hD (by simp [hl])
    have e4:jm.take i=g_:=by
     have:=congrArg (List.take i) e2
     rw [List.take_take,Nat.min_eq_left ag,←hl,List.take_left] at this
     rw [←hl];exact this
    have e5:jm[i]?=some x:=by
     have h3:(jm.take (i+1))[i]?=some x:=by rw [e2,List.getElem?_append_right ag,hl];simp
     exact bZ _ _ _ _ h3
    refine ⟨by rw [e1,List.length_cons];omega,e4,fun j p hp=>?_⟩
    cases j with
    | zero =>
     simp at hp;subst hp
     refine ⟨x,C1,by simpa using e5,i3,?_⟩
     simp only [Nat.add_zero]
     rw [e4]
     split at h1
     ·exact .inl h1
     ·exact .inr h1
    | succ j =>
     obtain ⟨y,D',h5,h6,h7⟩:=e3 j p (by simpa using hp)
     rw [show i+1+j=i+(j+1) by omega] at h5 h7
     exact ⟨y,D',h5,h6,h7⟩
   ·cases he
  ·cases he
theorem kC (s:AS):∀(L:List (Nat×Nat×List AV)),mz s L=true↔ ∀p∈L,look s.H p.1=none∧p.1<1000000000000
 | []=>by simp [mz]
 | (d,e,row)::L=>by
  simp only [mz]
  split
  ·rename_i h hb
   have hb:=Nat.le_of_ble_eq_true hb
   rw [kC s L]
   constructor
   ·intro hL p hp
    rcases List.mem_cons.1 hp with rfl|hp
    ·exact ⟨h,by show d<_;omega⟩
    ·exact hL p hp
   ·intro hL p hp;exact hL p (by simp [hp])
  ·rename_i gr
   constructor
   ·intro hf;cases hf
   ·intro hL
    have:=hL (d,e,row) (by simp)
    exact (gr this.1 (by have:=this.2;simp at this;exact Nat.ble_eq_true_of_le ag)).elim
theorem xG:∀(l:List Oper) (m:List AV) (p:Nat×Nat×List AV),p∈jn l m->p.1∈l.filterMap (·.dst)
 | [],m,p,h=>by cases m<;>simp [jn] at h
 | o::l,[],p,h=>by simp [jn] at h
 | o::l,x::m,p,h=>by
  have step:p∈jn l m->p.1∈(o::l).filterMap (·.dst):=fun h=>by
   have:=xG l m p h
   rw [List.mem_filterMap] at this ⊢
   obtain ⟨q,h1,h2⟩:=this
   exact ⟨q,by simp [h1],h2⟩
  cases x with
  | own e row =>
   simp only [jn] at h
   split at h
   ·rename_i d hd
    rcases List.mem_cons.1 h with rfl|h
    ·rw [List.mem_filterMap];exact ⟨o,by simp,hd⟩
    ·exact step h
   ·exact step h
  | _=>exact step h
def fP (own:Nat->List Nat):List Oper->List AV->Nat->List Nat
 | o::l,.own _ _::m,i=>(match o.dst with|some _=>own i++fP own l m (i+1)|none=>fP own l m (i+1))
 | _::l,_::m,i=>fP own l m (i+1)
 | _,_,_=>[]
theorem oL (own:Nat->List Nat):∀(l:List Oper) (m:List AV) (i g:Nat),g∈fP own l m i-> ∃k,i≤k∧k<i+l.length∧g∈own k
 | [],m,i,g,h=>by cases m<;>simp [fP] at h
 | o::l,[],i,g,h=>by simp [fP] at h
 | o::l,x::m,i,g,h=>by
  have step:g∈fP own l m (i+1)-> ∃k,i≤k∧k<i+(o::l).length∧g∈own k:=fun h=>by
   obtain ⟨k,h1,h2,h3⟩:=oL own l m (i+1) g h
   exact ⟨k,ag,by simp only [List.length_cons];omega,h3⟩
  cases x with
  | own e row =>
   simp only [fP] at h
   split at h
   ·rcases List.mem_append.1 h with h|h
    ·exact ⟨i,ag,by simp only [List.length_cons];omega,h⟩
    ·exact step h
   ·exact step h
  | _=>exact step h
theorem s9 (own:Nat->List Nat) (h1:∀k,(own k).Nodup) (h2:∀j k g,g∈own j->g∈own k->j=k):∀(l:List Oper) (m:List AV) (i:Nat),(fP own l m i).Nodup
 | [],m,i=>by cases m<;>simp [fP]
 | o::l,[],i=>by simp [fP]
 | o::l,x::m,i=>by
  have ih:=s9 own h1 h2 l m (i+1)
  cases x with
  | own e row =>
   simp only [fP]
   split
   ·rw [List.nodup_append]
    refine ⟨h1 i,ih,fun g hg g' jq e=>?_⟩
    subst e
    obtain ⟨k,h3,-,h4⟩:=oL own l m (i+1) _ jq
    have:=h2 i k _ hg h4
    omega
   ·exact ih
  | _=>exact ih
section
variable {S0:bn} {w0 w:World} {n:Nat} {a:Act}
theorem An (own:Nat->List Nat):∀(l:List Oper) (m:List AV) (i:Nat) (s:AS) (φ:Nat->Option Nat),aI S0 w0 n (fP own l m i) s a w φ ->
  (∀(j:Nat) o e row d,l[j]?=some o->m[j]?=some (.own e row)->o.dst=some d->iv (fun _=>False) w (a.tmps.getD d undef) (.own e row) (own (i+j))) ->
  (fP own l m i).Nodup->(∀g∈fP own l m i,(w0.heap.size≤g∨S0.X g)∧g<w.heap.size)->mz s (jn l m)=true->(l.filterMap (·.dst)).Nodup ->
  ∃ b_,aI S0 w0 n [] (Ek s (jn l m)) a w b_
 | [],m,i,s,φ,h,_,_,_,_,_=>by cases m<;>exact ⟨φ,h⟩
 | o::l,[],i,s,φ,h,_,_,_,_,_=>⟨φ,h⟩
 | o::l,x::m,i,s,φ,h,hv,iI,mv,gu,N_=>by
  have N9:(l.filterMap (·.dst)).Nodup:=List.Nodup.sublist ((List.sublist_cons_self o l).filterMap _) N_
  have Hh:∀(j:Nat) o e row d,l[j]?=some o->m[j]?=some (.own e row)->o.dst=some d->iv (fun _=>False) w (a.tmps.getD d undef) (.own e row) (own (i+1+j)):=fun j p e row d h1 h2 h3=>by
   have:=hv (j+1) p e row d (by simpa using h1) (by simpa using h2) h3
   rwa [show i+(j+1)=i+1+j by omega] at this
  cases x with
  | own e row =>
   cases hd:o.dst with
   | none =>
    have e1:fP own (o::l) (.own e row::m) i=fP own l m (i+1):=by simp only [fP,hd]
    have e2:jn (o::l) (.own e row::m)=jn l m:=by simp only [jn,hd]
    rw [e1] at h iI mv
    rw [e2] at gu ⊢
    exact An own l m (i+1) s φ h Hh iI mv gu N9
   | some d =>
    have e1:fP own (o::l) (.own e row::m) i=own i++fP own l m (i+1):=by simp only [fP,hd]
    have e2:jn (o::l) (.own e row::m)=(d,e,row)::jn l m:=by simp only [jn,hd]
    rw [e1] at h iI mv
    rw [e2] at gu ⊢
    have NW:=(kC s _).1 gu
    have hg:=hv 0 o e row d rfl rfl hd
    simp only [Nat.add_zero] at hg
    obtain ⟨iM,h1,h2,-⟩:=mS (S0:=S0) (w0:=w0) (w:=w) (n:=n) (a:=a) s φ (own i) (fP own l m (i+1)) _ (.own e row) d h (hg.mono fun b hb=>hb.elim) iI (fun g hg=>mv g (by simp [hg])) (fun j hj=>by
     simp [jD] at hj;subst hj;exact NW _ (List.mem_cons_self ..)) (by simp [jD])
    have h3:aI S0 w0 n (fP own l m (i+1)) ⟨(d,.ref d)::s.F,(d,⟨e,true,false,row⟩)::s.H⟩ a w iM:=by
     refine ⟨h1.j8,h1.ke,h1.da,fun j av hj=>?_,h1.rows,h1.only,h1.inj,h1.cY,h1.apart,h1.new⟩
     have hj:look ((d,AV.ref d)::s.F) j=some av:=hj
     rw [aD] at hj
     by_cases Ts:d=j
     ·rw [if_pos Ts] at hj;injection hj with hj;subst hj;subst Ts
      exact h2
     ·rw [if_neg Ts] at hj
      exact h1.cC j av hj
    refine An own l m (i+1) _ iM h3 Hh (List.nodup_append.1 iI).2.1 (fun g hg=>mv g (by simp [hg])) ?_ N9
    rw [kC]
    intro p hp
    refine ⟨?_,(NW p (by simp [hp])).2⟩
    show look ((d,_)::s.H) p.1=none
    rw [aD]
    have cS:d≠p.1:=fun e=>by
     have:=xG l m p hp
     rw [List.filterMap_cons_some (by simpa using hd)] at N_
     exact (List.nodup_cons.1 N_).1 (by rw [e];exact this)
    rw [if_neg cS]
    exact (NW p (by simp [hp])).1
  | _=>exact An own l m (i+1) s φ h Hh iI mv gu N9
theorem iv.grow {w w':World} (hb:Below w.heap.size w w') {v:Value} {x:AV} {O:List Nat} (h:iv (fun _=>False) w v x O):iv (fun _=>False) w' v x O:=by
 cases h with
 | rep h=>exact .rep (h.mono fun b hb=>hb.elim)
 | nil e=>exact .nil e
 | own g l c e row cur te fr hg hf hl hc hm hs h =>
  have cW:g<w.heap.size:=(Array.getElem?_eq_some_iff.1 hg).1
  exact .own g l c e row cur te fr ((hb.block g cW).trans hg) hf hl hc hm hs fun j u x hu hx=>(h j u x hu hx).mono fun b hb=>hb.elim
 | box g row cur te fr hg hf hs h =>
  have cW:g<w.heap.size:=(Array.getElem?_eq_some_iff.1 hg).1
  exact .box g row cur te fr ((hb.block g cW).trans hg) hf hs fun j u x hu hx=>(h j u x hu hx).mono fun b hb=>hb.elim
theorem rC {I:Info} {S:Nat->Prop} {v:Value} {x:AV} (h:Den I S w v x):nO x=x:=by
 cases x with
 | own e row=>cases h with|rep h=>cases h
 | box row=>cases h with|rep h=>cases h
 | _=>rfl
end
section
variable {P:Program} {ops:List Oper} {S0:bn} {w0:World} {Q:Exit->Act->World->Prop}
def tP (T:Nat) (own:Nat->List Nat):List Nat:=(List.range T).flatMap own
theorem kY {T g:Nat} {own:Nat->List Nat}:g∈tP T own↔ ∃k,k<T∧g∈own k:=by
 unfold tP
 rw [List.mem_flatMap]
 exact ⟨fun ⟨k,h1,h2⟩=>⟨k,List.mem_range.1 h1,h2⟩,fun ⟨k,h1,h2⟩=>⟨k,List.mem_range.2 h1,h2⟩⟩
def Ic (own:Nat->List Nat) (i:Nat) (O:List Nat):Nat->List Nat:=fun k=>if k=i then O else own k
theorem DK {n T:Nat} {Ks:List Nat} {hs:List (Nat×Hint)} {s s':AS} {C:List Prop} (he:z1 P n T Ks ops hs s=some (s',C)) (hC:bx C) {a:Act} {w:World} (gw:ie S0 w0 n s a w) (hQ:∀a' w',ie S0 w0 n s' a' w'->Q .normal a' w'):P.follows .mixedOrders=true∧wpAny P .any ops.toArray Q ops.toArray.size (Array.replicate ops.toArray.size false) a {w with drawn:=w.drawn+1}:=by
 unfold z1 at he
 split at he
 ·rename_i hm hB hT
  split at he
  ·rename_i g_ C1 Dm
   split at he
   ·rename_i s2 D gu pB
    cases he
    obtain ⟨i3,hD⟩:=bO.1 hC
    obtain ⟨φ,km⟩:=gw
    obtain ⟨hlen,-,gM⟩:=tn _ 0 [] g_ C1 Dm i3 rfl
    simp only [Nat.zero_add] at hlen gM
    obtain ⟨cW,iI,wM⟩:=gl hB
    unfold po at hT
    simp only [Bool.and_eq_true,decide_eq_true_eq] at hT
    obtain ⟨⟨⟨Hq,LQ⟩,LP⟩,LO⟩:=hT
    have TI:T<ops.length:=by simpa using Hq
    have TH:g_.length=T:=by rw [hlen,List.length_take];omega
    let F:(Nat->List Nat)->Nat->Value->World->Prop:=fun own k v w'=>w.heap.size≤w'.heap.size∧ ∀x,g_[k]?=some x->((∃e row,x= .own e row)∧iv (fun _=>False) w' v x (own k))∨Den (az s.H φ) (aP S0 w' φ (tP T own)) w' v x
    let J:(Nat->List Nat)->World->Prop:=fun own w'=>(∀k,(own k).Nodup)∧(∀j k g,g∈own j->g∈own k->j=k)∧(∀k g,g∈own k->w.heap.size≤g∧g<w'.heap.size)
    let St:Nat->(Nat->List Nat)->World->(Nat->List Nat)->World->Prop:=fun i own w1 ve _=>(∀k,k≠i->ve k=own k)∧ ∀g∈ve i,w1.heap.size≤g
    have vG:∀i k v own ve w1 w2,i≠k->Below w1.heap.size w1 w2->St i own w1 ve w2->F own k v w1->F ve k v w2:=by
     intro i k v own ve w1 w2 MJ hb ⟨Ul,Vn⟩ ⟨h1,h2⟩
     refine ⟨Nat.le_trans h1 hb.size,fun x hx=>?_⟩
     rcases h2 x hx with ⟨e,hg⟩|dW
     ·left;rw [Ul k (Ne.symm MJ)];exact ⟨e,hg.grow hb⟩
     ·right
      have vC:∀b,aP S0 w1 φ (tP T own) b->b ∉ tP T ve:=fun b hS r6=>by
       obtain ⟨j,hj,KH⟩:=kY.1 r6
       by_cases MI:j=i
       ·subst MI;have:=Vn b KH;have:=hS.1;omega
       ·rw [Ul j MI] at KH;exact hS.2.1 (kY.2 ⟨j,hj,KH⟩)
      have fi:∀id e m g,az s.H φ id=some (e,m,some g)->aW w2 g=aW w1 g:=fun id e m g hi=>by
       obtain ⟨r,-,-,-,bW⟩:=aS hi
       have:=(km.cY id g bW).2
       unfold aW;rw [hb.block g ag]
      exact dW.mono (fun _ _ h=>h) (fun b hS=>⟨⟨by have:=hS.1;have:=hb.size;omega,vC b hS,hS.2.2⟩,hb.block b hS.1⟩) fi
    have waiting:∀(O:List Nat) w',Below w.heap.size w w'->(∀g∈O,w.heap.size≤g)->aI S0 w0 n O s a w' φ:=by
     intro O w' hb hO
     have h1:=oC O [] s φ km hO
     rw [List.append_nil] at h1
     exact h1.grow hb
    refine ⟨hm,AB (γ :=Nat->List Nat) Hq LQ LP LO km.j8 hB F J St vG ?_ ?_ ops.toArray.size _ a _ (fun _=>[]) ⟨(Below.refl _ _).drew,by simp,?_,rfl,rfl,?_,?_,fun _ _=>rfl⟩ ⟨by simp,by simp,by simp⟩ (fun j _=>by simp only [List.size_toArray];exact getD_replicate_false _ _) (by simp)⟩
    ·
     intro k o w7 ho own a' w' hb hJ SE js fK
     have rZ:ops[k]?=some o:=by simpa using ho
     obtain ⟨x,Dk,hx,RW,eE⟩:=gM k o (by rw [List.getElem?_take,if_pos w7];exact rZ)
     have ld:Below w.heap.size w w':=hb
     have TP:∀g∈tP T own,w.heap.size≤g:=fun g hg=>by
      obtain ⟨j,-,hj⟩:=kY.1 hg
      exact (hJ.2.2 j g hj).1
     have Oi:∀g∈tP T own,g<w'.heap.size:=fun g hg=>by
      obtain ⟨j,-,hj⟩:=kY.1 hg
      exact (hJ.2.2 j g hj).2
     have hg:=waiting (tP T own) w' ld TP
     have KG:aI S0 w0 n (tP T own) (xc s ((ops.take T).filterMap (·.dst)) ops ((g_.take k).map nO) o) ⟨a'.tmps,S0.tq⟩ w' φ:=by
      refine ⟨SE.trans km.j8,rfl,hg.da,fun i av hi=>?_,hg.rows,hg.only,hg.inj,hg.cY,hg.apart,hg.new⟩
      show Den (az s.H φ) _ _ _ _
      unfold xc at hi
      rw [bL] at hi
      cases Gs:look (jB ops ((g_.take k).map nO) (bl o)) i with
      | some y =>
       rw [Gs] at hi
       simp at hi;subst hi
       obtain ⟨d,p,h1,h2,h3,h4⟩:=oQ _ _ _ _ _ Gs
       rcases js d h1 with hF|⟨q,hq,hn⟩
       ·have iG:sO ops.toArray a' d=a'.tmps.getD i undef:=by
         unfold sO
         have:(ops.toArray[d]?).bind (·.dst)=some i:=by simp [h2,h3]
         rw [this]
        rw [iG] at hF
        rw [List.getElem?_map] at h4
        cases hz:(g_.take k)[d]? with
        | none=>rw [hz] at h4;cases h4
        | some z =>
         rw [hz] at h4;injection h4 with h4;subst h4
         rcases hF.2 z (bZ _ _ _ _ hz) with ⟨⟨e,row,rfl⟩,-⟩|dW
         ·exact .dead _
         ·rw [rC dW];exact dW
       ·have gY:ops[d]?=some q:=by simpa using hq
        rw [h2] at gY;injection gY with gY;subst gY
        rw [h3] at hn;cases hn
      | none =>
       rw [Gs] at hi
       simp at hi
       obtain ⟨h1,h2⟩:=gj _ _ _ _ hi
       have hk:=fK i (fun j p hj hp=>(kJ ops T i).1 h2 j p hj (by simpa using hp))
       have pf:a'.tmps.getD i undef=a.tmps.getD i undef:=hk
       show Den _ _ _ (a'.tmps.getD i undef) av
       rw [pf]
       exact hg.cC i av h1
     have i_:h_ P ops.toArray Q o a' w' fun v w2=>w'.heap.size≤w2.heap.size∧ ∃O',O'.Nodup∧(∀g∈O',w'.heap.size≤g∧g<w2.heap.size)∧(((∃e row,x= .own e row)∧iv (fun _=>False) w2 v x O')∨(O'= []∧Den (az s.H φ) (aP S0 w2 φ (tP T own)) w2 v x)):=by
      rcases eE with eE|eE
      ·obtain ⟨KC,hr⟩:=GK (Q:=Q) (ops:=ops.toArray) eE RW KG (b:=a') rfl
       unfold h_ at hr ⊢
       split
       ·rename_i hw
        rw [if_pos hw] at hr
        exact Oper.wp_mono (fun b' w2 ⟨v,h1,h2,O',h3,h4,h5⟩=>⟨v,h1,h2,h2.size,O',h4,h5,.inl ⟨KC,h3⟩⟩) hr
       ·rename_i hw
        rw [if_neg hw] at hr
        obtain ⟨O',h3,h4,h5⟩:=hr
        exact ⟨Nat.le_refl _,O',h4,h5,.inl ⟨KC,h3⟩⟩
      ·have hr:=JN (Q:=Q) (ops:=ops) eE RW KG Oi (b:=a') rfl
       unfold h_ at hr ⊢
       split
       ·rename_i hw
        rw [if_pos hw] at hr
        exact Oper.wp_mono (fun b' w2 ⟨v,h1,h2,h3,h4⟩=>⟨v,h1,h2,h3,[],by simp,by simp,.inr ⟨rfl,h4⟩⟩) hr
       ·rename_i hw
        rw [if_neg hw] at hr
        exact ⟨hr.1,[],by simp,by simp,.inr ⟨rfl,hr.2⟩⟩
     have fin:∀v w2,(w'.heap.size≤w2.heap.size∧ ∃O',O'.Nodup∧(∀g∈O',w'.heap.size≤g∧g<w2.heap.size)∧(((∃e row,x= .own e row)∧iv (fun _=>False) w2 v x O')∨(O'= []∧Den (az s.H φ) (aP S0 w2 φ (tP T own)) w2 v x)))-> ∃ve,St k own w' ve w2∧J ve w2∧F ve k v w2:=by
      rintro v w2 ⟨dv,O',h4,h5,h6⟩
      have p1:∀j,j≠k->Ic own k O' j=own j:=fun j hj=>by unfold Ic;rw [if_neg hj]
      have p2:Ic own k O' k=O':=by unfold Ic;rw [if_pos rfl]
      refine ⟨Ic own k O',⟨p1,fun g hg=>by rw [p2] at hg;exact (h5 g hg).1⟩,⟨fun j=>?_,fun i j g hi hj=>?_,fun j g hj=>?_⟩,Nat.le_trans ld.size dv,fun y hy=>?_⟩
      ·by_cases hj:j=k
       ·subst hj;rw [p2];exact h4
       ·rw [p1 j hj];exact hJ.1 j
      ·by_cases MJ:i=k
       ·by_cases w_:j=k
        ·rw [MJ,w_]
        ·subst MJ
         rw [p2] at hi;rw [p1 j w_] at hj
         have:=(h5 g hi).1;have:=(hJ.2.2 j g hj).2;omega
       ·by_cases w_:j=k
        ·subst w_
         rw [p2] at hj;rw [p1 i MJ] at hi
         have:=(h5 g hj).1;have:=(hJ.2.2 i g hi).2;omega
        ·rw [p1 i MJ] at hi;rw [p1 j w_] at hj;exact hJ.2.1 i j g hi hj
      ·by_cases w_:j=k
       ·subst w_;rw [p2] at hj
        exact ⟨Nat.le_trans ld.size (h5 g hj).1,(h5 g hj).2⟩
       ·rw [p1 j w_] at hj
        exact ⟨(hJ.2.2 j g hj).1,Nat.lt_of_lt_of_le (hJ.2.2 j g hj).2 dv⟩
      ·rw [hx] at hy;injection hy with hy;subst hy
       rcases h6 with ⟨e1,e2⟩|⟨e1,e2⟩
       ·left;rw [p2];exact ⟨e1,e2⟩
       ·right
        subst e1
        refine e2.mono (fun _ _ h=>h) (fun b hS=>⟨⟨hS.1,fun hm=>?_,hS.2.2⟩,rfl⟩) (fun _ _ _ _ _=>rfl)
        obtain ⟨j,hj,KH⟩:=kY.1 hm
        by_cases w_:j=k
        ·subst w_;rw [p2] at KH;simp at KH
        ·rw [p1 j w_] at KH;exact hS.2.1 (kY.2 ⟨j,hj,KH⟩)
     unfold h_ at i_ ⊢
     split
     ·rename_i hw
      rw [if_pos hw] at i_
      exact Oper.wp_mono (fun b' w2 ⟨v,h1,h2,h3⟩=>⟨v,h1,h2,fin v w2 h3⟩) i_
     ·rename_i hw
      rw [if_neg hw] at i_
      exact fin undef w' i_
    ·
     intro vs own w' hb hJ zm
     have ld:Below w.heap.size w w':=hb
     have De:∀g∈fP own (ops.take T) g_ 0,g∈tP T own:=fun g hg=>by
      obtain ⟨j,h1,h2,h3⟩:=oL own _ _ 0 g hg
      exact kY.2 ⟨j,by rw [List.length_take] at h2;omega,h3⟩
     have hOr:∀g∈fP own (ops.take T) g_ 0,w.heap.size≤g∧g<w'.heap.size:=fun g hg=>by
      obtain ⟨j,h1,h2,h3⟩:=oL own _ _ 0 g hg
      exact hJ.2.2 j g h3
     have hg:=waiting (fP own (ops.take T) g_ 0) w' ld (fun g hg=>(hOr g hg).1)
     have jZ:=jV vs (ops.zipIdx.take T) a (by
      have h1:(ops.zipIdx.take T).filterMap (·.1.dst)=(ops.take T).filterMap (·.dst):=by
       conv=>rhs;rw [←List.zipIdx_map_fst 0 ops,←List.map_take]
       rw [List.filterMap_map];rfl
      rw [h1]
      exact List.Nodup.sublist ((List.take_sublist T ops).filterMap _) (by simpa using iI))
     have UB:∀(k:Nat) (o:Oper) (i:Nat),k<T->ops[k]?=some o->o.dst=some i->(eZ (ops.zipIdx.take T) vs a).tmps.getD i undef=vs k:=by
      intro k o i w7 ho hd
      have hv:=jZ.2.2.1 (o,k) ((mr ops T _).2 ⟨w7,ho⟩) i hd (by rw [km.j8];exact wM k o i (by simpa using ho) hd)
      simp [hv]
     show wpList P ops.toArray Q (ops.drop T) (eZ (ops.zipIdx.take T) vs a) w'
     have hA:aI S0 w0 n (fP own (ops.take T) g_ 0) ⟨jr (ops.take T) (g_.map nO)++oa ((ops.take T).filterMap (·.dst)) s.F,s.H⟩ (eZ (ops.zipIdx.take T) vs a) w' φ:=by
      refine ⟨jZ.1.trans km.j8,jZ.2.1.trans km.ke,hg.da,fun i av hi=>?_,hg.rows,hg.only,hg.inj,hg.cY,hg.apart,hg.new⟩
      show Den (az s.H φ) _ _ _ _
      have hi:look (jr (ops.take T) (g_.map nO)++oa ((ops.take T).filterMap (·.dst)) s.F) i=some av:=hi
      rw [bL] at hi
      cases hh:look (jr (ops.take T) (g_.map nO)) i with
      | some y =>
       rw [hh] at hi
       simp at hi;subst hi
       obtain ⟨k,o,h1,h2,h3⟩:=k8 _ _ _ _ hh
       have w7:k<T:=by have:=(List.getElem?_eq_some_iff.1 h3).1;rw [List.length_map] at this;omega
       have ho:ops[k]?=some o:=bZ _ _ _ _ h1
       rw [UB k o i w7 ho h2]
       rw [List.getElem?_map] at h3
       cases hz:g_[k]? with
       | none=>rw [hz] at h3;cases h3
       | some z =>
        rw [hz] at h3;injection h3 with h3;subst h3
        rcases (zm k w7).2 z hz with ⟨⟨e,row,rfl⟩,-⟩|dW
        ·exact .dead _
        ·rw [rC dW]
         exact dW.mono (fun _ _ h=>h) (fun b hS=>⟨⟨hS.1,fun hm=>hS.2.1 (De b hm),hS.2.2⟩,rfl⟩) (fun _ _ _ _ _=>rfl)
      | none =>
       rw [hh] at hi
       simp at hi
       obtain ⟨h1,h2⟩:=gj _ _ _ _ hi
       have hv:=jZ.2.2.2 i (fun p hp hd=>(kJ ops T i).1 h2 p.2 p.1 ((mr ops T p).1 hp).1 ((mr ops T p).1 hp).2 hd)
       have:(eZ (ops.zipIdx.take T) vs a).tmps.getD i undef=a.tmps.getD i undef:=by
        simp [hv]
       rw [this]
       exact hg.cC i av h1
     obtain ⟨b_,kA⟩:=An own (ops.take T) g_ 0 _ φ hA (fun j o e row d h1 h2 h3=>by
      have RK:j<T:=by have:=(List.getElem?_eq_some_iff.1 h2).1;omega
      have ho:ops[j]?=some o:=bZ _ _ _ _ h1
      rw [UB j o d RK ho h3,Nat.zero_add]
      rcases (zm j RK).2 _ h2 with ⟨-,Pg⟩|dW
      ·exact Pg
      ·have:=rC dW;cases this) (s9 own hJ.1 hJ.2.1 _ _ 0) (fun g hg=>⟨.inl (Nat.le_trans km.da.size (hOr g hg).1),(hOr g hg).2⟩) (by
       rw [kC] at gu ⊢
       exact gu) (List.Nodup.sublist ((List.take_sublist T ops).filterMap _) (by simpa using iI))
     exact j0 (S0:=S0) (w0:=w0) _ _ _ _ _ pB hD _ _ ⟨b_,kA⟩ hQ
    ·intro k o hk;rw [getD_replicate_false] at hk;cases hk
    ·intro k o s hk;rw [getD_replicate_false] at hk;cases hk
    ·intro k o hk;rw [getD_replicate_false] at hk;cases hk
   ·cases he
  ·cases he
 ·cases he
def sk (P:Program) (n T:Nat) (Ks:List Nat) (hs:List (Nat×Hint)) (c:Code) (s:AS):Option (AS×List Prop) :=
 match c with
 | .region _ ⟨l⟩ true=>z1 P n T Ks l hs s
 | _=>none
theorem bg.PK {n:Nat} {c:Code} {Q:Exit->AS->Prop} {s s':AS} {C:List Prop} (T:Nat) (Ks:List Nat) (hs:List (Nat×Hint)) (he:sk P n T Ks hs c s=some (s',C)) (hC:bx C) (h:Q .normal s'):bg P n c Q s:=by
 intro S0 w0 a w gw
 unfold sk at he
 split at he
 ·exact DK (S0:=S0) (w0:=w0) he hC gw fun a' w' bY=>⟨s',h,bY.one⟩
 ·cases he
theorem bg.Ur {n:Nat} {c:Code} {Q:Exit->AS->Prop} {s:AS} {C:List Prop} (T:Nat) (Ks:List Nat) (hs:List (Nat×Hint)) (he:pI (sk P n T Ks hs c s)=some C) (hC:bx C) (h:Q .normal (ql (sk P n T Ks hs c s))):bg P n c Q s:=bg.PK T Ks hs (jd he) hC h
end
end Go.Proofs.YtjgbhhnghedgdaaGreatDoor
