import Derived.Test.YtjgbhhnghedgdaaGreatDoorZsV8
set_option linter.all false
namespace Go.Proofs.YtjgbhhnghedgdaaGreatDoor
open Go.RowKit
section
variable {P:Program} {ops:Array Oper} {Q:Exit->Act->World->Prop} {a:Act} {w:World}
theorem wpAny_tailG {γ :Type} {n T:Nat} (hT:T<ops.size) (hsk:Region.sinkB .any ops T=true) (hch:Region.chainB .any ops T=true) (hsq:Region.seqB .any ops (ops.size-T) T ((List.range ops.size).map (decide<| · <T)).toArray=true) (hsz:a.tmps.size=n) (hB:factsB ops n=true) (F: γ ->Nat->Value->World->Prop) (J: γ ->World->Prop) (St:Nat-> γ ->World-> γ ->World->Prop) (mono:∀i k v g g' w1 w2,i≠k->Below w1.heap.size w1 w2->St i g w1 g' w2->F g k v w1->F g' k v w2)
  (hop:∀k o,k<T->ops[k]?=some o-> ∀g a' w',Below w.heap.size w w'->J g w'->a'.tmps.size=a.tmps.size->(∀d∈depsOf o,F g d (valAt ops a' d) w'∨(∃p,ops[d]?=some p∧p.dst=none))->(∀s,(∀(j:Nat) (p:Oper),j<T->ops[j]?=some p->p.dst≠some s)->a'.eval (.tmp s)=a.eval (.tmp s))->opRule P ops Q o a' w' (fun v w''=>∃g',St k g w' g' w''∧J g' w''∧F g' k v w''))
  (hfin:∀(vs:Nat->Value) (g: γ),∀w',Below w.heap.size w w'->J g w'->(∀k,k<T->F g k (vs k) w')->wpList P ops Q (ops.toList.drop T) (putAll (ops.toList.zipIdx.take T) vs a) w') :
  ∀(fuel:Nat) (listed:Array Bool) (a':Act) (w':World) (g: γ),Inv ops (F g) a w listed a' w'->J g w'->(∀j,T≤j->listed.getD j false=false) ->
   (listed.toList.filter (· == false)).length=fuel->wpAny P .any ops Q fuel listed a' w':=by
 obtain ⟨hlt,hnd,hin⟩:=factsB_parts hB
 have some_ready:∀(listed:Array Bool) (a':Act) (w':World) (g: γ),Inv ops (F g) a w listed a' w'-> ∀k,k<T->listed.getD k false=false-> ∃i,i<T∧i∈Region.ready .any ops listed:=by
  intro listed a' w' g I k
  induction k using Nat.strongRecOn with
  | _ k ih =>
   intro hk hl
   have hkl:k<listed.size:=by rw [I.size];omega
   have hk2:k<ops.size:=by omega
   have hk':ops[k]?=some ops[k]:=Array.getElem?_eq_getElem hk2
   by_cases hall:∀d∈depsOf ops[k],listed.getD d false=true
   ·refine ⟨k,hk,?_⟩
    rw [mem_ready]
    refine ⟨?_,ops[k],hk',fun e he hb=>hall e.on ?_⟩
    ·simp [hkl] at hl ⊢;exact hl
    ·unfold depsOf
     exact List.mem_map.2 ⟨e,List.mem_filter.2 ⟨by simpa using he,hb⟩,rfl⟩
   ·have:∃d,d∈depsOf ops[k]∧listed.getD d false=false:=by
     refine Classical.byContradiction fun hno=>hall fun d hd=>?_
     cases hx:listed.getD d false with
     | true=>rfl
     | false=>exact absurd ⟨d,hd,hx⟩ hno
    obtain ⟨d,hd,hx⟩:=this
    exact ih d (hlt k _ hk' d hd) (by have:=hlt k _ hk' d hd;omega) hx
 have done:∀(listed:Array Bool) (a':Act) (w':World) (g: γ),Inv ops (F g) a w listed a' w'->J g w'->(∀k,k<T->listed.getD k false=true)->(∀j,T≤j->listed.getD j false=false)->wpList P ops Q (ops.toList.drop T) a' w':=by
  intro listed a' w' g I hJ all tail
  have hv:∀k,∃v,k<T->(F g k v w'∧ ∀o s,ops[k]?=some o->o.dst=some s->a'.tmps[s]?=some v):=by
   intro k
   by_cases hk:k<T
   ·have hk2:k<ops.size:=by omega
    have hk':ops[k]?=some ops[k]:=Array.getElem?_eq_getElem hk2
    cases hd:ops[k].dst with
    | none =>
     obtain ⟨v,hv⟩:=I.noval k _ (all k hk) hk' hd
     exact ⟨v,fun _=>⟨hv,fun o s ho hs=>by rw [hk'] at ho;injection ho with ho;subst ho;rw [hd] at hs;cases hs⟩⟩
    | some s =>
     obtain ⟨v,hv,hF⟩:=I.val k _ s (all k hk) hk' hd
     exact ⟨v,fun _=>⟨hF,fun o s' ho hs=>by rw [hk'] at ho;injection ho with ho;subst ho;rw [hd] at hs;injection hs with hs;subst hs;exact hv⟩⟩
   ·exact ⟨undef,fun h=>absurd h hk⟩
  obtain ⟨vs,hvs⟩:=Classical.axiomOfChoice hv
  have hmem:∀p:Oper×Nat,p∈ops.toList.zipIdx.take T↔(p.2<T∧ops[p.2]?=some p.1):=by
   intro p
   rw [List.mem_iff_getElem?]
   constructor
   ·rintro ⟨x,hx⟩
    rw [List.getElem?_take] at hx
    split at hx
    ·rename_i hxT
     rw [List.getElem?_zipIdx] at hx
     cases ho:ops.toList[x]? with
     | none=>rw [ho] at hx;simp at hx
     | some q =>
      rw [ho] at hx
      simp at hx
      subst hx
      exact ⟨by simpa using hxT,by simpa using ho⟩
    ·cases hx
   ·rintro ⟨h1,h2⟩
    refine ⟨p.2,?_⟩
    rw [List.getElem?_take,if_pos h1,List.getElem?_zipIdx]
    have h2':ops.toList[p.2]?=some p.1:=by simpa using h2
    rw [h2'];simp
  have hspec:=putAll_spec vs (ops.toList.zipIdx.take T) a (by
   have h1:(ops.toList.zipIdx.take T).filterMap (·.1.dst)=(ops.toList.take T).filterMap (·.dst):=by
    conv=>rhs;rw [←List.zipIdx_map_fst 0 ops.toList,←List.map_take]
    rw [List.filterMap_map];rfl
   rw [h1]
   exact List.Nodup.sublist ((List.take_sublist T ops.toList).filterMap _) hnd)
  have he:a'=putAll (ops.toList.zipIdx.take T) vs a:=by
   have ht:a'.tmps=(putAll (ops.toList.zipIdx.take T) vs a).tmps:=by
    apply Array.ext_getElem?
    intro s
    by_cases hs:∃(k:Nat) (o:Oper),k<T∧ops[k]?=some o∧o.dst=some s
    ·obtain ⟨k,o,hk,ho,hd⟩:=hs
     rw [(hvs k hk).2 o s ho hd]
     exact (hspec.2.2.1 (o,k) ((hmem _).2 ⟨hk,ho⟩) s hd (by rw [hsz];exact hin k o s ho hd)).symm
    ·rw [I.old s fun k o hl ho hd=>hs ⟨k,o,(Classical.byContradiction fun hk=>(by have:=tail k (Nat.le_of_not_lt hk);rw [this] at hl;cases hl)),ho,hd⟩]
     exact (hspec.2.2.2 s fun p hp hd=>hs ⟨p.2,p.1,((hmem p).1 hp).1,((hmem p).1 hp).2,hd⟩).symm
   have hd:a'.defers=(putAll (ops.toList.zipIdx.take T) vs a).defers:=I.tdefers.trans hspec.2.1.symm
   cases a';cases h:putAll (ops.toList.zipIdx.take T) vs a
   rw [h] at ht hd
   simp only at ht hd
   rw [ht,hd]
  rw [he]
  exact hfin vs g w' I.grown hJ (fun k hk=>(hvs k hk).1)
 have rest:∀(fuel:Nat) (listed:Array Bool) (a':Act) (w':World) (g: γ),Inv ops (F g) a w listed a' w'->J g w'->(∀j,T≤j->listed.getD j false=false)->(listed.toList.filter (· == false)).length=fuel->(∀k,k<T->listed.getD k false=true)->wpAny P .any ops Q fuel listed a' w':=by
  intro fuel listed a' w' g I hJ tail hc all
  have hcanon:listed=((List.range ops.size).map (decide<| · <T)).toArray:=by
   apply Array.ext_getElem?
   intro x
   by_cases hx:x<ops.size
   ·have hxl:x<listed.size:=by rw [I.size];exact hx
    have hr:((List.range ops.size).map (decide<| · <T)).toArray[x]?=some (decide (x<T)):=by simp [hx]
    rw [hr]
    by_cases hxT:x<T
    ·have:=all x hxT;simp [hxl] at this ⊢;rw [this,decide_eq_true hxT]
    ·have:=tail x (by omega);simp [hxl] at this ⊢;rw [this,decide_eq_false hxT]
   ·rw [Array.getElem?_eq_none (by rw [I.size];omega),Array.getElem?_eq_none (by simp;omega)]
  have hlen:fuel=(ops.toList.drop T).length:=by
   rw [←hc,hcanon]
   simp only [List.length_drop,Array.length_toList,List.filter_map,List.length_map]
   have key:∀n,T≤n->((List.range n).filter ((fun x=>x == false) ∘ (decide<| · <T))).length=n-T:=by
    intro n hn
    induction n with
    | zero=>simp
    | succ n ih =>
     rw [List.range_succ,List.filter_append,List.length_append]
     by_cases hnT:T≤n
     ·rw [ih hnT]
      have:((fun x=>x == false) ∘ (decide<| · <T)) n=true:=by simp;omega
      rw [List.filter_cons_of_pos this];simp;omega
     ·obtain rfl:T=n+1:=by omega
      have h1:(List.range n).filter ((fun x=>x == false) ∘ (decide<| · <n+1))= []:=by
       rw [List.filter_eq_nil_iff];intro x hx;have:=List.mem_range.1 hx;simp;omega
      have h2:[n].filter ((fun x=>x == false) ∘ (decide<| · <n+1))= []:=by
       rw [List.filter_eq_nil_iff];intro x hx;simp at hx;subst hx;simp
      rw [h1,h2];simp
   exact key ops.size (by omega)
  rw [hlen]
  refine wpAny_of_seq (ops.toList.drop T) T listed a' w' (fun j=>by rw [List.getElem?_drop];simp) ?_ (done listed a' w' g I hJ all tail)
  rw [hcanon]
  simpa using hsq
 intro fuel
 induction fuel with
 | zero =>
  intro listed a' w' g I hJ tail hc
  refine rest 0 listed a' w' g I hJ tail hc fun k hk=>?_
  cases hx:listed.getD k false with
  | true=>rfl
  | false =>
   exfalso
   have hkl:k<listed.size:=by rw [I.size];omega
   have:false∈listed.toList.filter (· == false):=by
    refine List.mem_filter.2 ⟨?_,rfl⟩
    have h1:listed.toList[k]?=some false:=by simp [hkl] at hx ⊢;exact hx
    exact List.mem_of_getElem? h1
   have:=List.length_pos_of_mem this
   omega
 | succ fuel ih =>
  intro listed a' w' g I hJ tail hc
  by_cases hex:∀k,k<T->listed.getD k false=true
  ·exact rest (fuel+1) listed a' w' g I hJ tail hc hex
  have hun:∃k,k<T∧listed.getD k false=false:=by
   refine Classical.byContradiction fun hno=>hex fun k hk=>?_
   cases hx:listed.getD k false with
   | true=>rfl
   | false=>exact absurd ⟨k,hk,hx⟩ hno
  obtain ⟨k0,hk0,hx0⟩:=hun
  have hHI:HeadInv .any ops T listed:=⟨I.size,fun j oj hj hl e he hb=>I.closed j oj hl hj e.on (by
    unfold depsOf
    exact List.mem_map.2 ⟨e,List.mem_filter.2 ⟨by simpa using he,hb⟩,rfl⟩),fun t ht ht'=>getD_in (by rw [I.size];exact ht') (tail t ht)⟩
  have hk0l:listed.getD k0 true=false:=getD_in (by rw [I.size];omega) hx0
  refine ⟨fun hr=>(by
   obtain ⟨i,_,hi⟩:=some_ready listed a' w' g I k0 hk0 hx0
   rw [hr] at hi;cases hi),fun i hi=>?_⟩
  have hiT:i<T:=Classical.byContradiction fun h=>tail_waits hsk hch hT hHI _ k0 rfl hk0 hk0l i (by omega) hi
  obtain ⟨h0,o,ho,hall⟩:=mem_ready.1 hi
  have hil:i<listed.size:=by rw [I.size];exact (Array.getElem?_eq_some_iff.1 ho).1
  have h0':listed.getD i false=false:=by simp [hil] at h0 ⊢;exact h0
  have hdeps:∀d∈depsOf o,listed.getD d false=true:=by
   intro d hd
   unfold depsOf at hd
   obtain ⟨e,he,rfl⟩:=List.mem_map.1 hd
   obtain ⟨he1,he2⟩:=List.mem_filter.1 he
   exact hall e (by simpa using he1) he2
  have next:∀v w'' g',Below w'.heap.size w' w''->St i g w' g' w''->F g' i v w''->Inv ops (F g') a w (listed.setIfInBounds i true) (a'.put o.dst v) w'':=by
   intro v w'' g' hb hst hF
   have lists:∀k,(listed.setIfInBounds i true).getD k false=true->k=i∨listed.getD k false=true:=by
    intro k hk
    by_cases hki:i=k
    ·exact .inl hki.symm
    ·right;rw [getD_set_ne false hki] at hk;exact hk
   have diff:∀k,listed.getD k false=true->i≠k:=fun k hk e=>by subst e;rw [h0'] at hk;cases hk
   refine ⟨I.grown.thenCall hb,by simpa using I.size,?_,(put_size ..).trans I.tsize,(put_defers ..).trans I.tdefers,?_,?_,?_⟩
   ·intro k p hk hp d hd
    rcases lists k hk with rfl|hk
    ·rw [ho] at hp;injection hp with hp;subst hp
     exact getD_set_true (hdeps d hd)
    ·exact getD_set_true (I.closed k p hk hp d hd)
   ·intro k p s hk hp hs
    rcases lists k hk with rfl|hk
    ·rw [ho] at hp;injection hp with hp;subst hp
     refine ⟨v,?_,hF⟩
     rw [hs]
     exact put_get_same a' s v (by rw [I.tsize,hsz];exact hin k _ s ho hs)
    ·obtain ⟨u,hu,hFu⟩:=I.val k p s hk hp hs
     refine ⟨u,?_,mono i k u g g' w' w'' (diff k hk) hb hst hFu⟩
     rw [put_get_other a' o.dst s v fun he=>?_]
     ·exact hu
     ·have:=dst_inj hnd ho hp he hs
      subst this
      rw [h0'] at hk;cases hk
   ·intro k p hk hp hs
    rcases lists k hk with rfl|hk
    ·exact ⟨v,hF⟩
    ·obtain ⟨u,hu⟩:=I.noval k p hk hp hs
     exact ⟨u,mono i k u g g' w' w'' (diff k hk) hb hst hu⟩
   ·intro s hs
    rw [put_get_other a' o.dst s v (hs i o (by simp [hil]) ho)]
    exact I.old s fun k p hk hp=>hs k p (getD_set_true hk) hp
  have htail':∀j,T≤j->(listed.setIfInBounds i true).getD j false=false:=fun j hj=>by rw [getD_set_ne false (by omega)];exact tail j hj
  have hcount:((listed.setIfInBounds i true).toList.filter (· == false)).length=fuel:=by
   have hlt':((listed.setIfInBounds i true).toList.filter (· == false)).length+1=(listed.toList.filter (· == false)).length:=by
    rw [Array.toList_setIfInBounds]
    have hi':listed.toList[i]?=some false:=by simp [hil] at h0 ⊢;exact h0
    exact count_set1 _ i hi'
   omega
  have rule:=hop i o hiT ho g a' w' I.grown hJ I.tsize (fun d hd=>by
   have hl:=hdeps d hd
   cases hp:ops[d]? with
   | none =>
    have hdl:d<listed.size:=by
     rcases Nat.lt_or_ge d listed.size with h|h
     ·exact h
     ·simp [Array.getElem?_eq_none h] at hl
    rw [I.size] at hdl
    rw [Array.getElem?_eq_getElem hdl] at hp;cases hp
   | some p =>
    cases hs:p.dst with
    | none=>exact .inr ⟨p,rfl,hs⟩
    | some s =>
     left
     obtain ⟨u,hu,hF⟩:=I.val d p s hl hp hs
     unfold valAt
     rw [hp]
     simp only [Option.bind_some,hs]
     simp [hu];exact hF) (fun s hs=>by
   show a'.tmps.getD s undef=a.tmps.getD s undef
   have:a'.tmps[s]?=a.tmps[s]?:=I.old s fun k p hk hp hd=>by
    have hkT:k<T:=Classical.byContradiction fun h=>(by have:=tail k (Nat.le_of_not_lt h);rw [this] at hk;cases hk)
    exact hs k p hkT hp hd
   simp [this])
  unfold opRule at rule
  unfold wpOp
  rw [ho]
  simp only
  by_cases hw:Region.wanted o (yielded ops a'.tmps)=true
  ·rw [if_pos hw] at rule ⊢
   left
   exact Oper.wp_mono (fun a'' w'' ⟨v,he,hb,g',hst,hJ',hF⟩=>by
    subst he
    exact ih _ _ _ _ (next v w'' g' hb hst hF) hJ' htail' hcount) rule
  ·rw [if_neg hw] at rule ⊢
   obtain ⟨g',hst,hJ',hF⟩:=rule
   exact ih _ _ _ _ (next undef w' g' (Below.refl _ _) hst hF) hJ' htail' hcount
end
def HeadOKO (P:Program) (s:AS) (o:Oper) (x:AV) (C:List Prop):Prop :=
 AllP C-> ∀S0 w0 n O a w φ Q (b:Act),SimO S0 w0 n O s a w φ->(∀g∈O,g<w.heap.size)->b.tmps=a.tmps->o.wp P b w (fun b' w'=>∃v,b'=b.put o.dst v∧Below w.heap.size w w'∧Den (infoOf s.H φ) (Free S0 w' φ O) w' v x) Q
section
variable {P:Program} {s:AS} {o:Oper} {h:Hint} {r:AV×List Prop}
theorem headO_plain (hp:PlainOK P s o r.1 r.2):HeadOKO P s o r.1 r.2:=by
 intro hC S0 w0 n O a w φ Q b hs _ hb
 obtain ⟨v,hrun,hden⟩:=hp hC S0 w0 n O a w φ hs
 rw [←eval_tmps hb] at hrun
 exact wp_of_run hrun ⟨v,rfl,Below.refl _ _,hden⟩
theorem freeO_grow {S0:Zone} {w0 w w':World} {n:Nat} {O:List Nat} {a:Act} {φ:Nat->Option Nat} (hs:SimO S0 w0 n O s a w φ) (hO:∀g∈O,g<w.heap.size) (hb:Below w.heap.size w w') (b:Nat) (h:Free S0 w φ O b∨(w.heap.size≤b∧b<w'.heap.size)):Free S0 w' φ O b:=by
 rcases h with h|⟨h1,h2⟩
 ·exact ⟨by have:=h.1;have:=hb.size;omega,h.2⟩
 ·exact ⟨h2,fun hm=>by have:=hO b hm;omega,fun i hi=>by have:=(hs.rng i b hi).2;omega,hs.new b (.inl (by have:=hs.bel.size;omega))⟩
theorem lit_okO {S0:Zone} {w0 w:World} {n:Nat} {O:List Nat} {a:Act} {φ:Nat->Option Nat} (hs:SimO S0 w0 n O s a w φ) (z:Nat):∀(parts:List (Nat×Operand)) (i:Nat) (cells:List AV) (cur:Array Value),litCells s z i parts=some cells->plainL cells=true->i*z+parts.length*z=cur.size ->
  cells.length=parts.length*z∧ ∃us:Array Value,Instr.fill (fun i=>some (i*z,z)) cur (parts.map fun p=>(p.1,a.eval p.2))=some us∧us.size=cur.size∧(∀j,j<i*z->us[j]?=cur[j]?)∧ ∀(j:Nat) u x,us[i*z+j]?=some u->cells[j]?=some x->Rep (Free S0 w φ O) w u x
 | [],i,cells,cur,hc,hp,hsz=>by cases hc;exact ⟨by simp,cur,rfl,rfl,fun _ _=>rfl,fun j u x _ hx=>by simp at hx⟩
 | (j,x)::l,i,cells,cur,hc,hp,hsz=>by
  simp only [litCells] at hc
  split at hc
  ·rename_i c m hij hcx hm
   split at hc
   ·rename_i hcz
    cases hc
    have hij:=Nat.eq_of_beq_eq_true hij
    have hcz:=Nat.eq_of_beq_eq_true hcz
    subst hij
    obtain ⟨vs,hv,hlen,hden⟩:=den_cells (hs.opd x) hcx
    have hpm:plainL m=true:=by
     have key:∀(c m:List AV),plainL (c++m)=true->plainL m=true:=by
      intro c
      induction c with
      | nil=>intro m h;exact h
      | cons y c ih =>
       intro m h
       simp only [List.cons_append,plainL] at h
       split at h
       ·exact ih m h
       ·cases h
     exact key c m hp
    simp only [List.length_cons] at hsz
    have hz2:(l.length+1)*z=l.length*z+z:=by rw [Nat.add_mul,Nat.one_mul]
    have hi2:(i+1)*z=i*z+z:=by rw [Nat.add_mul,Nat.one_mul]
    have hfold:((a.eval x).cells.zipIdx.foldl (fun cs (cj:Value×Nat)=>cs.setIfInBounds (i*z+cj.2) cj.1) cur)=(vs.zipIdx.foldl (fun cs (cj:Value×Nat)=>cs.setIfInBounds (i*z+cj.2) cj.1) cur):=by rw [hv];simp
    obtain ⟨hl1,us,hus,hus1,hus2,hus3⟩:=lit_okO hs z l (i+1) m (vs.zipIdx.foldl (fun cs (cj:Value×Nat)=>cs.setIfInBounds (i*z+cj.2) cj.1) cur) hm hpm (by rw [foldl_size];omega)
    rw [foldl_size] at hus1
    refine ⟨by rw [List.length_append,List.length_cons,hl1,hcz];omega,us,?_,hus1,fun j hj=>?_,fun j u y hu hy=>?_⟩
    ·rw [List.map_cons]
     unfold Instr.fill
     simp only
     have hvz:(a.eval x).cells.size=z:=by rw [hv];simp;omega
     rw [if_neg (by rw [hvz];simp;omega),hfold]
     exact hus
    ·rw [hus2 j (by omega),foldl_set,if_neg (by omega)]
    ·by_cases hj:j<z
     ·rw [hus2 _ (by omega),foldl_set,if_pos (by omega)] at hu
      rw [List.getElem?_append_left (by omega)] at hy
      have hu':vs[j]?=some u:=by rw [←hu];congr 1;omega
      exact (plain0_rep (hden j u y hu' hy) (plainL_at (l:=c++m) (j:=j) hp (by rw [List.getElem?_append_left (by omega)];exact hy))).1
     ·rw [List.getElem?_append_right (by omega)] at hy
      refine hus3 (j-z) u y ?_ (by rw [←hy,hcz])
      rw [←hu];congr 1;omega
   ·cases hc
  ·cases hc
theorem headO_call {c:Callee} {xs:Array Operand} {ts:Array TypeId} {f:FuncId} {args:List AV} {x:AV} {C:List Prop} (ho:o.op= .call ⟨c,xs,ts⟩) (hc:callee s c=some f) (hE:isEnter P f=true) (hret:AllP C->Ret P f args x) (hl:args.length=xs.toList.length)
  (hG:AllP C-> ∀S0 w0 n O a w φ,SimO S0 w0 n O s a w φ-> ∃S:Nat->Prop,(∀b,S b->b<w.heap.size)∧(∀(j:Nat) v y,(xs.toList.map a.eval)[j]?=some v->args[j]?=some y->Rep S w v y)∧ ∀w' v O',Giv (fun b=>S b∨(w.heap.size≤b∧b<w'.heap.size∧b ∉ O')) w' v x O'->Giv (fun b=>Free S0 w φ O b∨(w.heap.size≤b∧b<w'.heap.size∧b ∉ O')) w' v x O'):HeadOKO P s o (frz x) C:=by
 intro hC S0 w0 n O a w φ Q b hs hO hb
 have hrun:=callee_ok (P:=P) hs hc ho hE
 rw [←eval_tmps hb] at hrun
 obtain ⟨S,hS,hargs,hgiv⟩:=hG hC S0 w0 n O a w φ hs
 unfold Oper.wp
 rw [hrun]
 have hcall:=hret hC w S (xs.toList.map a.eval) hs.bel.good hS (by simp [hl]) hargs
 have e:(xs.toList.map a.eval).toArray=xs.map b.eval:=by rw [eval_tmps hb];apply Array.ext';simp
 rw [e] at hcall
 refine hcall.mono ?_
 rintro en w' ⟨v,O',rfl,hbl,hnd,hrg,hg⟩
 refine ⟨v,rfl,hbl,.rep (frz_ok (fun b hb=>?_) (fun g hg=>?_) (hgiv w' v O' hg))⟩
 ·exact freeO_grow hs hO hbl b (hb.imp id fun h=>⟨h.1,h.2.1⟩)
 ·exact freeO_grow hs hO hbl g (.inr (hrg g hg))
theorem evHeadO_ok (hr:evHead P s o h=some r):HeadOKO P s o r.1 r.2:=by
 unfold evHead at hr
 split at hr
 ·rename_i t len parts ho
  split at hr
  ·rename_i el hu
   split at hr
   ·rename_i z zero hz hzero
    split at hr
    ·rename_i cells hcells hlen hbig hzs
     split at hr
     ·rename_i hp
      cases hr
      intro hC S0 w0 n O a w φ Q b hs hO hb
      have hlen:=Nat.eq_of_beq_eq_true hlen
      have hbig:len*(z+1)≤16777216:=Nat.le_of_ble_eq_true hbig
      have hn:(named h cells).1=cells:=(named_ok (C:=[]) (by rw [List.append_nil];exact hC)).1
      obtain ⟨h1,us,h2,h3,-,h4⟩:=lit_okO hs (z+1) parts.toList 0 cells ((Array.range (len*(z+1))).map (zero.cells[· %zero.cells.size]!)) hcells hp (by simp [←hlen])
      have hm:len≤maxLen:=by
       have:len≤len*(z+1):=Nat.le_mul_of_pos_right _ (by omega)
       unfold maxLen;omega
      have hrun:(execOp b.eval o).run P w= .ok (.value (.slice (some ⟨w.heap.size,0,none⟩) len len)) {w with heap:=w.heap.push (.cells us el (0,0))}:=by
       have hz':(sizeOf el).run P w= .ok (z+1) w:=run_sizeOf hz
       have hpl:(parts.map fun p=>(p.1,a.eval p.2)).toList=parts.toList.map fun p=>(p.1,a.eval p.2):=by simp
       rw [eval_tmps hb]
       unfold execOp
       simp only [ho,Instr.buildSlice,Sem.run_bind,run_underlying hu,Result.andThen_ok,hz',Sem.run_ite]
       rw [if_neg (by omega)]
       by_cases h0:len*(z+1)=0
       ·rw [if_pos h0]
        simp only [Sem.run_pure,Result.andThen_ok]
        have:(Array.range (len*(z+1))).map (fun x=>(#[]:Array Value)[x%(#[]:Array Value).size]!)=(Array.range (len*(z+1))).map (fun x=>zero.cells[x%zero.cells.size]!):=by rw [h0,map_range0,map_range0]
        rw [this,hpl,h2]
        rfl
       ·rw [if_neg h0]
        simp only [run_zero hzero,Result.andThen_ok,Sem.run_pure]
        rw [hpl,h2]
        rfl
      have hbl:Below w.heap.size w {w with heap:=w.heap.push (.cells us el (0,0))}:=⟨rfl,rfl,rfl,by simp,fun k hk=>heap_push_lt w _ k hk⟩
      have hcl:cells.length=(z+1)*len:=by rw [h1,hlen,Nat.mul_comm]
      refine wp_of_run hrun ⟨_,rfl,hbl,?_⟩
      simp only [hn]
      refine .rep (sl_of_row (r:=⟨z+1,true,false,cells⟩) (heap_push w _) (freeO_grow hs hO hbl _ (.inr ⟨Nat.le_refl _,by simp⟩)) cells 0 (by rw [h3,hcl];simp [Nat.mul_comm]) hcl (Nat.le_refl _) hm _ (fun _=>rfl) (fun j u x hu hx=>?_))
      exact (h4 j u x (by simpa using hu) hx).mono fun b hb=>⟨freeO_grow hs hO hbl b (.inl hb),heap_push_lt w _ b hb.1⟩
     ·cases hr
    ·cases hr
   ·cases hr
  ·cases hr
 ·rename_i t l c ho
  split at hr
  ·rename_i kl L kc C el hl hc hu
   split at hr
   ·rename_i i hi
    split at hr
    ·rename_i zero z hz hsz
     split at hr
     ·rename_i hb
      cases hr
      have hb:=Nat.eq_of_beq_eq_true hb
      intro hC S0 w0 n O a w φ Q b hs hO hbt
      obtain ⟨hnm,hC⟩:=named_ok hC
      obtain ⟨h1,h2,h3,h4,h5,-⟩:=hC
      have el':b.eval l= .int kl L:=by rw [eval_tmps hbt];exact den_val (hl ▸ hs.opd l)
      have ec:b.eval c= .int kc C:=by rw [eval_tmps hbt];exact den_val (hc ▸ hs.opd c)
      obtain ⟨cur,hrun,hcs,hcell⟩:=run_make ho el' ec hu hi hz hsz hb h1 h2 h3 h4 h5 w
      have hbl:Below w.heap.size w {w with heap:=w.heap.push (.cells cur el (0,0))}:=⟨rfl,rfl,rfl,by simp,fun k hk=>heap_push_lt w _ k hk⟩
      have hzl:(zero.cells.toList.map constAV0).length=z+1:=by simp [hb]
      have hrl:=zrow_len (zero.cells.toList.map constAV0) (z+1) hzl h.k
      have hle:(z+1)*h.k≤(z+1)*h.m:=Nat.mul_le_mul_left _ h3
      refine wp_of_run hrun ⟨_,rfl,hbl,?_⟩
      simp only [hnm]
      refine .rep (sl_of_row (r:=⟨z+1,true,false,zrow (zero.cells.toList.map constAV0) h.k⟩) (heap_push w _) (freeO_grow hs hO hbl _ (.inr ⟨Nat.le_refl _,by simp⟩)) _ 0 (by rw [hrl,hcs];omega) hrl h3 h5 _ (fun _=>rfl) (fun j u x hu hx=>?_))
      have h6:=zrow_at _ (z+1) hzl (by omega) _ _ _ hx
      have h7:=hcell j u (by simpa using hu)
      rw [List.getElem?_map] at h6
      have h8:zero.cells.toList[j%(z+1)]?=some u:=by simpa using h7
      rw [h8] at h6;injection h6 with h6;subst h6;exact rep_const0 u
     ·cases hr
    ·cases hr
   ·cases hr
  ·cases hr
 ·exact headO_plain (evPlain_ok hr)
 ·rename_i c xs ts _ ho
  split at hr
  ·rename_i f x hc _
   split at hr
   ·rename_i hE _
    split at hr
    ·rename_i vs C hv hfl
     cases hr
     refine headO_call ho hc hE (fun hC=>hC.1) ?_ fun hC S0 w0 n O a w φ hs=>?_
     ·have key:∀(l:List AV) (m:List AV),viewsL s l=some m->m.length=l.length:=by
       intro l
       induction l with
       | nil=>intro m h;cases h;rfl
       | cons y l ih =>
        intro m h
        simp only [viewsL] at h
        split at h
        ·rename_i y' m' _ hm
         cases h
         simp [ih m' hm]
        ·cases h
      rw [key _ _ hv];simp
     ·exact ⟨fun b=>b<w.heap.size,fun _ h=>h,(viewsL_ok hs _ _ hv).2,fun w' v _ hg=>flat_ok hfl hC.2 hg⟩
    ·cases hr
   ·rename_i hE _
    split at hr
    ·rename_i hrd
     cases hr
     refine headO_call ho hc hE (fun hC=>hC.1) (by simp) fun hC S0 w0 n O a w φ hs=>⟨Free S0 w φ O,fun b hb=>hb.1,fun j v x hv hx=>?_,fun w' v _ hg=>hg⟩
     have hrx:=readyL_at hrd hx
     rw [List.getElem?_map] at hv hx
     cases hj:xs.toList[j]? with
     | none=>rw [hj] at hv;cases hv
     | some y =>
      rw [hj] at hv hx
      injection hv with hv;injection hx with hx;subst hv;subst hx
      exact readyA_ok (hs.opd y) hrx
    ·cases hr
   ·cases hr
  ·cases hr
 ·exact headO_plain (evPlain_ok hr)
end
section
variable {P:Program} {ops:List Oper} {S0:Zone} {w0:World} {Q:Exit->Act->World->Prop}
theorem evHGO_ok {s:AS} {o:Oper} {h:Hint} {r:AV×List Prop} (hr:evHG P ops s o h=some r) (hC:AllP r.2) {n:Nat} {O:List Nat} {a b:Act} {w:World} {φ:Nat->Option Nat} (hs:SimO S0 w0 n O s a w φ) (hO:∀g∈O,g<w.heap.size) (hb:b.tmps=a.tmps) :
  opRule P ops.toArray Q o b w fun v w'=>w.heap.size≤w'.heap.size∧Den (infoOf s.H φ) (Free S0 w' φ O) w' v r.1:=by
 unfold evHG at hr
 unfold opRule
 split at hr
 ·rename_i hg
  have hw:Region.wanted o (yielded ops.toArray b.tmps)=true:=by unfold Region.wanted;rw [hg]
  rw [if_pos hw]
  exact Oper.wp_mono (fun b' w' ⟨v,h1,h2,h3⟩=>⟨v,h1,h2,h2.size,h3⟩) (evHeadO_ok hr hC S0 w0 n O a w φ Q b hs hO hb)
 ·rename_i j want hg
  split at hr
  ·rename_i p hp
   split at hr
   ·rename_i d hd
    split at hr
    ·rename_i bb hbb
     have ht:=hs.get d
     rw [hbb] at ht
     have hy:=yielded_at (ops:=ops) hp hd (den_bool ht)
     rw [←hb] at hy
     split at hr
     ·rename_i hwant
      split at hr
      ·rename_i x C he
       cases hr
       obtain ⟨hbg,hC⟩:=hC
       have hw:Region.wanted o (yielded ops.toArray b.tmps)=true:=by
        unfold Region.wanted;rw [hg];simp only [hy,hbg]
        have:h.g=want:=by simpa using hwant
        rw [this];simp
       rw [if_pos hw]
       exact Oper.wp_mono (fun b' w' ⟨v,h1,h2,h3⟩=>⟨v,h1,h2,h2.size,h3⟩) (evHeadO_ok he hC S0 w0 n O a w φ Q b hs hO hb)
      ·cases hr
     ·rename_i hwant
      cases hr
      obtain ⟨hbg,-⟩:=hC
      have hw:¬Region.wanted o (yielded ops.toArray b.tmps)=true:=by
       unfold Region.wanted;rw [hg];simp only [hy,hbg]
       have:¬h.g=want:=by simpa using hwant
       simpa using this
      rw [if_neg hw]
      exact ⟨Nat.le_refl _,.rep (.val _)⟩
    ·rename_i arr hbb
     have ht:=hs.get d
     rw [hbb] at ht
     have hy:=yielded_none (ops:=ops) hp hd (den_val ht)
     rw [←hb] at hy
     cases hr
     have hw:¬Region.wanted o (yielded ops.toArray b.tmps)=true:=by
      unfold Region.wanted;rw [hg];simp [hy]
     rw [if_neg hw]
     exact ⟨Nat.le_refl _,.rep (.val _)⟩
    ·cases hr
   ·cases hr
  ·cases hr
end
def viewF (s:AS):List (Nat×AV)->List (Nat×AV)
 | []=>[]
 | (i,x)::l=>(i,(view s x).getD .dead)::viewF s l
theorem look_viewF (s:AS):∀(l:List (Nat×AV)) (i:Nat),look (viewF s l) i=(look l i).map fun x=>(view s x).getD .dead
 | [],i=>rfl
 | (k,x)::l,i=>by
  simp only [viewF,look_cons,look_viewF s l i]
  by_cases h:k=i<;>simp [h]
section
variable {P:Program} {n:Nat} {s:AS} {o:Oper} {h:Hint} {S0:Zone} {w0 w:World} {O:List Nat} {a b:Act} {φ:Nat->Option Nat}
theorem view_sim (hs:SimO S0 w0 n O s a w φ):SimO ⟨fun _=>True,fun _=>False,fun _=>none,a.defers⟩ w n [] ⟨viewF s s.F,[]⟩ a w (fun _=>none) where
 tsz:=hs.tsz
 dfr:=rfl
 bel:=⟨rfl,rfl,rfl,Nat.le_refl _,fun _ _ _=>rfl,hs.bel.good,fun _ _ h=>h⟩
 slots:=fun i av hi=>by
  have hi:look (viewF s s.F) i=some av:=hi
  rw [look_viewF] at hi
  cases hl:look s.F i with
  | none=>rw [hl] at hi;cases hi
  | some x =>
   rw [hl] at hi;injection hi with hi;subst hi
   show Den _ _ _ _ ((view s x).getD .dead)
   cases hv:view s x with
   | none=>exact .dead _
   | some y =>
    refine .rep ((view_ok hs (hs.slots i x hl) hv).mono ?_)
    intro b hb
    exact ⟨⟨hb,by simp,fun _ h=>(by cases h),trivial⟩,rfl⟩
 rows:=fun id r hr=>by cases hr
 only:=fun _ _=>rfl
 inj:=fun _ _ _ h=>by cases h
 rng:=fun _ _ h=>by cases h
 apart:=fun _ _ h=>by cases h
 new:=fun _ _=>trivial
theorem wp_switch {K:Act->World->Prop} {Q:Exit->Act->World->Prop} (h:o.wp P a w K (fun _ _ _=>False)) (hK:∀a' w',K a' w'->a'.defers=a.defers) (hb:b.tmps=a.tmps):o.wp P b w (fun b' w'=>∃v,b'=b.put o.dst v∧K (a.put o.dst v) w') Q:=by
 unfold Oper.wp at *
 rw [eval_tmps hb]
 generalize (execOp a.eval o).run P w=r at *
 cases r with
 | halt x w'=>cases x with
  | panic v=>exact h.elim
  | _=>exact h
 | ok x w'=>cases x with
  | value v=>exact ⟨v,rfl,h⟩
  | skip=>exact ⟨undef,rfl,h⟩
  | enter f args =>
   refine Calls.mono h fun e w'' he=>?_
   cases e with
   | returned v=>exact ⟨v,rfl,he⟩
   | panicked c=>exact he.elim
   | outgrown=>obtain ⟨_,_,hf⟩:=he;exact hf.elim
  | defer d =>
   have:=congrArg List.length (hK _ _ h)
   rw [defers_put] at this
   simp at this
  | row r args=>exact Rows.mono h fun v w'' he=>⟨v,rfl,he⟩
  | _=>exact h
def evHOwn (P:Program) (n:Nat) (s:AS) (o:Oper) (h:Hint):Option (AV×List Prop) :=
 match o.guard,o.dst with
 | none,some d=>(match evOp P n ⟨viewF s s.F,[]⟩ o h with
  | some (s',C)=>(match look s'.F d,look s'.H d with
   | some (.ref d'),some ⟨e,true,_,row⟩=>(match Nat.beq d' d with|true=>some (.own e row,C++ [valR row])|false=>none)
   | _,_=>none)
  | none=>none)
 | _,_=>none
theorem evHOwn_ok {Q:Exit->Act->World->Prop} {ops:Array Oper} {x:AV} {C:List Prop} (hr:evHOwn P n s o h=some (x,C)) (hC:AllP C) (hs:SimO S0 w0 n O s a w φ) (hb:b.tmps=a.tmps) :
  (∃e row,x= .own e row)∧opRule P ops Q o b w fun v w'=>∃O',Giv0 (fun _=>False) w' v x O'∧O'.Nodup∧ ∀g∈O',w.heap.size≤g∧g<w'.heap.size:=by
 unfold evHOwn at hr
 split at hr
 ·rename_i d hg hd
  split at hr
  ·rename_i s' C' hop
   split at hr
   ·rename_i d' e fl row hF hH
    split at hr
    ·rename_i hdd
     cases hr
     have hdd:=Nat.eq_of_beq_eq_true hdd
     subst hdd
     obtain ⟨hC',hv,-⟩:=allP_app.1 hC
     refine ⟨⟨e,row,rfl⟩,?_⟩
     have hw:Region.wanted o (yielded ops b.tmps)=true:=by unfold Region.wanted;rw [hg]
     unfold opRule
     rw [if_pos hw]
     have key:=evOp_ok hop hC' ⟨fun _=>True,fun _=>False,fun _=>none,a.defers⟩ w a w (fun _ _ _=>False) ⟨_,view_sim hs⟩
     refine Oper.wp_mono ?_ (wp_switch (Q:=Q) key (fun a' w' ⟨_,hs'⟩=>hs'.dfr) hb)
     rintro b' w' ⟨v,rfl,φ',hs'⟩
     refine ⟨v,rfl,hs'.bel.below (fun _ h=>h),?_⟩
     have hsz:d'<a.tmps.size:=by
      rcases Nat.lt_or_ge d' a.tmps.size with h|h
      ·exact h
      ·exfalso
       have hden:=hs'.slots d' _ hF
       have hout:(a.put o.dst v).tmps.getD d' undef=undef:=by
        have:(a.put o.dst v).tmps.size≤d':=by rw [tmps_put];exact h
        simp [Array.getElem?_eq_none this]
       rw [hout] at hden
       cases hden with
       | rep h=>cases h
     have hval:(a.put o.dst v).tmps.getD d' undef=v:=by rw [hd,put_getD a d' d' v hsz,if_pos rfl]
     have hden:=hs'.slots d' _ hF
     rw [hval] at hden
     have hrow:=hs'.rows d' _ hH
     have hinf:=info_of (φ:=φ') hH
     unfold RowDen at hrow
     cases hden with
     | rep h=>cases h
     | ref id e' m g l c hi hm hc hx hcl =>
      rw [hinf] at hi
      simp only [Option.some.injEq,Prod.mk.injEq] at hi
      obtain ⟨he,hml,hφ⟩:=hi
      subst he;subst hml
      rw [hφ] at hrow
      obtain ⟨cur,te,fr,hgb,hfr,hle,hfu,hcells⟩:=hrow
      have hcs:cur.size=e*c:=by unfold cellsLen at hcl;rw [hgb] at hcl;exact hcl
      refine ⟨[g],.own g l c e row cur te fr hgb hfr hm hc hx hcs (fun j u x hu hx=>?_),by simp,fun g' hg'=>by simp at hg';subst hg';exact ⟨(hs'.rng _ _ hφ).1.2.elim id fun h=>h.elim,(hs'.rng _ _ hφ).2⟩⟩
      obtain ⟨v',rfl⟩:=hv x (List.mem_of_getElem? hx)
      have:=hcells j u _ hu hx
      have this:Rep _ w' u (.val v'):=this
      cases this
      exact .val _
     | refnil id e' hi =>
      rw [hinf] at hi
      simp only [Option.some.injEq,Prod.mk.injEq] at hi
      obtain ⟨he,hml,hφ⟩:=hi
      have:row= []:=List.eq_nil_of_length_eq_zero hml
      subst this
      exact ⟨[],.nil e,by simp,by simp⟩
    ·cases hr
   ·cases hr
  ·cases hr
 ·cases hr
end
def unown:AV->AV
 | .own _ _=>.dead
 | .box _=>.dead
 | x=>x
def evHeadsO (P:Program) (n:Nat) (s:AS) (ds:List Nat) (ops:List Oper) (hs:List (Nat×Hint)) (Ks:List Nat):List Oper->Nat->List AV->Option (List AV×List Prop)
 | [],_,avs=>some (avs,[])
 | o::l,i,avs=>match (match Ks.any (Nat.beq i) with
   | true=>evHOwn P n (atOp s ds ops (avs.map unown) o) o (hintAt hs i)
   | false=>evHG P ops (atOp s ds ops (avs.map unown) o) o (hintAt hs i)) with
  | some (x,C)=>(match evHeadsO P n s ds ops hs Ks l (i+1) (avs++ [x]) with|some (avs',D)=>some (avs',C++D)|none=>none)
  | none=>none
def ownsL:List Oper->List AV->List (Nat×Nat×List AV)
 | o::l,.own e row::m=>(match o.dst with|some d=>(d,e,row)::ownsL l m|none=>ownsL l m)
 | _::l,_::m=>ownsL l m
 | _,_=>[]
def addOwn:AS->List (Nat×Nat×List AV)->AS
 | s,[]=>s
 | s,(d,e,row)::l=>addOwn ⟨(d,.ref d)::s.F,(d,⟨e,true,false,row⟩)::s.H⟩ l
def freshIds (s:AS):List (Nat×Nat×List AV)->Bool
 | []=>true
 | (d,_,_)::l=>match look s.H d,Nat.ble d 999999999999 with|none,true=>freshIds s l|_,_=>false
def evDrawO (P:Program) (n T:Nat) (Ks:List Nat) (ops:List Oper) (hs:List (Nat×Hint)) (s:AS):Option (AS×List Prop) :=
 match P.follows .mixedOrders,factsB ops.toArray n,tailB ops.toArray T with
 | true,true,true=>(match evHeadsO P n s ((ops.take T).filterMap (·.dst)) ops hs Ks (ops.take T) 0 [] with
  | some (avs,C)=>(match freshIds s (ownsL (ops.take T) avs),evOps P n ops hs (ops.drop T) T (addOwn ⟨headF (ops.take T) (avs.map unown)++keptF ((ops.take T).filterMap (·.dst)) s.F,s.H⟩ (ownsL (ops.take T) avs)) with
   | true,some (s',D)=>some (s',C++D)
   | _,_=>none)
  | none=>none)
 | _,_,_=>none
theorem evHeadsO_at {P:Program} {n:Nat} {ops:List Oper} {s:AS} {ds:List Nat} {hs:List (Nat×Hint)} {Ks:List Nat}:∀(l:List Oper) (i:Nat) (avs avs':List AV) (C:List Prop),evHeadsO P n s ds ops hs Ks l i avs=some (avs',C)->AllP C->avs.length=i ->
  avs'.length=i+l.length∧avs'.take i=avs∧ ∀(j:Nat) (o:Oper),l[j]?=some o-> ∃x D,avs'[i+j]?=some x∧AllP D∧(evHOwn P n (atOp s ds ops ((avs'.take (i+j)).map unown) o) o (hintAt hs (i+j))=some (x,D)∨evHG P ops (atOp s ds ops ((avs'.take (i+j)).map unown) o) o (hintAt hs (i+j))=some (x,D))
 | [],i,avs,avs',C,he,hC,hl=>by
  cases he
  exact ⟨by simp [hl],by rw [←hl,List.take_length],fun j o h=>by simp at h⟩
 | o::l,i,avs,avs',C,he,hC,hl=>by
  simp only [evHeadsO] at he
  split at he
  ·rename_i x C1 h1
   split at he
   ·rename_i avs2 D h2
    cases he
    obtain ⟨hC1,hD⟩:=allP_app.1 hC
    obtain ⟨e1,e2,e3⟩:=evHeadsO_at l (i+1) (avs++ [x]) avs' D h2 hD (by simp [hl])
    have e4:avs'.take i=avs:=by
     have:=congrArg (List.take i) e2
     rw [List.take_take,Nat.min_eq_left (by omega),←hl,List.take_left] at this
     rw [←hl];exact this
    have e5:avs'[i]?=some x:=by
     have h3:(avs'.take (i+1))[i]?=some x:=by rw [e2,List.getElem?_append_right (by omega),hl];simp
     exact take_get _ _ _ _ h3
    refine ⟨by rw [e1,List.length_cons];omega,e4,fun j p hp=>?_⟩
    cases j with
    | zero =>
     simp at hp;subst hp
     refine ⟨x,C1,by simpa using e5,hC1,?_⟩
     simp only [Nat.add_zero]
     rw [e4]
     split at h1
     ·exact .inl h1
     ·exact .inr h1
    | succ j =>
     obtain ⟨y,D',h5,h6,h7⟩:=e3 j p (by simpa using hp)
     rw [show i+1+j=i+(j+1) by omega] at h5 h7
     exact ⟨y,D',h5,h6,h7⟩
   ·cases he
  ·cases he
theorem freshIds_iff (s:AS):∀(L:List (Nat×Nat×List AV)),freshIds s L=true↔ ∀p∈L,look s.H p.1=none∧p.1<1000000000000
 | []=>by simp [freshIds]
 | (d,e,row)::L=>by
  simp only [freshIds]
  split
  ·rename_i h hb
   have hb:=Nat.le_of_ble_eq_true hb
   rw [freshIds_iff s L]
   constructor
   ·intro hL p hp
    rcases List.mem_cons.1 hp with rfl|hp
    ·exact ⟨h,by show d<_;omega⟩
    ·exact hL p hp
   ·intro hL p hp;exact hL p (by simp [hp])
  ·rename_i hno
   constructor
   ·intro hf;cases hf
   ·intro hL
    have:=hL (d,e,row) (by simp)
    exact (hno this.1 (by have:=this.2;simp at this;exact Nat.ble_eq_true_of_le (by omega))).elim
theorem ownsL_dst:∀(l:List Oper) (m:List AV) (p:Nat×Nat×List AV),p∈ownsL l m->p.1∈l.filterMap (·.dst)
 | [],m,p,h=>by cases m<;>simp [ownsL] at h
 | o::l,[],p,h=>by simp [ownsL] at h
 | o::l,x::m,p,h=>by
  have step:p∈ownsL l m->p.1∈(o::l).filterMap (·.dst):=fun h=>by
   have:=ownsL_dst l m p h
   rw [List.mem_filterMap] at this ⊢
   obtain ⟨q,h1,h2⟩:=this
   exact ⟨q,by simp [h1],h2⟩
  cases x with
  | own e row =>
   simp only [ownsL] at h
   split at h
   ·rename_i d hd
    rcases List.mem_cons.1 h with rfl|h
    ·rw [List.mem_filterMap];exact ⟨o,by simp,hd⟩
    ·exact step h
   ·exact step h
  | _=>exact step h
def ownsO (own:Nat->List Nat):List Oper->List AV->Nat->List Nat
 | o::l,.own _ _::m,i=>(match o.dst with|some _=>own i++ownsO own l m (i+1)|none=>ownsO own l m (i+1))
 | _::l,_::m,i=>ownsO own l m (i+1)
 | _,_,_=>[]
theorem ownsO_mem (own:Nat->List Nat):∀(l:List Oper) (m:List AV) (i g:Nat),g∈ownsO own l m i-> ∃k,i≤k∧k<i+l.length∧g∈own k
 | [],m,i,g,h=>by cases m<;>simp [ownsO] at h
 | o::l,[],i,g,h=>by simp [ownsO] at h
 | o::l,x::m,i,g,h=>by
  have step:g∈ownsO own l m (i+1)-> ∃k,i≤k∧k<i+(o::l).length∧g∈own k:=fun h=>by
   obtain ⟨k,h1,h2,h3⟩:=ownsO_mem own l m (i+1) g h
   exact ⟨k,by omega,by simp only [List.length_cons];omega,h3⟩
  cases x with
  | own e row =>
   simp only [ownsO] at h
   split at h
   ·rcases List.mem_append.1 h with h|h
    ·exact ⟨i,by omega,by simp only [List.length_cons];omega,h⟩
    ·exact step h
   ·exact step h
  | _=>exact step h
theorem ownsO_nodup (own:Nat->List Nat) (h1:∀k,(own k).Nodup) (h2:∀j k g,g∈own j->g∈own k->j=k):∀(l:List Oper) (m:List AV) (i:Nat),(ownsO own l m i).Nodup
 | [],m,i=>by cases m<;>simp [ownsO]
 | o::l,[],i=>by simp [ownsO]
 | o::l,x::m,i=>by
  have ih:=ownsO_nodup own h1 h2 l m (i+1)
  cases x with
  | own e row =>
   simp only [ownsO]
   split
   ·rw [List.nodup_append]
    refine ⟨h1 i,ih,fun g hg g' hg' e=>?_⟩
    subst e
    obtain ⟨k,h3,-,h4⟩:=ownsO_mem own l m (i+1) _ hg'
    have:=h2 i k _ hg h4
    omega
   ·exact ih
  | _=>exact ih
section
variable {S0:Zone} {w0 w:World} {n:Nat} {a:Act}
theorem adoptL (own:Nat->List Nat):∀(l:List Oper) (m:List AV) (i:Nat) (s:AS) (φ:Nat->Option Nat),SimO S0 w0 n (ownsO own l m i) s a w φ ->
  (∀(j:Nat) o e row d,l[j]?=some o->m[j]?=some (.own e row)->o.dst=some d->Giv0 (fun _=>False) w (a.tmps.getD d undef) (.own e row) (own (i+j))) ->
  (ownsO own l m i).Nodup->(∀g∈ownsO own l m i,(w0.heap.size≤g∨S0.X g)∧g<w.heap.size)->freshIds s (ownsL l m)=true->(l.filterMap (·.dst)).Nodup ->
  ∃ φ',SimO S0 w0 n [] (addOwn s (ownsL l m)) a w φ'
 | [],m,i,s,φ,h,_,_,_,_,_=>by cases m<;>exact ⟨φ,h⟩
 | o::l,[],i,s,φ,h,_,_,_,_,_=>⟨φ,h⟩
 | o::l,x::m,i,s,φ,h,hv,hnd,hrg,hfr,hds=>by
  have hds':(l.filterMap (·.dst)).Nodup:=List.Nodup.sublist ((List.sublist_cons_self o l).filterMap _) hds
  have hv':∀(j:Nat) o e row d,l[j]?=some o->m[j]?=some (.own e row)->o.dst=some d->Giv0 (fun _=>False) w (a.tmps.getD d undef) (.own e row) (own (i+1+j)):=fun j p e row d h1 h2 h3=>by
   have:=hv (j+1) p e row d (by simpa using h1) (by simpa using h2) h3
   rwa [show i+(j+1)=i+1+j by omega] at this
  cases x with
  | own e row =>
   cases hd:o.dst with
   | none =>
    have e1:ownsO own (o::l) (.own e row::m) i=ownsO own l m (i+1):=by simp only [ownsO,hd]
    have e2:ownsL (o::l) (.own e row::m)=ownsL l m:=by simp only [ownsL,hd]
    rw [e1] at h hnd hrg
    rw [e2] at hfr ⊢
    exact adoptL own l m (i+1) s φ h hv' hnd hrg hfr hds'
   | some d =>
    have e1:ownsO own (o::l) (.own e row::m) i=own i++ownsO own l m (i+1):=by simp only [ownsO,hd]
    have e2:ownsL (o::l) (.own e row::m)=(d,e,row)::ownsL l m:=by simp only [ownsL,hd]
    rw [e1] at h hnd hrg
    rw [e2] at hfr ⊢
    have hfr':=(freshIds_iff s _).1 hfr
    have hg:=hv 0 o e row d rfl rfl hd
    simp only [Nat.add_zero] at hg
    obtain ⟨φ1,h1,h2,-⟩:=takes_leaf (S0:=S0) (w0:=w0) (w:=w) (n:=n) (a:=a) s φ (own i) (ownsO own l m (i+1)) _ (.own e row) d h (hg.mono fun b hb=>hb.elim) hnd (fun g hg=>hrg g (by simp [hg])) (fun j hj=>by
     simp [adLeaf] at hj;subst hj;exact hfr' _ (List.mem_cons_self ..)) (by simp [adLeaf])
    have h3:SimO S0 w0 n (ownsO own l m (i+1)) ⟨(d,.ref d)::s.F,(d,⟨e,true,false,row⟩)::s.H⟩ a w φ1:=by
     refine ⟨h1.tsz,h1.dfr,h1.bel,fun j av hj=>?_,h1.rows,h1.only,h1.inj,h1.rng,h1.apart,h1.new⟩
     have hj:look ((d,AV.ref d)::s.F) j=some av:=hj
     rw [look_cons] at hj
     by_cases hdj:d=j
     ·rw [if_pos hdj] at hj;injection hj with hj;subst hj;subst hdj
      exact h2
     ·rw [if_neg hdj] at hj
      exact h1.slots j av hj
    refine adoptL own l m (i+1) _ φ1 h3 hv' (List.nodup_append.1 hnd).2.1 (fun g hg=>hrg g (by simp [hg])) ?_ hds'
    rw [freshIds_iff]
    intro p hp
    refine ⟨?_,(hfr' p (by simp [hp])).2⟩
    show look ((d,_)::s.H) p.1=none
    rw [look_cons]
    have hne:d≠p.1:=fun e=>by
     have:=ownsL_dst l m p hp
     rw [List.filterMap_cons_some (by simpa using hd)] at hds
     exact (List.nodup_cons.1 hds).1 (by rw [e];exact this)
    rw [if_neg hne]
    exact (hfr' p (by simp [hp])).1
  | _=>exact adoptL own l m (i+1) s φ h hv' hnd hrg hfr hds'
theorem Giv0.grow {w w':World} (hb:Below w.heap.size w w') {v:Value} {x:AV} {O:List Nat} (h:Giv0 (fun _=>False) w v x O):Giv0 (fun _=>False) w' v x O:=by
 cases h with
 | rep h=>exact .rep (h.mono fun b hb=>hb.elim)
 | nil e=>exact .nil e
 | own g l c e row cur te fr hg hf hl hc hm hs h =>
  have hlt:g<w.heap.size:=(Array.getElem?_eq_some_iff.1 hg).1
  exact .own g l c e row cur te fr ((hb.block g hlt).trans hg) hf hl hc hm hs fun j u x hu hx=>(h j u x hu hx).mono fun b hb=>hb.elim
 | box g row cur te fr hg hf hs h =>
  have hlt:g<w.heap.size:=(Array.getElem?_eq_some_iff.1 hg).1
  exact .box g row cur te fr ((hb.block g hlt).trans hg) hf hs fun j u x hu hx=>(h j u x hu hx).mono fun b hb=>hb.elim
theorem unown_den {I:Info} {S:Nat->Prop} {v:Value} {x:AV} (h:Den I S w v x):unown x=x:=by
 cases x with
 | own e row=>cases h with|rep h=>cases h
 | box row=>cases h with|rep h=>cases h
 | _=>rfl
end
section
variable {P:Program} {ops:List Oper} {S0:Zone} {w0:World} {Q:Exit->Act->World->Prop}
def allO (T:Nat) (own:Nat->List Nat):List Nat:=(List.range T).flatMap own
theorem mem_allO {T g:Nat} {own:Nat->List Nat}:g∈allO T own↔ ∃k,k<T∧g∈own k:=by
 unfold allO
 rw [List.mem_flatMap]
 exact ⟨fun ⟨k,h1,h2⟩=>⟨k,List.mem_range.1 h1,h2⟩,fun ⟨k,h1,h2⟩=>⟨k,List.mem_range.2 h1,h2⟩⟩
def putO (own:Nat->List Nat) (i:Nat) (O:List Nat):Nat->List Nat:=fun k=>if k=i then O else own k
theorem evDrawO_ok {n T:Nat} {Ks:List Nat} {hs:List (Nat×Hint)} {s s':AS} {C:List Prop} (he:evDrawO P n T Ks ops hs s=some (s',C)) (hC:AllP C) {a:Act} {w:World} (hsim:Sim S0 w0 n s a w) (hQ:∀a' w',Sim S0 w0 n s' a' w'->Q .normal a' w'):P.follows .mixedOrders=true∧wpAny P .any ops.toArray Q ops.toArray.size (Array.replicate ops.toArray.size false) a {w with drawn:=w.drawn+1}:=by
 unfold evDrawO at he
 split at he
 ·rename_i hm hB hT
  split at he
  ·rename_i avs C1 hheads
   split at he
   ·rename_i s2 D hfr htail
    cases he
    obtain ⟨hC1,hD⟩:=allP_app.1 hC
    obtain ⟨φ,hs0⟩:=hsim
    obtain ⟨hlen,-,hat⟩:=evHeadsO_at _ 0 [] avs C1 hheads hC1 rfl
    simp only [Nat.zero_add] at hlen hat
    obtain ⟨hlt,hnd,hin⟩:=factsB_parts hB
    unfold tailB at hT
    simp only [Bool.and_eq_true,decide_eq_true_eq] at hT
    obtain ⟨⟨⟨hT1,hT2⟩,hT3⟩,hT4⟩:=hT
    have hTs:T<ops.length:=by simpa using hT1
    have hal:avs.length=T:=by rw [hlen,List.length_take];omega
    let F:(Nat->List Nat)->Nat->Value->World->Prop:=fun own k v w'=>w.heap.size≤w'.heap.size∧ ∀x,avs[k]?=some x->((∃e row,x= .own e row)∧Giv0 (fun _=>False) w' v x (own k))∨Den (infoOf s.H φ) (Free S0 w' φ (allO T own)) w' v x
    let J:(Nat->List Nat)->World->Prop:=fun own w'=>(∀k,(own k).Nodup)∧(∀j k g,g∈own j->g∈own k->j=k)∧(∀k g,g∈own k->w.heap.size≤g∧g<w'.heap.size)
    let St:Nat->(Nat->List Nat)->World->(Nat->List Nat)->World->Prop:=fun i own w1 own' _=>(∀k,k≠i->own' k=own k)∧ ∀g∈own' i,w1.heap.size≤g
    have hmono:∀i k v own own' w1 w2,i≠k->Below w1.heap.size w1 w2->St i own w1 own' w2->F own k v w1->F own' k v w2:=by
     intro i k v own own' w1 w2 hik hb ⟨st1,st2⟩ ⟨h1,h2⟩
     refine ⟨Nat.le_trans h1 hb.size,fun x hx=>?_⟩
     rcases h2 x hx with ⟨e,hg⟩|hden
     ·left;rw [st1 k (Ne.symm hik)];exact ⟨e,hg.grow hb⟩
     ·right
      have hout:∀b,Free S0 w1 φ (allO T own) b->b ∉ allO T own':=fun b hS hmem=>by
       obtain ⟨j,hj,hbj⟩:=mem_allO.1 hmem
       by_cases hji:j=i
       ·subst hji;have:=st2 b hbj;have:=hS.1;omega
       ·rw [st1 j hji] at hbj;exact hS.2.1 (mem_allO.2 ⟨j,hj,hbj⟩)
      have hcl:∀id e m g,infoOf s.H φ id=some (e,m,some g)->cellsLen w2 g=cellsLen w1 g:=fun id e m g hi=>by
       obtain ⟨r,-,-,-,hφ⟩:=info_some hi
       have:=(hs0.rng id g hφ).2
       unfold cellsLen;rw [hb.block g (by omega)]
      exact hden.mono (fun _ _ h=>h) (fun b hS=>⟨⟨by have:=hS.1;have:=hb.size;omega,hout b hS,hS.2.2⟩,hb.block b hS.1⟩) hcl
    have waiting:∀(O:List Nat) w',Below w.heap.size w w'->(∀g∈O,w.heap.size≤g)->SimO S0 w0 n O s a w' φ:=by
     intro O w' hb hO
     have h1:=awaitAll_ok O [] s φ hs0 hO
     rw [List.append_nil] at h1
     exact h1.grow hb
    refine ⟨hm,wpAny_tailG (γ :=Nat->List Nat) hT1 hT2 hT3 hT4 hs0.tsz hB F J St hmono ?_ ?_ ops.toArray.size _ a _ (fun _=>[]) ⟨(Below.refl _ _).drew,by simp,?_,rfl,rfl,?_,?_,fun _ _=>rfl⟩ ⟨by simp,by simp,by simp⟩ (fun j _=>by simp only [List.size_toArray];exact getD_replicate_false _ _) (by simp)⟩
    ·
     intro k o hkT ho own a' w' hb hJ htsz hdeps hkept
     have ho':ops[k]?=some o:=by simpa using ho
     obtain ⟨x,Dk,hx,hDk,hev⟩:=hat k o (by rw [List.getElem?_take,if_pos hkT];exact ho')
     have hb':Below w.heap.size w w':=hb
     have hOge:∀g∈allO T own,w.heap.size≤g:=fun g hg=>by
      obtain ⟨j,-,hj⟩:=mem_allO.1 hg
      exact (hJ.2.2 j g hj).1
     have hOlt:∀g∈allO T own,g<w'.heap.size:=fun g hg=>by
      obtain ⟨j,-,hj⟩:=mem_allO.1 hg
      exact (hJ.2.2 j g hj).2
     have hg:=waiting (allO T own) w' hb' hOge
     have hsk:SimO S0 w0 n (allO T own) (atOp s ((ops.take T).filterMap (·.dst)) ops ((avs.take k).map unown) o) ⟨a'.tmps,S0.dfs⟩ w' φ:=by
      refine ⟨htsz.trans hs0.tsz,rfl,hg.bel,fun i av hi=>?_,hg.rows,hg.only,hg.inj,hg.rng,hg.apart,hg.new⟩
      show Den (infoOf s.H φ) _ _ _ _
      unfold atOp at hi
      rw [look_append] at hi
      cases hdf:look (depF ops ((avs.take k).map unown) (depsOf o)) i with
      | some y =>
       rw [hdf] at hi
       simp at hi;subst hi
       obtain ⟨d,p,h1,h2,h3,h4⟩:=look_depF _ _ _ _ _ hdf
       rcases hdeps d h1 with hF|⟨q,hq,hn⟩
       ·have hval:valAt ops.toArray a' d=a'.tmps.getD i undef:=by
         unfold valAt
         have:(ops.toArray[d]?).bind (·.dst)=some i:=by simp [h2,h3]
         rw [this]
        rw [hval] at hF
        rw [List.getElem?_map] at h4
        cases hz:(avs.take k)[d]? with
        | none=>rw [hz] at h4;cases h4
        | some z =>
         rw [hz] at h4;injection h4 with h4;subst h4
         rcases hF.2 z (take_get _ _ _ _ hz) with ⟨⟨e,row,rfl⟩,-⟩|hden
         ·exact .dead _
         ·rw [unown_den hden];exact hden
       ·have hq':ops[d]?=some q:=by simpa using hq
        rw [h2] at hq';injection hq' with hq';subst hq'
        rw [h3] at hn;cases hn
      | none =>
       rw [hdf] at hi
       simp at hi
       obtain ⟨h1,h2⟩:=look_keptF _ _ _ _ hi
       have hk:=hkept i (fun j p hj hp=>(head_dsts ops T i).1 h2 j p hj (by simpa using hp))
       have hk':a'.tmps.getD i undef=a.tmps.getD i undef:=hk
       show Den _ _ _ (a'.tmps.getD i undef) av
       rw [hk']
       exact hg.slots i av h1
     have rule:opRule P ops.toArray Q o a' w' fun v w2=>w'.heap.size≤w2.heap.size∧ ∃O',O'.Nodup∧(∀g∈O',w'.heap.size≤g∧g<w2.heap.size)∧(((∃e row,x= .own e row)∧Giv0 (fun _=>False) w2 v x O')∨(O'= []∧Den (infoOf s.H φ) (Free S0 w2 φ (allO T own)) w2 v x)):=by
      rcases hev with hev|hev
      ·obtain ⟨hx',hr⟩:=evHOwn_ok (Q:=Q) (ops:=ops.toArray) hev hDk hsk (b:=a') rfl
       unfold opRule at hr ⊢
       split
       ·rename_i hw
        rw [if_pos hw] at hr
        exact Oper.wp_mono (fun b' w2 ⟨v,h1,h2,O',h3,h4,h5⟩=>⟨v,h1,h2,h2.size,O',h4,h5,.inl ⟨hx',h3⟩⟩) hr
       ·rename_i hw
        rw [if_neg hw] at hr
        obtain ⟨O',h3,h4,h5⟩:=hr
        exact ⟨Nat.le_refl _,O',h4,h5,.inl ⟨hx',h3⟩⟩
      ·have hr:=evHGO_ok (Q:=Q) (ops:=ops) hev hDk hsk hOlt (b:=a') rfl
       unfold opRule at hr ⊢
       split
       ·rename_i hw
        rw [if_pos hw] at hr
        exact Oper.wp_mono (fun b' w2 ⟨v,h1,h2,h3,h4⟩=>⟨v,h1,h2,h3,[],by simp,by simp,.inr ⟨rfl,h4⟩⟩) hr
       ·rename_i hw
        rw [if_neg hw] at hr
        exact ⟨hr.1,[],by simp,by simp,.inr ⟨rfl,hr.2⟩⟩
     have fin:∀v w2,(w'.heap.size≤w2.heap.size∧ ∃O',O'.Nodup∧(∀g∈O',w'.heap.size≤g∧g<w2.heap.size)∧(((∃e row,x= .own e row)∧Giv0 (fun _=>False) w2 v x O')∨(O'= []∧Den (infoOf s.H φ) (Free S0 w2 φ (allO T own)) w2 v x)))-> ∃own',St k own w' own' w2∧J own' w2∧F own' k v w2:=by
      rintro v w2 ⟨hsz,O',h4,h5,h6⟩
      have p1:∀j,j≠k->putO own k O' j=own j:=fun j hj=>by unfold putO;rw [if_neg hj]
      have p2:putO own k O' k=O':=by unfold putO;rw [if_pos rfl]
      refine ⟨putO own k O',⟨p1,fun g hg=>by rw [p2] at hg;exact (h5 g hg).1⟩,⟨fun j=>?_,fun i j g hi hj=>?_,fun j g hj=>?_⟩,Nat.le_trans hb'.size hsz,fun y hy=>?_⟩
      ·by_cases hj:j=k
       ·subst hj;rw [p2];exact h4
       ·rw [p1 j hj];exact hJ.1 j
      ·by_cases hik:i=k
       ·by_cases hjk:j=k
        ·rw [hik,hjk]
        ·subst hik
         rw [p2] at hi;rw [p1 j hjk] at hj
         have:=(h5 g hi).1;have:=(hJ.2.2 j g hj).2;omega
       ·by_cases hjk:j=k
        ·subst hjk
         rw [p2] at hj;rw [p1 i hik] at hi
         have:=(h5 g hj).1;have:=(hJ.2.2 i g hi).2;omega
        ·rw [p1 i hik] at hi;rw [p1 j hjk] at hj;exact hJ.2.1 i j g hi hj
      ·by_cases hjk:j=k
       ·subst hjk;rw [p2] at hj
        exact ⟨Nat.le_trans hb'.size (h5 g hj).1,(h5 g hj).2⟩
       ·rw [p1 j hjk] at hj
        exact ⟨(hJ.2.2 j g hj).1,Nat.lt_of_lt_of_le (hJ.2.2 j g hj).2 hsz⟩
      ·rw [hx] at hy;injection hy with hy;subst hy
       rcases h6 with ⟨e1,e2⟩|⟨e1,e2⟩
       ·left;rw [p2];exact ⟨e1,e2⟩
       ·right
        subst e1
        refine e2.mono (fun _ _ h=>h) (fun b hS=>⟨⟨hS.1,fun hm=>?_,hS.2.2⟩,rfl⟩) (fun _ _ _ _ _=>rfl)
        obtain ⟨j,hj,hbj⟩:=mem_allO.1 hm
        by_cases hjk:j=k
        ·subst hjk;rw [p2] at hbj;simp at hbj
        ·rw [p1 j hjk] at hbj;exact hS.2.1 (mem_allO.2 ⟨j,hj,hbj⟩)
     unfold opRule at rule ⊢
     split
     ·rename_i hw
      rw [if_pos hw] at rule
      exact Oper.wp_mono (fun b' w2 ⟨v,h1,h2,h3⟩=>⟨v,h1,h2,fin v w2 h3⟩) rule
     ·rename_i hw
      rw [if_neg hw] at rule
      exact fin undef w' rule
    ·
     intro vs own w' hb hJ hfacts
     have hb':Below w.heap.size w w':=hb
     have hsub:∀g∈ownsO own (ops.take T) avs 0,g∈allO T own:=fun g hg=>by
      obtain ⟨j,h1,h2,h3⟩:=ownsO_mem own _ _ 0 g hg
      exact mem_allO.2 ⟨j,by rw [List.length_take] at h2;omega,h3⟩
     have hOr:∀g∈ownsO own (ops.take T) avs 0,w.heap.size≤g∧g<w'.heap.size:=fun g hg=>by
      obtain ⟨j,h1,h2,h3⟩:=ownsO_mem own _ _ 0 g hg
      exact hJ.2.2 j g h3
     have hg:=waiting (ownsO own (ops.take T) avs 0) w' hb' (fun g hg=>(hOr g hg).1)
     have hspec:=putAll_spec vs (ops.zipIdx.take T) a (by
      have h1:(ops.zipIdx.take T).filterMap (·.1.dst)=(ops.take T).filterMap (·.dst):=by
       conv=>rhs;rw [←List.zipIdx_map_fst 0 ops,←List.map_take]
       rw [List.filterMap_map];rfl
      rw [h1]
      exact List.Nodup.sublist ((List.take_sublist T ops).filterMap _) (by simpa using hnd))
     have hvk:∀(k:Nat) (o:Oper) (i:Nat),k<T->ops[k]?=some o->o.dst=some i->(putAll (ops.zipIdx.take T) vs a).tmps.getD i undef=vs k:=by
      intro k o i hkT ho hd
      have hv:=hspec.2.2.1 (o,k) ((mem_head ops T _).2 ⟨hkT,ho⟩) i hd (by rw [hs0.tsz];exact hin k o i (by simpa using ho) hd)
      simp [hv]
     show wpList P ops.toArray Q (ops.drop T) (putAll (ops.zipIdx.take T) vs a) w'
     have hA:SimO S0 w0 n (ownsO own (ops.take T) avs 0) ⟨headF (ops.take T) (avs.map unown)++keptF ((ops.take T).filterMap (·.dst)) s.F,s.H⟩ (putAll (ops.zipIdx.take T) vs a) w' φ:=by
      refine ⟨hspec.1.trans hs0.tsz,hspec.2.1.trans hs0.dfr,hg.bel,fun i av hi=>?_,hg.rows,hg.only,hg.inj,hg.rng,hg.apart,hg.new⟩
      show Den (infoOf s.H φ) _ _ _ _
      have hi:look (headF (ops.take T) (avs.map unown)++keptF ((ops.take T).filterMap (·.dst)) s.F) i=some av:=hi
      rw [look_append] at hi
      cases hh:look (headF (ops.take T) (avs.map unown)) i with
      | some y =>
       rw [hh] at hi
       simp at hi;subst hi
       obtain ⟨k,o,h1,h2,h3⟩:=look_headF _ _ _ _ hh
       have hkT:k<T:=by have:=(List.getElem?_eq_some_iff.1 h3).1;rw [List.length_map] at this;omega
       have ho:ops[k]?=some o:=take_get _ _ _ _ h1
       rw [hvk k o i hkT ho h2]
       rw [List.getElem?_map] at h3
       cases hz:avs[k]? with
       | none=>rw [hz] at h3;cases h3
       | some z =>
        rw [hz] at h3;injection h3 with h3;subst h3
        rcases (hfacts k hkT).2 z hz with ⟨⟨e,row,rfl⟩,-⟩|hden
        ·exact .dead _
        ·rw [unown_den hden]
         exact hden.mono (fun _ _ h=>h) (fun b hS=>⟨⟨hS.1,fun hm=>hS.2.1 (hsub b hm),hS.2.2⟩,rfl⟩) (fun _ _ _ _ _=>rfl)
      | none =>
       rw [hh] at hi
       simp at hi
       obtain ⟨h1,h2⟩:=look_keptF _ _ _ _ hi
       have hv:=hspec.2.2.2 i (fun p hp hd=>(head_dsts ops T i).1 h2 p.2 p.1 ((mem_head ops T p).1 hp).1 ((mem_head ops T p).1 hp).2 hd)
       have:(putAll (ops.zipIdx.take T) vs a).tmps.getD i undef=a.tmps.getD i undef:=by
        simp [hv]
       rw [this]
       exact hg.slots i av h1
     obtain ⟨φ',hfin⟩:=adoptL own (ops.take T) avs 0 _ φ hA (fun j o e row d h1 h2 h3=>by
      have hjT:j<T:=by have:=(List.getElem?_eq_some_iff.1 h2).1;omega
      have ho:ops[j]?=some o:=take_get _ _ _ _ h1
      rw [hvk j o d hjT ho h3,Nat.zero_add]
      rcases (hfacts j hjT).2 _ h2 with ⟨-,hgv⟩|hden
      ·exact hgv
      ·have:=unown_den hden;cases this) (ownsO_nodup own hJ.1 hJ.2.1 _ _ 0) (fun g hg=>⟨.inl (Nat.le_trans hs0.bel.size (hOr g hg).1),(hOr g hg).2⟩) (by
       rw [freshIds_iff] at hfr ⊢
       exact hfr) (List.Nodup.sublist ((List.take_sublist T ops).filterMap _) (by simpa using hnd))
     exact evOps_ok (S0:=S0) (w0:=w0) _ _ _ _ _ htail hD _ _ ⟨φ',hfin⟩ hQ
    ·intro k o hk;rw [getD_replicate_false] at hk;cases hk
    ·intro k o s hk;rw [getD_replicate_false] at hk;cases hk
    ·intro k o hk;rw [getD_replicate_false] at hk;cases hk
   ·cases he
  ·cases he
 ·cases he
def evRegO (P:Program) (n T:Nat) (Ks:List Nat) (hs:List (Nat×Hint)) (c:Code) (s:AS):Option (AS×List Prop) :=
 match c with
 | .region _ ⟨l⟩ true=>evDrawO P n T Ks l hs s
 | _=>none
theorem AWP.regO {n:Nat} {c:Code} {Q:Exit->AS->Prop} {s s':AS} {C:List Prop} (T:Nat) (Ks:List Nat) (hs:List (Nat×Hint)) (he:evRegO P n T Ks hs c s=some (s',C)) (hC:AllP C) (h:Q .normal s'):AWP P n c Q s:=by
 intro S0 w0 a w hsim
 unfold evRegO at he
 split at he
 ·exact evDrawO_ok (S0:=S0) (w0:=w0) he hC hsim fun a' w' hs'=>⟨s',h,hs'.one⟩
 ·cases he
theorem AWP.regOX {n:Nat} {c:Code} {Q:Exit->AS->Prop} {s:AS} {C:List Prop} (T:Nat) (Ks:List Nat) (hs:List (Nat×Hint)) (he:resC (evRegO P n T Ks hs c s)=some C) (hC:AllP C) (h:Q .normal (resS (evRegO P n T Ks hs c s))):AWP P n c Q s:=AWP.regO T Ks hs (res_some he) hC h
end
end Go.Proofs.YtjgbhhnghedgdaaGreatDoor
