import Derived.Test.YtjgbhhnghedgdaaGreatDoorZbV8
set_option linter.all false
namespace Go.Proofs.YtjgbhhnghedgdaaGreatDoor
open Go.RowKit
section
variable {P:Program} {ops:Array Oper} {Q:Exit->Act->World->Prop} {a:Act} {w:World}
theorem zb {γ :Type} {n T:Nat} (hT:T<ops.size) (JP:Region.sinkB .any ops T=true) (vJ:Region.chainB .any ops T=true) (Pg:Region.seqB .any ops (ops.size-T) T ((List.range ops.size).map (decide<| · <T)).toArray=true) (dC:a.tmps.size=n) (hB:lF ops n=true) (F: γ ->Nat->Value->World->Prop) (J: γ ->World->Prop) (St:Nat-> γ ->World-> γ ->World->Prop) (mono:∀i k v g g' w1 w2,i≠k->Below w1.heap.size w1 w2->St i g w1 g' w2->F g k v w1->F g' k v w2)
  (vq:∀k o,k<T->ops[k]?=some o-> ∀g a' w',Below w.heap.size w w'->J g w'->a'.tmps.size=a.tmps.size->(∀d∈bm o,F g d (rQ ops a' d) w'∨(∃p,ops[d]?=some p∧p.dst=none))->(∀s,(∀(j:Nat) (p:Oper),j<T->ops[j]?=some p->p.dst≠some s)->a'.eval (.tmp s)=a.eval (.tmp s))->gS P ops Q o a' w' (fun v fw=>∃g',St k g w' g' fw∧J g' fw∧F g' k v fw))
  (kf:∀(vs:Nat->Value) (g: γ),∀w',Below w.heap.size w w'->J g w'->(∀k,k<T->F g k (vs k) w')->wpList P ops Q (ops.toList.drop T) (eJ (ops.toList.zipIdx.take T) vs a) w') :
  ∀(fuel:Nat) (listed:Array Bool) (a':Act) (w':World) (g: γ),Inv ops (F g) a w listed a' w'->J g w'->(∀j,T≤j->listed.getD j false=false) ->
   (listed.toList.filter (· == false)).length=fuel->wpAny P .any ops Q fuel listed a' w':=by
 obtain ⟨dj,im,vr⟩:=fT hB
 have kB:∀(listed:Array Bool) (a':Act) (w':World) (g: γ),Inv ops (F g) a w listed a' w'-> ∀k,k<T->listed.getD k false=false-> ∃i,i<T∧i∈Region.ready .any ops listed:=by
  intro listed a' w' g I k
  induction k using Nat.strongRecOn with
  | _ k ih =>
   intro hk hl
   have iH:k<listed.size:=by rw [I.size];omega
   have r9:k<ops.size:=aj
   have oz:ops[k]?=some ops[k]:=Array.getElem?_eq_getElem r9
   by_cases gj:∀d∈bm ops[k],listed.getD d false=true
   ·refine ⟨k,hk,?_⟩
    rw [mem_ready]
    refine ⟨?_,ops[k],oz,fun e he hb=>gj e.on ?_⟩
    ·simp [iH] at hl ⊢;exact hl
    ·unfold bm
     exact List.mem_map.2 ⟨e,List.mem_filter.2 ⟨by simpa using he,hb⟩,rfl⟩
   ·have:∃d,d∈bm ops[k]∧listed.getD d false=false:=by
     refine Classical.byContradiction fun gh=>gj fun d hd=>?_
     cases hx:listed.getD d false with
     | true=>rfl
     | false=>exact absurd ⟨d,hd,hx⟩ gh
    obtain ⟨d,hd,hx⟩:=this
    exact ih d (dj k _ oz d hd) (by have:=dj k _ oz d hd;omega) hx
 have done:∀(listed:Array Bool) (a':Act) (w':World) (g: γ),Inv ops (F g) a w listed a' w'->J g w'->(∀k,k<T->listed.getD k false=true)->(∀j,T≤j->listed.getD j false=false)->wpList P ops Q (ops.toList.drop T) a' w':=by
  intro listed a' w' g I hJ all tail
  have hv:∀k,∃v,k<T->(F g k v w'∧ ∀o s,ops[k]?=some o->o.dst=some s->a'.tmps[s]?=some v):=by
   intro k
   by_cases hk:k<T
   ·have r9:k<ops.size:=aj
    have oz:ops[k]?=some ops[k]:=Array.getElem?_eq_getElem r9
    cases hd:ops[k].dst with
    | none =>
     obtain ⟨v,hv⟩:=I.D6 k _ (all k hk) oz hd
     exact ⟨v,fun _=>⟨hv,fun o s ho hs=>by rw [oz] at ho;injection ho with ho;subst ho;rw [hd] at hs;cases hs⟩⟩
    | some s =>
     obtain ⟨v,hv,hF⟩:=I.val k _ s (all k hk) oz hd
     exact ⟨v,fun _=>⟨hF,fun o s' ho hs=>by rw [oz] at ho;injection ho with ho;subst ho;rw [hd] at hs;injection hs with hs;subst hs;exact hv⟩⟩
   ·exact ⟨undef,fun h=>absurd h hk⟩
  obtain ⟨vs,Ej⟩:=Classical.axiomOfChoice hv
  have rb:∀p:Oper×Nat,p∈ops.toList.zipIdx.take T↔(p.2<T∧ops[p.2]?=some p.1):=by
   intro p
   rw [List.mem_iff_getElem?]
   constructor
   ·rintro ⟨x,hx⟩
    rw [List.getElem?_take] at hx
    split at hx
    ·rename_i Aw
     rw [List.getElem?_zipIdx] at hx
     cases ho:ops.toList[x]? with
     | none=>rw [ho] at hx;simp at hx
     | some q =>
      rw [ho] at hx
      simp at hx
      subst hx
      exact ⟨by simpa using Aw,by simpa using ho⟩
    ·cases hx
   ·rintro ⟨h1,h2⟩
    refine ⟨p.2,?_⟩
    rw [List.getElem?_take,if_pos h1,List.getElem?_zipIdx]
    have Oq:ops.toList[p.2]?=some p.1:=by simpa using h2
    rw [Oq];simp
  have jN:=jJ vs (ops.toList.zipIdx.take T) a (by
   have h1:(ops.toList.zipIdx.take T).filterMap (·.1.dst)=(ops.toList.take T).filterMap (·.dst):=by
    conv=>rhs;rw [←List.zipIdx_map_fst 0 ops.toList,←List.map_take]
    rw [List.filterMap_map];rfl
   rw [h1]
   exact List.Nodup.sublist ((List.take_sublist T ops.toList).filterMap _) im)
  have he:a'=eJ (ops.toList.zipIdx.take T) vs a:=by
   have ht:a'.tmps=(eJ (ops.toList.zipIdx.take T) vs a).tmps:=by
    apply Array.ext_getElem?
    intro s
    by_cases hs:∃(k:Nat) (o:Oper),k<T∧ops[k]?=some o∧o.dst=some s
    ·obtain ⟨k,o,hk,ho,hd⟩:=hs
     rw [(Ej k hk).2 o s ho hd]
     exact (jN.2.2.1 (o,k) ((rb _).2 ⟨hk,ho⟩) s hd (by rw [dC];exact vr k o s ho hd)).symm
    ·rw [I.old s fun k o hl ho hd=>hs ⟨k,o,(Classical.byContradiction fun hk=>(by have:=tail k (Nat.le_of_not_lt hk);rw [this] at hl;cases hl)),ho,hd⟩]
     exact (jN.2.2.2 s fun p hp hd=>hs ⟨p.2,p.1,((rb p).1 hp).1,((rb p).1 hp).2,hd⟩).symm
   have hd:a'.defers=(eJ (ops.toList.zipIdx.take T) vs a).defers:=I.sV.trans jN.2.1.symm
   cases a';cases h:eJ (ops.toList.zipIdx.take T) vs a
   rw [h] at ht hd
   simp only at ht hd
   rw [ht,hd]
  rw [he]
  exact kf vs g w' I.grown hJ (fun k hk=>(Ej k hk).1)
 have rest:∀(fuel:Nat) (listed:Array Bool) (a':Act) (w':World) (g: γ),Inv ops (F g) a w listed a' w'->J g w'->(∀j,T≤j->listed.getD j false=false)->(listed.toList.filter (· == false)).length=fuel->(∀k,k<T->listed.getD k false=true)->wpAny P .any ops Q fuel listed a' w':=by
  intro fuel listed a' w' g I hJ tail hc all
  have nH:listed=((List.range ops.size).map (decide<| · <T)).toArray:=by
   apply Array.ext_getElem?
   intro x
   by_cases hx:x<ops.size
   ·have Ei:x<listed.size:=by rw [I.size];exact hx
    have hr:((List.range ops.size).map (decide<| · <T)).toArray[x]?=some (decide (x<T)):=by simp [hx]
    rw [hr]
    by_cases Aw:x<T
    ·have:=all x Aw;simp [Ei] at this ⊢;rw [this,decide_eq_true Aw]
    ·have:=tail x aj;simp [Ei] at this ⊢;rw [this,decide_eq_false Aw]
   ·rw [Array.getElem?_eq_none (by rw [I.size];omega),Array.getElem?_eq_none (by simp;omega)]
  have hlen:fuel=(ops.toList.drop T).length:=by
   rw [←hc,nH]
   simp only [List.length_drop,Array.length_toList,List.filter_map,List.length_map]
   have key:∀n,T≤n->((List.range n).filter ((fun x=>x == false) ∘ (decide<| · <T))).length=n-T:=by
    intro n hn
    induction n with
    | zero=>simp
    | succ n ih =>
     rw [List.range_succ,List.filter_append,List.length_append]
     by_cases Px:T≤n
     ·rw [ih Px]
      have:((fun x=>x == false) ∘ (decide<| · <T)) n=true:=by simp;omega
      rw [List.filter_cons_of_pos this];simp;omega
     ·obtain rfl:T=n+1:=aj
      have h1:(List.range n).filter ((fun x=>x == false) ∘ (decide<| · <n+1))= []:=by
       rw [List.filter_eq_nil_iff];intro x hx;have:=List.mem_range.1 hx;simp;omega
      have h2:[n].filter ((fun x=>x == false) ∘ (decide<| · <n+1))= []:=by
       rw [List.filter_eq_nil_iff];intro x hx;simp at hx;subst hx;simp
      rw [h1,h2];simp
   exact key ops.size aj
  rw [hlen]
  refine wpAny_of_seq (ops.toList.drop T) T listed a' w' (fun j=>by rw [List.getElem?_drop];simp) ?_ (done listed a' w' g I hJ all tail)
  rw [nH]
  simpa using Pg
 intro fuel
 induction fuel with
 | zero =>
  intro listed a' w' g I hJ tail hc
  refine rest 0 listed a' w' g I hJ tail hc fun k hk=>?_
  cases hx:listed.getD k false with
  | true=>rfl
  | false =>
   exfalso
   have iH:k<listed.size:=by rw [I.size];omega
   have:false∈listed.toList.filter (· == false):=by
    refine List.mem_filter.2 ⟨?_,rfl⟩
    have h1:listed.toList[k]?=some false:=by simp [iH] at hx ⊢;exact hx
    exact List.mem_of_getElem? h1
   have:=List.length_pos_of_mem this
   omega
 | succ fuel ih =>
  intro listed a' w' g I hJ tail hc
  by_cases hex:∀k,k<T->listed.getD k false=true
  ·exact rest (fuel+1) listed a' w' g I hJ tail hc hex
  have O_:∃k,k<T∧listed.getD k false=false:=by
   refine Classical.byContradiction fun gh=>hex fun k hk=>?_
   cases hx:listed.getD k false with
   | true=>rfl
   | false=>exact absurd ⟨k,hk,hx⟩ gh
  obtain ⟨k0,xQ,HZ⟩:=O_
  have PW:HeadInv .any ops T listed:=⟨I.size,fun j oj hj hl e he hb=>I.closed j oj hl hj e.on (by
    unfold bm
    exact List.mem_map.2 ⟨e,List.mem_filter.2 ⟨by simpa using he,hb⟩,rfl⟩),fun t ht Pf=>getD_in (by rw [I.size];exact Pf) (tail t ht)⟩
  have Io:listed.getD k0 true=false:=getD_in (by rw [I.size];omega) HZ
  refine ⟨fun hr=>(by
   obtain ⟨i,_,hi⟩:=kB listed a' w' g I k0 xQ HZ
   rw [hr] at hi;cases hi),fun i hi=>?_⟩
  have PD:i<T:=Classical.byContradiction fun h=>tail_waits JP vJ hT PW _ k0 rfl xQ Io i aj hi
  obtain ⟨h0,o,ho,gj⟩:=mem_ready.1 hi
  have Ip:i<listed.size:=by rw [I.size];exact (Array.getElem?_eq_some_iff.1 ho).1
  have Ot:listed.getD i false=false:=by simp [Ip] at h0 ⊢;exact h0
  have jd:∀d∈bm o,listed.getD d false=true:=by
   intro d hd
   unfold bm at hd
   obtain ⟨e,he,rfl⟩:=List.mem_map.1 hd
   obtain ⟨LY,KU⟩:=List.mem_filter.1 he
   exact gj e (by simpa using LY) KU
  have next:∀v fw g',Below w'.heap.size w' fw->St i g w' g' fw->F g' i v fw->Inv ops (F g') a w (listed.setIfInBounds i true) (a'.put o.dst v) fw:=by
   intro v fw g' hb dS hF
   have lists:∀k,(listed.setIfInBounds i true).getD k false=true->k=i∨listed.getD k false=true:=by
    intro k hk
    by_cases sF:i=k
    ·exact .inl sF.symm
    ·right;rw [getD_set_ne false sF] at hk;exact hk
   have diff:∀k,listed.getD k false=true->i≠k:=fun k hk e=>by subst e;rw [Ot] at hk;cases hk
   refine ⟨I.grown.pI hb,by simpa using I.size,?_,(pP ..).trans I.zi,(put_defers ..).trans I.sV,?_,?_,?_⟩
   ·intro k p hk hp d hd
    rcases lists k hk with rfl|hk
    ·rw [ho] at hp;injection hp with hp;subst hp
     exact getD_set_true (jd d hd)
    ·exact getD_set_true (I.closed k p hk hp d hd)
   ·intro k p s hk hp hs
    rcases lists k hk with rfl|hk
    ·rw [ho] at hp;injection hp with hp;subst hp
     refine ⟨v,?_,hF⟩
     rw [hs]
     exact mo a' s v (by rw [I.zi,dC];exact vr k _ s ho hs)
    ·obtain ⟨u,hu,Sj⟩:=I.val k p s hk hp hs
     refine ⟨u,?_,mono i k u g g' w' fw (diff k hk) hb dS Sj⟩
     rw [hU a' o.dst s v fun he=>?_]
     ·exact hu
     ·have:=oo im ho hp he hs
      subst this
      rw [Ot] at hk;cases hk
   ·intro k p hk hp hs
    rcases lists k hk with rfl|hk
    ·exact ⟨v,hF⟩
    ·obtain ⟨u,hu⟩:=I.D6 k p hk hp hs
     exact ⟨u,mono i k u g g' w' fw (diff k hk) hb dS hu⟩
   ·intro s hs
    rw [hU a' o.dst s v (hs i o (by simp [Ip]) ho)]
    exact I.old s fun k p hk hp=>hs k p (getD_set_true hk) hp
  have nD:∀j,T≤j->(listed.setIfInBounds i true).getD j false=false:=fun j hj=>by rw [getD_set_ne false aj];exact tail j hj
  have nG:((listed.setIfInBounds i true).toList.filter (· == false)).length=fuel:=by
   have Pz:((listed.setIfInBounds i true).toList.filter (· == false)).length+1=(listed.toList.filter (· == false)).length:=by
    rw [Array.toList_setIfInBounds]
    have jk:listed.toList[i]?=some false:=by simp [Ip] at h0 ⊢;exact h0
    exact pt _ i jk
   omega
  have iP:=vq i o PD ho g a' w' I.grown hJ I.zi (fun d hd=>by
   have hl:=jd d hd
   cases hp:ops[d]? with
   | none =>
    have s9:d<listed.size:=by
     rcases Nat.lt_or_ge d listed.size with h|h
     ·exact h
     ·simp [Array.getElem?_eq_none h] at hl
    rw [I.size] at s9
    rw [Array.getElem?_eq_getElem s9] at hp;cases hp
   | some p =>
    cases hs:p.dst with
    | none=>exact .inr ⟨p,rfl,hs⟩
    | some s =>
     left
     obtain ⟨u,hu,hF⟩:=I.val d p s hl hp hs
     unfold rQ
     rw [hp]
     simp only [Option.bind_some,hs]
     simp [hu];exact hF) (fun s hs=>by
   show a'.tmps.getD s undef=a.tmps.getD s undef
   have:a'.tmps[s]?=a.tmps[s]?:=I.old s fun k p hk hp hd=>by
    have vG:k<T:=Classical.byContradiction fun h=>(by have:=tail k (Nat.le_of_not_lt h);rw [this] at hk;cases hk)
    exact hs k p vG hp hd
   simp [this])
  unfold gS at iP
  unfold wpOp
  rw [ho]
  simp only
  by_cases hw:Region.wanted o (yielded ops a'.tmps)=true
  ·rw [if_pos hw] at iP ⊢
   left
   exact Oper.wp_mono (fun rL fw ⟨v,he,hb,g',dS,Ng,hF⟩=>by
    subst he
    exact ih _ _ _ _ (next v fw g' hb dS hF) Ng nD nG) iP
  ·rw [if_neg hw] at iP ⊢
   obtain ⟨g',dS,Ng,hF⟩:=iP
   exact ih _ _ _ _ (next undef w' g' (Below.refl _ _) dS hF) Ng nD nG
end
def yS (P:Program) (s:AS) (o:Oper) (x:AV) (C:List Prop):Prop :=
 bz C-> ∀S0 w0 n O a w φ Q (b:Act),aJ S0 w0 n O s a w φ->(∀g∈O,g<w.heap.size)->b.tmps=a.tmps->o.wp P b w (fun b' w'=>∃v,b'=b.put o.dst v∧Below w.heap.size w w'∧Den (az s.H φ) (aM S0 w' φ O) w' v x) Q
section
variable {P:Program} {s:AS} {o:Oper} {h:Hint} {r:AV×List Prop}
theorem r_ (hp:dc P s o r.1 r.2):yS P s o r.1 r.2:=by
 intro hC S0 w0 n O a w φ Q b hs _ hb
 obtain ⟨v,cp,dV⟩:=hp hC S0 w0 n O a w φ hs
 rw [←eI hb] at cp
 exact cV cp ⟨v,rfl,Below.refl _ _,dV⟩
theorem kP {S0:bo} {w0 w w':World} {n:Nat} {O:List Nat} {a:Act} {φ:Nat->Option Nat} (hs:aJ S0 w0 n O s a w φ) (hO:∀g∈O,g<w.heap.size) (hb:Below w.heap.size w w') (b:Nat) (h:aM S0 w φ O b∨(w.heap.size≤b∧b<w'.heap.size)):aM S0 w' φ O b:=by
 rcases h with h|⟨h1,h2⟩
 ·exact ⟨by have:=h.1;have:=hb.size;omega,h.2⟩
 ·exact ⟨h2,fun hm=>by have:=hO b hm;omega,fun i hi=>by have:=(hs.cY i b hi).2;omega,hs.new b (.inl (by have:=hs.cZ.size;omega))⟩
theorem Ec {S0:bo} {w0 w:World} {n:Nat} {O:List Nat} {a:Act} {φ:Nat->Option Nat} (hs:aJ S0 w0 n O s a w φ) (z:Nat):∀(parts:List (Nat×Operand)) (i:Nat) (cells:List AV) (cur:Array Value),fW s z i parts=some cells->d_ cells=true->i*z+parts.length*z=cur.size ->
  cells.length=parts.length*z∧ ∃us:Array Value,Instr.fill (fun i=>some (i*z,z)) cur (parts.map fun p=>(p.1,a.eval p.2))=some us∧us.size=cur.size∧(∀j,j<i*z->us[j]?=cur[j]?)∧ ∀(j:Nat) u x,us[i*z+j]?=some u->cells[j]?=some x->cB (aM S0 w φ O) w u x
 | [],i,cells,cur,hc,hp,dC=>by cases hc;exact ⟨by simp,cur,rfl,rfl,fun _ _=>rfl,fun j u x _ hx=>by simp at hx⟩
 | (j,x)::l,i,cells,cur,hc,hp,dC=>by
  simp only [fW] at hc
  split at hc
  ·rename_i c m MW KW hm
   split at hc
   ·rename_i KV
    cases hc
    have MW:=Nat.eq_of_beq_eq_true MW
    have KV:=Nat.eq_of_beq_eq_true KV
    subst MW
    obtain ⟨vs,hv,hlen,dV⟩:=l_ (hs.bq x) KW
    have Rx:d_ m=true:=by
     have key:∀(c m:List AV),d_ (c++m)=true->d_ m=true:=by
      intro c
      induction c with
      | nil=>intro m h;exact h
      | cons y c ih =>
       intro m h
       simp only [List.cons_append,d_] at h
       split at h
       ·exact ih m h
       ·cases h
     exact key c m hp
    simp only [List.length_cons] at dC
    have KG:(l.length+1)*z=l.length*z+z:=by rw [Nat.add_mul,Nat.one_mul]
    have dM:(i+1)*z=i*z+z:=by rw [Nat.add_mul,Nat.one_mul]
    have Ir:((a.eval x).cells.zipIdx.foldl (fun cs (cj:Value×Nat)=>cs.setIfInBounds (i*z+cj.2) cj.1) cur)=(vs.zipIdx.foldl (fun cs (cj:Value×Nat)=>cs.setIfInBounds (i*z+cj.2) cj.1) cur):=by rw [hv];simp
    obtain ⟨Gu,us,Fw,H3,H2,MM⟩:=Ec hs z l (i+1) m (vs.zipIdx.foldl (fun cs (cj:Value×Nat)=>cs.setIfInBounds (i*z+cj.2) cj.1) cur) hm Rx (by rw [jm];omega)
    rw [jm] at H3
    refine ⟨by rw [List.length_append,List.length_cons,Gu,KV];omega,us,?_,H3,fun j hj=>?_,fun j u y hu hy=>?_⟩
    ·rw [List.map_cons]
     unfold Instr.fill
     simp only
     have O8:(a.eval x).cells.size=z:=by rw [hv];simp;omega
     rw [if_neg (by rw [O8];simp;omega),Ir]
     exact Fw
    ·rw [H2 j aj,ks,if_neg aj]
    ·by_cases hj:j<z
     ·rw [H2 _ aj,ks,if_pos aj] at hu
      rw [List.getElem?_append_left aj] at hy
      have Ro:vs[j]?=some u:=by rw [←hu];congr 1;omega
      exact (eK (dV j u y Ro hy) (iA (l:=c++m) (j:=j) hp (by rw [List.getElem?_append_left aj];exact hy))).1
     ·rw [List.getElem?_append_right aj] at hy
      refine MM (j-z) u y ?_ (by rw [←hy,KV])
      rw [←hu];congr 1;omega
   ·cases hc
  ·cases hc
theorem uM {c:Callee} {xs:Array Operand} {ts:Array TypeId} {f:FuncId} {args:List AV} {x:AV} {C:List Prop} (ho:o.op= .call ⟨c,xs,ts⟩) (hc:callee s c=some f) (hE:ie P f=true) (nE:bz C->bL P f args x) (hl:args.length=xs.toList.length)
  (hG:bz C-> ∀S0 w0 n O a w φ,aJ S0 w0 n O s a w φ-> ∃S:Nat->Prop,(∀b,S b->b<w.heap.size)∧(∀(j:Nat) v y,(xs.toList.map a.eval)[j]?=some v->args[j]?=some y->cB S w v y)∧ ∀w' v O',sQ (fun b=>S b∨(w.heap.size≤b∧b<w'.heap.size∧b ∉ O')) w' v x O'->sQ (fun b=>aM S0 w φ O b∨(w.heap.size≤b∧b<w'.heap.size∧b ∉ O')) w' v x O'):yS P s o (Ou x) C:=by
 intro hC S0 w0 n O a w φ Q b hs hO hb
 have cp:=jo (P:=P) hs hc ho hE
 rw [←eI hb] at cp
 obtain ⟨S,hS,iD,uH⟩:=hG hC S0 w0 n O a w φ hs
 unfold Oper.wp
 rw [cp]
 have mU:=nE hC w S (xs.toList.map a.eval) hs.cZ.mH hS (by simp [hl]) iD
 have e:(xs.toList.map a.eval).toArray=xs.map b.eval:=by rw [eI hb];apply Array.ext';simp
 rw [e] at mU
 refine mU.mono ?_
 rintro en w' ⟨v,O',rfl,pD,im,mD,hg⟩
 refine ⟨v,rfl,pD,.rep (IH (fun b hb=>?_) (fun g hg=>?_) (uH w' v O' hg))⟩
 ·exact kP hs hO pD b (hb.imp id fun h=>⟨h.1,h.2.1⟩)
 ·exact kP hs hO pD g (.inr (mD g hg))
theorem u7 (hr:ry P s o h=some r):yS P s o r.1 r.2:=by
 unfold ry at hr
 split at hr
 ·rename_i t len parts ho
  split at hr
  ·rename_i el hu
   split at hr
   ·rename_i z zero hz hzero
    split at hr
    ·rename_i cells dP hlen AJ uA
     split at hr
     ·rename_i hp
      cases hr
      intro hC S0 w0 n O a w φ Q b hs hO hb
      have hlen:=Nat.eq_of_beq_eq_true hlen
      have AJ:len*(z+1)≤16777216:=Nat.le_of_ble_eq_true AJ
      have hn:(named h cells).1=cells:=(hY (C:=[]) (by rw [List.append_nil];exact hC)).1
      obtain ⟨h1,us,h2,h3,-,h4⟩:=Ec hs (z+1) parts.toList 0 cells ((Array.range (len*(z+1))).map (zero.cells[· %zero.cells.size]!)) dP hp (by simp [←hlen])
      have hm:len≤maxLen:=by
       have:len≤len*(z+1):=Nat.le_mul_of_pos_right _ aj
       unfold maxLen;omega
      have cp:(execOp b.eval o).run P w= .ok (.value (.slice (some ⟨w.heap.size,0,none⟩) len len)) {w with heap:=w.heap.push (.cells us el (0,0))}:=by
       have Av:(sizeOf el).run P w= .ok (z+1) w:=run_sizeOf hz
       have oO:(parts.map fun p=>(p.1,a.eval p.2)).toList=parts.toList.map fun p=>(p.1,a.eval p.2):=by simp
       rw [eI hb]
       unfold execOp
       simp only [ho,Instr.buildSlice,Sem.run_bind,run_underlying hu,Result.andThen_ok,Av,Sem.run_ite]
       rw [if_neg aj]
       by_cases h0:len*(z+1)=0
       ·rw [if_pos h0]
        simp only [Sem.run_pure,Result.andThen_ok]
        have:(Array.range (len*(z+1))).map (fun x=>(#[]:Array Value)[x%(#[]:Array Value).size]!)=(Array.range (len*(z+1))).map (fun x=>zero.cells[x%zero.cells.size]!):=by rw [h0,ik,ik]
        rw [this,oO,h2]
        rfl
       ·rw [if_neg h0]
        simp only [iO hzero,Result.andThen_ok,Sem.run_pure]
        rw [oO,h2]
        rfl
      have pD:Below w.heap.size w {w with heap:=w.heap.push (.cells us el (0,0))}:=⟨rfl,rfl,rfl,by simp,fun k hk=>cL w _ k hk⟩
      have gm:cells.length=(z+1)*len:=by rw [h1,hlen,Nat.mul_comm]
      refine cV cp ⟨_,rfl,pD,?_⟩
      simp only [hn]
      refine .rep (fb (r:=⟨z+1,true,false,cells⟩) (dO w _) (kP hs hO pD _ (.inr ⟨Nat.le_refl _,by simp⟩)) cells 0 (by rw [h3,gm];simp [Nat.mul_comm]) gm (Nat.le_refl _) hm _ (fun _=>rfl) (fun j u x hu hx=>?_))
      exact (h4 j u x (by simpa using hu) hx).mono fun b hb=>⟨kP hs hO pD b (.inl hb),cL w _ b hb.1⟩
     ·cases hr
    ·cases hr
   ·cases hr
  ·cases hr
 ·rename_i t l c ho
  split at hr
  ·rename_i kl L kc C el hl hc hu
   split at hr
   ·rename_i i hi
    split at hr
    ·rename_i zero z hz dC
     split at hr
     ·rename_i hb
      cases hr
      have hb:=Nat.eq_of_beq_eq_true hb
      intro hC S0 w0 n O a w φ Q b hs hO Gx
      obtain ⟨KM,hC⟩:=hY hC
      obtain ⟨h1,h2,h3,h4,h5,-⟩:=hC
      have L4:b.eval l= .int kl L:=by rw [eI Gx];exact bK (hl ▸ hs.bq l)
      have ec:b.eval c= .int kc C:=by rw [eI Gx];exact bK (hc ▸ hs.bq c)
      obtain ⟨cur,cp,wL,bw⟩:=run_make ho L4 ec hu hi hz dC hb h1 h2 h3 h4 h5 w
      have pD:Below w.heap.size w {w with heap:=w.heap.push (.cells cur el (0,0))}:=⟨rfl,rfl,rfl,by simp,fun k hk=>cL w _ k hk⟩
      have Gq:(zero.cells.toList.map bC).length=z+1:=by simp [hb]
      have Gs:=tn (zero.cells.toList.map bC) (z+1) Gq h.k
      have hle:(z+1)*h.k≤(z+1)*h.m:=Nat.mul_le_mul_left _ h3
      refine cV cp ⟨_,rfl,pD,?_⟩
      simp only [KM]
      refine .rep (fb (r:=⟨z+1,true,false,tp (zero.cells.toList.map bC) h.k⟩) (dO w _) (kP hs hO pD _ (.inr ⟨Nat.le_refl _,by simp⟩)) _ 0 (by rw [Gs,wL];omega) Gs h3 h5 _ (fun _=>rfl) (fun j u x hu hx=>?_))
      have h6:=w8 _ (z+1) Gq aj _ _ _ hx
      have h7:=bw j u (by simpa using hu)
      rw [List.getElem?_map] at h6
      have h8:zero.cells.toList[j%(z+1)]?=some u:=by simpa using h7
      rw [h8] at h6;injection h6 with h6;subst h6;exact fP u
     ·cases hr
    ·cases hr
   ·cases hr
  ·cases hr
 ·exact r_ (kT hr)
 ·rename_i c xs ts _ ho
  split at hr
  ·rename_i f x hc _
   split at hr
   ·rename_i hE _
    split at hr
    ·rename_i vs C hv sG
     cases hr
     refine uM ho hc hE (fun hC=>hC.1) ?_ fun hC S0 w0 n O a w φ hs=>?_
     ·have key:∀(l:List AV) (m:List AV),jR s l=some m->m.length=l.length:=by
       intro l
       induction l with
       | nil=>intro m h;cases h;rfl
       | cons y l ih =>
        intro m h
        simp only [jR] at h
        split at h
        ·rename_i y' m' _ hm
         cases h
         simp [ih m' hm]
        ·cases h
      rw [key _ _ hv];simp
     ·exact ⟨fun b=>b<w.heap.size,fun _ h=>h,(lO hs _ _ hv).2,fun w' v _ hg=>tc sG hC.2 hg⟩
    ·cases hr
   ·rename_i hE _
    split at hr
    ·rename_i xO
     cases hr
     refine uM ho hc hE (fun hC=>hC.1) (by simp) fun hC S0 w0 n O a w φ hs=>⟨aM S0 w φ O,fun b hb=>hb.1,fun j v x hv hx=>?_,fun w' v _ hg=>hg⟩
     have MP:=lU xO hx
     rw [List.getElem?_map] at hv hx
     cases hj:xs.toList[j]? with
     | none=>rw [hj] at hv;cases hv
     | some y =>
      rw [hj] at hv hx
      injection hv with hv;injection hx with hx;subst hv;subst hx
      exact nW (hs.bq y) MP
    ·cases hr
   ·cases hr
  ·cases hr
 ·exact r_ (kT hr)
end
section
variable {P:Program} {ops:List Oper} {S0:bo} {w0:World} {Q:Exit->Act->World->Prop}
theorem I2 {s:AS} {o:Oper} {h:Hint} {r:AV×List Prop} (hr:sL P ops s o h=some r) (hC:bz r.2) {n:Nat} {O:List Nat} {a b:Act} {w:World} {φ:Nat->Option Nat} (hs:aJ S0 w0 n O s a w φ) (hO:∀g∈O,g<w.heap.size) (hb:b.tmps=a.tmps) :
  gS P ops.toArray Q o b w fun v w'=>w.heap.size≤w'.heap.size∧Den (az s.H φ) (aM S0 w' φ O) w' v r.1:=by
 unfold sL at hr
 unfold gS
 split at hr
 ·rename_i hg
  have hw:Region.wanted o (yielded ops.toArray b.tmps)=true:=by unfold Region.wanted;rw [hg]
  rw [if_pos hw]
  exact Oper.wp_mono (fun b' w' ⟨v,h1,h2,h3⟩=>⟨v,h1,h2,h2.size,h3⟩) (u7 hr hC S0 w0 n O a w φ Q b hs hO hb)
 ·rename_i j want hg
  split at hr
  ·rename_i p hp
   split at hr
   ·rename_i d hd
    split at hr
    ·rename_i bb uO
     have ht:=hs.get d
     rw [uO] at ht
     have hy:=mf (ops:=ops) hp hd (qo ht)
     rw [←hb] at hy
     split at hr
     ·rename_i jY
      split at hr
      ·rename_i x C he
       cases hr
       obtain ⟨FH,hC⟩:=hC
       have hw:Region.wanted o (yielded ops.toArray b.tmps)=true:=by
        unfold Region.wanted;rw [hg];simp only [hy,FH]
        have:h.g=want:=by simpa using jY
        rw [this];simp
       rw [if_pos hw]
       exact Oper.wp_mono (fun b' w' ⟨v,h1,h2,h3⟩=>⟨v,h1,h2,h2.size,h3⟩) (u7 he hC S0 w0 n O a w φ Q b hs hO hb)
      ·cases hr
     ·rename_i jY
      cases hr
      obtain ⟨FH,-⟩:=hC
      have hw:¬Region.wanted o (yielded ops.toArray b.tmps)=true:=by
       unfold Region.wanted;rw [hg];simp only [hy,FH]
       have:¬h.g=want:=by simpa using jY
       simpa using this
      rw [if_neg hw]
      exact ⟨Nat.le_refl _,.rep (.val _)⟩
    ·rename_i arr uO
     have ht:=hs.get d
     rw [uO] at ht
     have hy:=me (ops:=ops) hp hd (bK ht)
     rw [←hb] at hy
     cases hr
     have hw:¬Region.wanted o (yielded ops.toArray b.tmps)=true:=by
      unfold Region.wanted;rw [hg];simp [hy]
     rw [if_neg hw]
     exact ⟨Nat.le_refl _,.rep (.val _)⟩
    ·cases hr
   ·cases hr
  ·cases hr
end
def vS (s:AS):List (Nat×AV)->List (Nat×AV)
 | []=>[]
 | (i,x)::l=>(i,(view s x).getD .dead)::vS s l
theorem uo (s:AS):∀(l:List (Nat×AV)) (i:Nat),look (vS s l) i=(look l i).map fun x=>(view s x).getD .dead
 | [],i=>rfl
 | (k,x)::l,i=>by
  simp only [vS,aD,uo s l i]
  by_cases h:k=i<;>simp [h]
section
variable {P:Program} {n:Nat} {s:AS} {o:Oper} {h:Hint} {S0:bo} {w0 w:World} {O:List Nat} {a b:Act} {φ:Nat->Option Nat}
theorem GJ (hs:aJ S0 w0 n O s a w φ):aJ ⟨fun _=>True,fun _=>False,fun _=>none,a.defers⟩ w n [] ⟨vS s s.F,[]⟩ a w (fun _=>none) where
 jQ:=hs.jQ
 jT:=rfl
 cZ:=⟨rfl,rfl,rfl,Nat.le_refl _,fun _ _ _=>rfl,hs.cZ.mH,fun _ _ h=>h⟩
 cG:=fun i av hi=>by
  have hi:look (vS s s.F) i=some av:=hi
  rw [uo] at hi
  cases hl:look s.F i with
  | none=>rw [hl] at hi;cases hi
  | some x =>
   rw [hl] at hi;injection hi with hi;subst hi
   show Den _ _ _ _ ((view s x).getD .dead)
   cases hv:view s x with
   | none=>exact .dead _
   | some y =>
    refine .rep ((xa hs (hs.cG i x hl) hv).mono ?_)
    intro b hb
    exact ⟨⟨hb,by simp,fun _ h=>(by cases h),trivial⟩,rfl⟩
 rows:=fun id r hr=>by cases hr
 only:=fun _ _=>rfl
 inj:=fun _ _ _ h=>by cases h
 cY:=fun _ _ h=>by cases h
 apart:=fun _ _ h=>by cases h
 new:=fun _ _=>trivial
theorem EV {K:Act->World->Prop} {Q:Exit->Act->World->Prop} (h:o.wp P a w K (fun _ _ _=>False)) (hK:∀a' w',K a' w'->a'.defers=a.defers) (hb:b.tmps=a.tmps):o.wp P b w (fun b' w'=>∃v,b'=b.put o.dst v∧K (a.put o.dst v) w') Q:=by
 unfold Oper.wp at *
 rw [eI hb]
 generalize (execOp a.eval o).run P w=r at *
 cases r with
 | halt x w'=>cases x with
  | panic v=>exact h.elim
  | _=>exact h
 | ok x w'=>cases x with
  | value v=>exact ⟨v,rfl,h⟩
  | skip=>exact ⟨undef,rfl,h⟩
  | enter f args =>
   refine Calls.mono h fun e fw he=>?_
   cases e with
   | returned v=>exact ⟨v,rfl,he⟩
   | panicked c=>exact he.elim
   | outgrown=>obtain ⟨_,_,hf⟩:=he;exact hf.elim
  | defer d =>
   have:=congrArg List.length (hK _ _ h)
   rw [po] at this
   simp at this
  | row r args=>exact Rows.mono h fun v fw he=>⟨v,rfl,he⟩
  | _=>exact h
def yc (P:Program) (n:Nat) (s:AS) (o:Oper) (h:Hint):Option (AV×List Prop) :=
 match o.guard,o.dst with
 | none,some d=>(match A_ P n ⟨vS s s.F,[]⟩ o h with
  | some (s',C)=>(match look s'.F d,look s'.H d with
   | some (.ref d'),some ⟨e,true,_,row⟩=>(match Nat.beq d' d with|true=>some (.own e row,C++ [ll row])|false=>none)
   | _,_=>none)
  | none=>none)
 | _,_=>none
theorem FV {Q:Exit->Act->World->Prop} {ops:Array Oper} {x:AV} {C:List Prop} (hr:yc P n s o h=some (x,C)) (hC:bz C) (hs:aJ S0 w0 n O s a w φ) (hb:b.tmps=a.tmps) :
  (∃e row,x= .own e row)∧gS P ops Q o b w fun v w'=>∃O',ib (fun _=>False) w' v x O'∧O'.Nodup∧ ∀g∈O',w.heap.size≤g∧g<w'.heap.size:=by
 unfold yc at hr
 split at hr
 ·rename_i d hg hd
  split at hr
  ·rename_i s' C' vq
   split at hr
   ·rename_i d' e fl row hF hH
    split at hr
    ·rename_i R0
     cases hr
     have R0:=Nat.eq_of_beq_eq_true R0
     subst R0
     obtain ⟨PZ,hv,-⟩:=bP.1 hC
     refine ⟨⟨e,row,rfl⟩,?_⟩
     have hw:Region.wanted o (yielded ops b.tmps)=true:=by unfold Region.wanted;rw [hg]
     unfold gS
     rw [if_pos hw]
     have key:=oe vq PZ ⟨fun _=>True,fun _=>False,fun _=>none,a.defers⟩ w a w (fun _ _ _=>False) ⟨_,GJ hs⟩
     refine Oper.wp_mono ?_ (EV (Q:=Q) key (fun a' w' ⟨_,bY⟩=>bY.jT) hb)
     rintro b' w' ⟨v,rfl,cE,bY⟩
     refine ⟨v,rfl,bY.cZ.below (fun _ h=>h),?_⟩
     have dC:d'<a.tmps.size:=by
      rcases Nat.lt_or_ge d' a.tmps.size with h|h
      ·exact h
      ·exfalso
       have dV:=bY.cG d' _ hF
       have uC:(a.put o.dst v).tmps.getD d' undef=undef:=by
        have:(a.put o.dst v).tmps.size≤d':=by rw [tE];exact h
        simp [Array.getElem?_eq_none this]
       rw [uC] at dV
       cases dV with
       | rep h=>cases h
     have jj:(a.put o.dst v).tmps.getD d' undef=v:=by rw [hd,pQ a d' d' v dC,if_pos rfl]
     have dV:=bY.cG d' _ hF
     rw [jj] at dV
     have aN:=bY.rows d' _ hH
     have nF:=bu (φ:=cE) hH
     unfold bN at aN
     cases dV with
     | rep h=>cases h
     | ref id e' m g l c hi hm hc hx gm =>
      rw [nF] at hi
      simp only [Option.some.injEq,Prod.mk.injEq] at hi
      obtain ⟨he,m7,cm⟩:=hi
      subst he;subst m7
      rw [cm] at aN
      obtain ⟨cur,te,fr,Tq,gy,hle,mT,dP⟩:=aN
      have wL:cur.size=e*c:=by unfold aV at gm;rw [Tq] at gm;exact gm
      refine ⟨[g],.own g l c e row cur te fr Tq gy hm hc hx wL (fun j u x hu hx=>?_),by simp,fun g' jb=>by simp at jb;subst jb;exact ⟨(bY.cY _ _ cm).1.2.elim id fun h=>h.elim,(bY.cY _ _ cm).2⟩⟩
      obtain ⟨v',rfl⟩:=hv x (List.mem_of_getElem? hx)
      have:=dP j u _ hu hx
      have this:cB _ w' u (.val v'):=this
      cases this
      exact .val _
     | cH id e' hi =>
      rw [nF] at hi
      simp only [Option.some.injEq,Prod.mk.injEq] at hi
      obtain ⟨he,m7,cm⟩:=hi
      have:row= []:=List.eq_nil_of_length_eq_zero m7
      subst this
      exact ⟨[],.nil e,by simp,by simp⟩
    ·cases hr
   ·cases hr
  ·cases hr
 ·cases hr
end
def nh:AV->AV
 | .own _ _=>.dead
 | .box _=>.dead
 | x=>x
def qi (P:Program) (n:Nat) (s:AS) (ds:List Nat) (ops:List Oper) (hs:List (Nat×Hint)) (Ks:List Nat):List Oper->Nat->List AV->Option (List AV×List Prop)
 | [],_,gO=>some (gO,[])
 | o::l,i,gO=>match (match Ks.any (Nat.beq i) with
   | true=>yc P n (vL s ds ops (gO.map nh) o) o (gw hs i)
   | false=>sL P ops (vL s ds ops (gO.map nh) o) o (gw hs i)) with
  | some (x,C)=>(match qi P n s ds ops hs Ks l (i+1) (gO++ [x]) with|some (i9,D)=>some (i9,C++D)|none=>none)
  | none=>none
def ja:List Oper->List AV->List (Nat×Nat×List AV)
 | o::l,.own e row::m=>(match o.dst with|some d=>(d,e,row)::ja l m|none=>ja l m)
 | _::l,_::m=>ja l m
 | _,_=>[]
def Dy:AS->List (Nat×Nat×List AV)->AS
 | s,[]=>s
 | s,(d,e,row)::l=>Dy ⟨(d,.ref d)::s.F,(d,⟨e,true,false,row⟩)::s.H⟩ l
def l4 (s:AS):List (Nat×Nat×List AV)->Bool
 | []=>true
 | (d,_,_)::l=>match look s.H d,Nat.ble d 999999999999 with|none,true=>l4 s l|_,_=>false
def yj (P:Program) (n T:Nat) (Ks:List Nat) (ops:List Oper) (hs:List (Nat×Hint)) (s:AS):Option (AS×List Prop) :=
 match P.follows .mixedOrders,lF ops.toArray n,oF ops.toArray T with
 | true,true,true=>(match qi P n s ((ops.take T).filterMap (·.dst)) ops hs Ks (ops.take T) 0 [] with
  | some (gO,C)=>(match l4 s (ja (ops.take T) gO),j6 P n ops hs (ops.drop T) T (Dy ⟨jc (ops.take T) (gO.map nh)++nB ((ops.take T).filterMap (·.dst)) s.F,s.H⟩ (ja (ops.take T) gO)) with
   | true,some (s',D)=>some (s',C++D)
   | _,_=>none)
  | none=>none)
 | _,_,_=>none
theorem sf {P:Program} {n:Nat} {ops:List Oper} {s:AS} {ds:List Nat} {hs:List (Nat×Hint)} {Ks:List Nat}:∀(l:List Oper) (i:Nat) (gO i9:List AV) (C:List Prop),qi P n s ds ops hs Ks l i gO=some (i9,C)->bz C->gO.length=i ->
  i9.length=i+l.length∧i9.take i=gO∧ ∀(j:Nat) (o:Oper),l[j]?=some o-> ∃x D,i9[i+j]?=some x∧bz D∧(yc P n (vL s ds ops ((i9.take (i+j)).map nh) o) o (gw hs (i+j))=some (x,D)∨sL P ops (vL s ds ops ((i9.take (i+j)).map nh) o) o (gw hs (i+j))=some (x,D))
 | [],i,gO,i9,C,he,hC,hl=>by
  cases he
  exact ⟨by simp [hl],by rw [←hl,List.take_length],fun j o h=>by simp at h⟩
 | o::l,i,gO,i9,C,he,hC,hl=>by
  simp only [qi] at he
  split at he
  ·rename_i x C1 h1
   split at he
   ·rename_i SE D h2
    cases he
    obtain ⟨iJ,hD⟩:=bP.1 hC
    obtain ⟨e1,e2,e3⟩:=sf l (i+1) (gO++ [x]) i9 D h2 hD (by simp [hl])
    have e4:i9.take i=gO:=by
     have:=congrArg (List.take i) e2
     rw [List.take_take,Nat.min_eq_left aj,←hl,List.take_left] at this
     rw [←hl];exact this
    have e5:i9[i]?=some x:=by
     have h3:(i9.take (i+1))[i]?=some x:=by rw [e2,List.getElem?_append_right aj,hl];simp
     exact bW _ _ _ _ h3
    refine ⟨by rw [e1,List.length_cons];omega,e4,fun j p hp=>?_⟩
    cases j with
    | zero =>
     simp at hp;subst hp
     refine ⟨x,C1,by simpa using e5,iJ,?_⟩
     simp only [Nat.add_zero]
     rw [e4]
     split at h1
     ·exact .inl h1
     ·exact .inr h1
    | succ j =>
     obtain ⟨y,D',h5,h6,h7⟩:=e3 j p (by simpa using hp)
     rw [show i+1+j=i+(j+1) by omega] at h5 h7
     exact ⟨y,D',h5,h6,h7⟩
   ·cases he
  ·cases he
theorem ki (s:AS):∀(L:List (Nat×Nat×List AV)),l4 s L=true↔ ∀p∈L,look s.H p.1=none∧p.1<1000000000000
 | []=>by simp [l4]
 | (d,e,row)::L=>by
  simp only [l4]
  split
  ·rename_i h hb
   have hb:=Nat.le_of_ble_eq_true hb
   rw [ki s L]
   constructor
   ·intro hL p hp
    rcases List.mem_cons.1 hp with rfl|hp
    ·exact ⟨h,by show d<_;omega⟩
    ·exact hL p hp
   ·intro hL p hp;exact hL p (by simp [hp])
  ·rename_i gh
   constructor
   ·intro hf;cases hf
   ·intro hL
    have:=hL (d,e,row) (by simp)
    exact (gh this.1 (by have:=this.2;simp at this;exact Nat.ble_eq_true_of_le aj)).elim
theorem wB:∀(l:List Oper) (m:List AV) (p:Nat×Nat×List AV),p∈ja l m->p.1∈l.filterMap (·.dst)
 | [],m,p,h=>by cases m<;>simp [ja] at h
 | o::l,[],p,h=>by simp [ja] at h
 | o::l,x::m,p,h=>by
  have step:p∈ja l m->p.1∈(o::l).filterMap (·.dst):=fun h=>by
   have:=wB l m p h
   rw [List.mem_filterMap] at this ⊢
   obtain ⟨q,h1,h2⟩:=this
   exact ⟨q,by simp [h1],h2⟩
  cases x with
  | own e row =>
   simp only [ja] at h
   split at h
   ·rename_i d hd
    rcases List.mem_cons.1 h with rfl|h
    ·rw [List.mem_filterMap];exact ⟨o,by simp,hd⟩
    ·exact step h
   ·exact step h
  | _=>exact step h
def fC (own:Nat->List Nat):List Oper->List AV->Nat->List Nat
 | o::l,.own _ _::m,i=>(match o.dst with|some _=>own i++fC own l m (i+1)|none=>fC own l m (i+1))
 | _::l,_::m,i=>fC own l m (i+1)
 | _,_,_=>[]
theorem nX (own:Nat->List Nat):∀(l:List Oper) (m:List AV) (i g:Nat),g∈fC own l m i-> ∃k,i≤k∧k<i+l.length∧g∈own k
 | [],m,i,g,h=>by cases m<;>simp [fC] at h
 | o::l,[],i,g,h=>by simp [fC] at h
 | o::l,x::m,i,g,h=>by
  have step:g∈fC own l m (i+1)-> ∃k,i≤k∧k<i+(o::l).length∧g∈own k:=fun h=>by
   obtain ⟨k,h1,h2,h3⟩:=nX own l m (i+1) g h
   exact ⟨k,aj,by simp only [List.length_cons];omega,h3⟩
  cases x with
  | own e row =>
   simp only [fC] at h
   split at h
   ·rcases List.mem_append.1 h with h|h
    ·exact ⟨i,aj,by simp only [List.length_cons];omega,h⟩
    ·exact step h
   ·exact step h
  | _=>exact step h
theorem rZ (own:Nat->List Nat) (h1:∀k,(own k).Nodup) (h2:∀j k g,g∈own j->g∈own k->j=k):∀(l:List Oper) (m:List AV) (i:Nat),(fC own l m i).Nodup
 | [],m,i=>by cases m<;>simp [fC]
 | o::l,[],i=>by simp [fC]
 | o::l,x::m,i=>by
  have ih:=rZ own h1 h2 l m (i+1)
  cases x with
  | own e row =>
   simp only [fC]
   split
   ·rw [List.nodup_append]
    refine ⟨h1 i,ih,fun g hg g' jb e=>?_⟩
    subst e
    obtain ⟨k,h3,-,h4⟩:=nX own l m (i+1) _ jb
    have:=h2 i k _ hg h4
    omega
   ·exact ih
  | _=>exact ih
section
variable {S0:bo} {w0 w:World} {n:Nat} {a:Act}
theorem yG (own:Nat->List Nat):∀(l:List Oper) (m:List AV) (i:Nat) (s:AS) (φ:Nat->Option Nat),aJ S0 w0 n (fC own l m i) s a w φ ->
  (∀(j:Nat) o e row d,l[j]?=some o->m[j]?=some (.own e row)->o.dst=some d->ib (fun _=>False) w (a.tmps.getD d undef) (.own e row) (own (i+j))) ->
  (fC own l m i).Nodup->(∀g∈fC own l m i,(w0.heap.size≤g∨S0.X g)∧g<w.heap.size)->l4 s (ja l m)=true->(l.filterMap (·.dst)).Nodup ->
  ∃ cE,aJ S0 w0 n [] (Dy s (ja l m)) a w cE
 | [],m,i,s,φ,h,_,_,_,_,_=>by cases m<;>exact ⟨φ,h⟩
 | o::l,[],i,s,φ,h,_,_,_,_,_=>⟨φ,h⟩
 | o::l,x::m,i,s,φ,h,hv,im,mD,gy,M_=>by
  have M9:(l.filterMap (·.dst)).Nodup:=List.Nodup.sublist ((List.sublist_cons_self o l).filterMap _) M_
  have H0:∀(j:Nat) o e row d,l[j]?=some o->m[j]?=some (.own e row)->o.dst=some d->ib (fun _=>False) w (a.tmps.getD d undef) (.own e row) (own (i+1+j)):=fun j p e row d h1 h2 h3=>by
   have:=hv (j+1) p e row d (by simpa using h1) (by simpa using h2) h3
   rwa [show i+(j+1)=i+1+j by omega] at this
  cases x with
  | own e row =>
   cases hd:o.dst with
   | none =>
    have e1:fC own (o::l) (.own e row::m) i=fC own l m (i+1):=by simp only [fC,hd]
    have e2:ja (o::l) (.own e row::m)=ja l m:=by simp only [ja,hd]
    rw [e1] at h im mD
    rw [e2] at gy ⊢
    exact yG own l m (i+1) s φ h H0 im mD gy M9
   | some d =>
    have e1:fC own (o::l) (.own e row::m) i=own i++fC own l m (i+1):=by simp only [fC,hd]
    have e2:ja (o::l) (.own e row::m)=(d,e,row)::ja l m:=by simp only [ja,hd]
    rw [e1] at h im mD
    rw [e2] at gy ⊢
    have M1:=(ki s _).1 gy
    have hg:=hv 0 o e row d rfl rfl hd
    simp only [Nat.add_zero] at hg
    obtain ⟨iI,h1,h2,-⟩:=mh (S0:=S0) (w0:=w0) (w:=w) (n:=n) (a:=a) s φ (own i) (fC own l m (i+1)) _ (.own e row) d h (hg.mono fun b hb=>hb.elim) im (fun g hg=>mD g (by simp [hg])) (fun j hj=>by
     simp [jq] at hj;subst hj;exact M1 _ (List.mem_cons_self ..)) (by simp [jq])
    have h3:aJ S0 w0 n (fC own l m (i+1)) ⟨(d,.ref d)::s.F,(d,⟨e,true,false,row⟩)::s.H⟩ a w iI:=by
     refine ⟨h1.jQ,h1.jT,h1.cZ,fun j av hj=>?_,h1.rows,h1.only,h1.inj,h1.cY,h1.apart,h1.new⟩
     have hj:look ((d,AV.ref d)::s.F) j=some av:=hj
     rw [aD] at hj
     by_cases RZ:d=j
     ·rw [if_pos RZ] at hj;injection hj with hj;subst hj;subst RZ
      exact h2
     ·rw [if_neg RZ] at hj
      exact h1.cG j av hj
    refine yG own l m (i+1) _ iI h3 H0 (List.nodup_append.1 im).2.1 (fun g hg=>mD g (by simp [hg])) ?_ M9
    rw [ki]
    intro p hp
    refine ⟨?_,(M1 p (by simp [hp])).2⟩
    show look ((d,_)::s.H) p.1=none
    rw [aD]
    have cX:d≠p.1:=fun e=>by
     have:=wB l m p hp
     rw [List.filterMap_cons_some (by simpa using hd)] at M_
     exact (List.nodup_cons.1 M_).1 (by rw [e];exact this)
    rw [if_neg cX]
    exact (M1 p (by simp [hp])).1
  | _=>exact yG own l m (i+1) s φ h H0 im mD gy M9
theorem ib.grow {w w':World} (hb:Below w.heap.size w w') {v:Value} {x:AV} {O:List Nat} (h:ib (fun _=>False) w v x O):ib (fun _=>False) w' v x O:=by
 cases h with
 | rep h=>exact .rep (h.mono fun b hb=>hb.elim)
 | nil e=>exact .nil e
 | own g l c e row cur te fr hg hf hl hc hm hs h =>
  have dj:g<w.heap.size:=(Array.getElem?_eq_some_iff.1 hg).1
  exact .own g l c e row cur te fr ((hb.block g dj).trans hg) hf hl hc hm hs fun j u x hu hx=>(h j u x hu hx).mono fun b hb=>hb.elim
 | box g row cur te fr hg hf hs h =>
  have dj:g<w.heap.size:=(Array.getElem?_eq_some_iff.1 hg).1
  exact .box g row cur te fr ((hb.block g dj).trans hg) hf hs fun j u x hu hx=>(h j u x hu hx).mono fun b hb=>hb.elim
theorem qF {I:Info} {S:Nat->Prop} {v:Value} {x:AV} (h:Den I S w v x):nh x=x:=by
 cases x with
 | own e row=>cases h with|rep h=>cases h
 | box row=>cases h with|rep h=>cases h
 | _=>rfl
end
section
variable {P:Program} {ops:List Oper} {S0:bo} {w0:World} {Q:Exit->Act->World->Prop}
def sP (T:Nat) (own:Nat->List Nat):List Nat:=(List.range T).flatMap own
theorem kJ {T g:Nat} {own:Nat->List Nat}:g∈sP T own↔ ∃k,k<T∧g∈own k:=by
 unfold sP
 rw [List.mem_flatMap]
 exact ⟨fun ⟨k,h1,h2⟩=>⟨k,List.mem_range.1 h1,h2⟩,fun ⟨k,h1,h2⟩=>⟨k,List.mem_range.2 h1,h2⟩⟩
def Hq (own:Nat->List Nat) (i:Nat) (O:List Nat):Nat->List Nat:=fun k=>if k=i then O else own k
theorem CT {n T:Nat} {Ks:List Nat} {hs:List (Nat×Hint)} {s s':AS} {C:List Prop} (he:yj P n T Ks ops hs s=some (s',C)) (hC:bz C) {a:Act} {w:World} (gb:iv S0 w0 n s a w) (hQ:∀a' w',iv S0 w0 n s' a' w'->Q .normal a' w'):P.follows .mixedOrders=true∧wpAny P .any ops.toArray Q ops.toArray.size (Array.replicate ops.toArray.size false) a {w with drawn:=w.drawn+1}:=by
 unfold yj at he
 split at he
 ·rename_i hm hB hT
  split at he
  ·rename_i gO C1 Ct
   split at he
   ·rename_i s2 D gy oN
    cases he
    obtain ⟨iJ,hD⟩:=bP.1 hC
    obtain ⟨φ,lJ⟩:=gb
    obtain ⟨hlen,-,gN⟩:=sf _ 0 [] gO C1 Ct iJ rfl
    simp only [Nat.zero_add] at hlen gN
    obtain ⟨dj,im,vr⟩:=fT hB
    unfold oF at hT
    simp only [Bool.and_eq_true,decide_eq_true_eq] at hT
    obtain ⟨⟨⟨Gy,K2⟩,K1⟩,K0⟩:=hT
    have R9:T<ops.length:=by simpa using Gy
    have R8:gO.length=T:=by rw [hlen,List.length_take];omega
    let F:(Nat->List Nat)->Nat->Value->World->Prop:=fun own k v w'=>w.heap.size≤w'.heap.size∧ ∀x,gO[k]?=some x->((∃e row,x= .own e row)∧ib (fun _=>False) w' v x (own k))∨Den (az s.H φ) (aM S0 w' φ (sP T own)) w' v x
    let J:(Nat->List Nat)->World->Prop:=fun own w'=>(∀k,(own k).Nodup)∧(∀j k g,g∈own j->g∈own k->j=k)∧(∀k g,g∈own k->w.heap.size≤g∧g<w'.heap.size)
    let St:Nat->(Nat->List Nat)->World->(Nat->List Nat)->World->Prop:=fun i own w1 ub _=>(∀k,k≠i->ub k=own k)∧ ∀g∈ub i,w1.heap.size≤g
    have uF:∀i k v own ub w1 w2,i≠k->Below w1.heap.size w1 w2->St i own w1 ub w2->F own k v w1->F ub k v w2:=by
     intro i k v own ub w1 w2 LW hb ⟨SK,TX⟩ ⟨h1,h2⟩
     refine ⟨Nat.le_trans h1 hb.size,fun x hx=>?_⟩
     rcases h2 x hx with ⟨e,hg⟩|dV
     ·left;rw [SK k (Ne.symm LW)];exact ⟨e,hg.grow hb⟩
     ·right
      have uC:∀b,aM S0 w1 φ (sP T own) b->b ∉ sP T ub:=fun b hS rb=>by
       obtain ⟨j,hj,JQ⟩:=kJ.1 rb
       by_cases LV:j=i
       ·subst LV;have:=TX b JQ;have:=hS.1;omega
       ·rw [SK j LV] at JQ;exact hS.2.1 (kJ.2 ⟨j,hj,JQ⟩)
      have gm:∀id e m g,az s.H φ id=some (e,m,some g)->aV w2 g=aV w1 g:=fun id e m g hi=>by
       obtain ⟨r,-,-,-,cm⟩:=aQ hi
       have:=(lJ.cY id g cm).2
       unfold aV;rw [hb.block g aj]
      exact dV.mono (fun _ _ h=>h) (fun b hS=>⟨⟨by have:=hS.1;have:=hb.size;omega,uC b hS,hS.2.2⟩,hb.block b hS.1⟩) gm
    have waiting:∀(O:List Nat) w',Below w.heap.size w w'->(∀g∈O,w.heap.size≤g)->aJ S0 w0 n O s a w' φ:=by
     intro O w' hb hO
     have h1:=nR O [] s φ lJ hO
     rw [List.append_nil] at h1
     exact h1.grow hb
    refine ⟨hm,zb (γ :=Nat->List Nat) Gy K2 K1 K0 lJ.jQ hB F J St uF ?_ ?_ ops.toArray.size _ a _ (fun _=>[]) ⟨(Below.refl _ _).drew,by simp,?_,rfl,rfl,?_,?_,fun _ _=>rfl⟩ ⟨by simp,by simp,by simp⟩ (fun j _=>by simp only [List.size_toArray];exact getD_replicate_false _ _) (by simp)⟩
    ·
     intro k o vG ho own a' w' hb hJ Rp jd fy
     have ra:ops[k]?=some o:=by simpa using ho
     obtain ⟨x,Dk,hx,QL,ea⟩:=gN k o (by rw [List.getElem?_take,if_pos vG];exact ra)
     have kO:Below w.heap.size w w':=hb
     have Sd:∀g∈sP T own,w.heap.size≤g:=fun g hg=>by
      obtain ⟨j,-,hj⟩:=kJ.1 hg
      exact (hJ.2.2 j g hj).1
     have Nf:∀g∈sP T own,g<w'.heap.size:=fun g hg=>by
      obtain ⟨j,-,hj⟩:=kJ.1 hg
      exact (hJ.2.2 j g hj).2
     have hg:=waiting (sP T own) w' kO Sd
     have JP:aJ S0 w0 n (sP T own) (vL s ((ops.take T).filterMap (·.dst)) ops ((gO.take k).map nh) o) ⟨a'.tmps,S0.si⟩ w' φ:=by
      refine ⟨Rp.trans lJ.jQ,rfl,hg.cZ,fun i av hi=>?_,hg.rows,hg.only,hg.inj,hg.cY,hg.apart,hg.new⟩
      show Den (az s.H φ) _ _ _ _
      unfold vL at hi
      rw [bM] at hi
      cases Iv:look (jn ops ((gO.take k).map nh) (bm o)) i with
      | some y =>
       rw [Iv] at hi
       simp at hi;subst hi
       obtain ⟨d,p,h1,h2,h3,h4⟩:=n0 _ _ _ _ _ Iv
       rcases jd d h1 with hF|⟨q,hq,hn⟩
       ·have jj:rQ ops.toArray a' d=a'.tmps.getD i undef:=by
         unfold rQ
         have:(ops.toArray[d]?).bind (·.dst)=some i:=by simp [h2,h3]
         rw [this]
        rw [jj] at hF
        rw [List.getElem?_map] at h4
        cases hz:(gO.take k)[d]? with
        | none=>rw [hz] at h4;cases h4
        | some z =>
         rw [hz] at h4;injection h4 with h4;subst h4
         rcases hF.2 z (bW _ _ _ _ hz) with ⟨⟨e,row,rfl⟩,-⟩|dV
         ·exact .dead _
         ·rw [qF dV];exact dV
       ·have gM:ops[d]?=some q:=by simpa using hq
        rw [h2] at gM;injection gM with gM;subst gM
        rw [h3] at hn;cases hn
      | none =>
       rw [Iv] at hi
       simp at hi
       obtain ⟨h1,h2⟩:=fR _ _ _ _ hi
       have hk:=fy i (fun j p hj hp=>(kq ops T i).1 h2 j p hj (by simpa using hp))
       have oz:a'.tmps.getD i undef=a.tmps.getD i undef:=hk
       show Den _ _ _ (a'.tmps.getD i undef) av
       rw [oz]
       exact hg.cG i av h1
     have iP:gS P ops.toArray Q o a' w' fun v w2=>w'.heap.size≤w2.heap.size∧ ∃O',O'.Nodup∧(∀g∈O',w'.heap.size≤g∧g<w2.heap.size)∧(((∃e row,x= .own e row)∧ib (fun _=>False) w2 v x O')∨(O'= []∧Den (az s.H φ) (aM S0 w2 φ (sP T own)) w2 v x)):=by
      rcases ea with ea|ea
      ·obtain ⟨JM,hr⟩:=FV (Q:=Q) (ops:=ops.toArray) ea QL JP (b:=a') rfl
       unfold gS at hr ⊢
       split
       ·rename_i hw
        rw [if_pos hw] at hr
        exact Oper.wp_mono (fun b' w2 ⟨v,h1,h2,O',h3,h4,h5⟩=>⟨v,h1,h2,h2.size,O',h4,h5,.inl ⟨JM,h3⟩⟩) hr
       ·rename_i hw
        rw [if_neg hw] at hr
        obtain ⟨O',h3,h4,h5⟩:=hr
        exact ⟨Nat.le_refl _,O',h4,h5,.inl ⟨JM,h3⟩⟩
      ·have hr:=I2 (Q:=Q) (ops:=ops) ea QL JP Nf (b:=a') rfl
       unfold gS at hr ⊢
       split
       ·rename_i hw
        rw [if_pos hw] at hr
        exact Oper.wp_mono (fun b' w2 ⟨v,h1,h2,h3,h4⟩=>⟨v,h1,h2,h3,[],by simp,by simp,.inr ⟨rfl,h4⟩⟩) hr
       ·rename_i hw
        rw [if_neg hw] at hr
        exact ⟨hr.1,[],by simp,by simp,.inr ⟨rfl,hr.2⟩⟩
     have fin:∀v w2,(w'.heap.size≤w2.heap.size∧ ∃O',O'.Nodup∧(∀g∈O',w'.heap.size≤g∧g<w2.heap.size)∧(((∃e row,x= .own e row)∧ib (fun _=>False) w2 v x O')∨(O'= []∧Den (az s.H φ) (aM S0 w2 φ (sP T own)) w2 v x)))-> ∃ub,St k own w' ub w2∧J ub w2∧F ub k v w2:=by
      rintro v w2 ⟨dC,O',h4,h5,h6⟩
      have p1:∀j,j≠k->Hq own k O' j=own j:=fun j hj=>by unfold Hq;rw [if_neg hj]
      have p2:Hq own k O' k=O':=by unfold Hq;rw [if_pos rfl]
      refine ⟨Hq own k O',⟨p1,fun g hg=>by rw [p2] at hg;exact (h5 g hg).1⟩,⟨fun j=>?_,fun i j g hi hj=>?_,fun j g hj=>?_⟩,Nat.le_trans kO.size dC,fun y hy=>?_⟩
      ·by_cases hj:j=k
       ·subst hj;rw [p2];exact h4
       ·rw [p1 j hj];exact hJ.1 j
      ·by_cases LW:i=k
       ·by_cases vH:j=k
        ·rw [LW,vH]
        ·subst LW
         rw [p2] at hi;rw [p1 j vH] at hj
         have:=(h5 g hi).1;have:=(hJ.2.2 j g hj).2;omega
       ·by_cases vH:j=k
        ·subst vH
         rw [p2] at hj;rw [p1 i LW] at hi
         have:=(h5 g hj).1;have:=(hJ.2.2 i g hi).2;omega
        ·rw [p1 i LW] at hi;rw [p1 j vH] at hj;exact hJ.2.1 i j g hi hj
      ·by_cases vH:j=k
       ·subst vH;rw [p2] at hj
        exact ⟨Nat.le_trans kO.size (h5 g hj).1,(h5 g hj).2⟩
       ·rw [p1 j vH] at hj
        exact ⟨(hJ.2.2 j g hj).1,Nat.lt_of_lt_of_le (hJ.2.2 j g hj).2 dC⟩
      ·rw [hx] at hy;injection hy with hy;subst hy
       rcases h6 with ⟨e1,e2⟩|⟨e1,e2⟩
       ·left;rw [p2];exact ⟨e1,e2⟩
       ·right
        subst e1
        refine e2.mono (fun _ _ h=>h) (fun b hS=>⟨⟨hS.1,fun hm=>?_,hS.2.2⟩,rfl⟩) (fun _ _ _ _ _=>rfl)
        obtain ⟨j,hj,JQ⟩:=kJ.1 hm
        by_cases vH:j=k
        ·subst vH;rw [p2] at JQ;simp at JQ
        ·rw [p1 j vH] at JQ;exact hS.2.1 (kJ.2 ⟨j,hj,JQ⟩)
     unfold gS at iP ⊢
     split
     ·rename_i hw
      rw [if_pos hw] at iP
      exact Oper.wp_mono (fun b' w2 ⟨v,h1,h2,h3⟩=>⟨v,h1,h2,fin v w2 h3⟩) iP
     ·rename_i hw
      rw [if_neg hw] at iP
      exact fin undef w' iP
    ·
     intro vs own w' hb hJ xR
     have kO:Below w.heap.size w w':=hb
     have Cm:∀g∈fC own (ops.take T) gO 0,g∈sP T own:=fun g hg=>by
      obtain ⟨j,h1,h2,h3⟩:=nX own _ _ 0 g hg
      exact kJ.2 ⟨j,by rw [List.length_take] at h2;omega,h3⟩
     have hOr:∀g∈fC own (ops.take T) gO 0,w.heap.size≤g∧g<w'.heap.size:=fun g hg=>by
      obtain ⟨j,h1,h2,h3⟩:=nX own _ _ 0 g hg
      exact hJ.2.2 j g h3
     have hg:=waiting (fC own (ops.take T) gO 0) w' kO (fun g hg=>(hOr g hg).1)
     have jN:=jJ vs (ops.zipIdx.take T) a (by
      have h1:(ops.zipIdx.take T).filterMap (·.1.dst)=(ops.take T).filterMap (·.dst):=by
       conv=>rhs;rw [←List.zipIdx_map_fst 0 ops,←List.map_take]
       rw [List.filterMap_map];rfl
      rw [h1]
      exact List.Nodup.sublist ((List.take_sublist T ops).filterMap _) (by simpa using im))
     have S8:∀(k:Nat) (o:Oper) (i:Nat),k<T->ops[k]?=some o->o.dst=some i->(eJ (ops.zipIdx.take T) vs a).tmps.getD i undef=vs k:=by
      intro k o i vG ho hd
      have hv:=jN.2.2.1 (o,k) ((lX ops T _).2 ⟨vG,ho⟩) i hd (by rw [lJ.jQ];exact vr k o i (by simpa using ho) hd)
      simp [hv]
     show wpList P ops.toArray Q (ops.drop T) (eJ (ops.zipIdx.take T) vs a) w'
     have hA:aJ S0 w0 n (fC own (ops.take T) gO 0) ⟨jc (ops.take T) (gO.map nh)++nB ((ops.take T).filterMap (·.dst)) s.F,s.H⟩ (eJ (ops.zipIdx.take T) vs a) w' φ:=by
      refine ⟨jN.1.trans lJ.jQ,jN.2.1.trans lJ.jT,hg.cZ,fun i av hi=>?_,hg.rows,hg.only,hg.inj,hg.cY,hg.apart,hg.new⟩
      show Den (az s.H φ) _ _ _ _
      have hi:look (jc (ops.take T) (gO.map nh)++nB ((ops.take T).filterMap (·.dst)) s.F) i=some av:=hi
      rw [bM] at hi
      cases hh:look (jc (ops.take T) (gO.map nh)) i with
      | some y =>
       rw [hh] at hi
       simp at hi;subst hi
       obtain ⟨k,o,h1,h2,h3⟩:=kM _ _ _ _ hh
       have vG:k<T:=by have:=(List.getElem?_eq_some_iff.1 h3).1;rw [List.length_map] at this;omega
       have ho:ops[k]?=some o:=bW _ _ _ _ h1
       rw [S8 k o i vG ho h2]
       rw [List.getElem?_map] at h3
       cases hz:gO[k]? with
       | none=>rw [hz] at h3;cases h3
       | some z =>
        rw [hz] at h3;injection h3 with h3;subst h3
        rcases (xR k vG).2 z hz with ⟨⟨e,row,rfl⟩,-⟩|dV
        ·exact .dead _
        ·rw [qF dV]
         exact dV.mono (fun _ _ h=>h) (fun b hS=>⟨⟨hS.1,fun hm=>hS.2.1 (Cm b hm),hS.2.2⟩,rfl⟩) (fun _ _ _ _ _=>rfl)
      | none =>
       rw [hh] at hi
       simp at hi
       obtain ⟨h1,h2⟩:=fR _ _ _ _ hi
       have hv:=jN.2.2.2 i (fun p hp hd=>(kq ops T i).1 h2 p.2 p.1 ((lX ops T p).1 hp).1 ((lX ops T p).1 hp).2 hd)
       have:(eJ (ops.zipIdx.take T) vs a).tmps.getD i undef=a.tmps.getD i undef:=by
        simp [hv]
       rw [this]
       exact hg.cG i av h1
     obtain ⟨cE,kf⟩:=yG own (ops.take T) gO 0 _ φ hA (fun j o e row d h1 h2 h3=>by
      have QF:j<T:=by have:=(List.getElem?_eq_some_iff.1 h2).1;omega
      have ho:ops[j]?=some o:=bW _ _ _ _ h1
      rw [S8 j o d QF ho h3,Nat.zero_add]
      rcases (xR j QF).2 _ h2 with ⟨-,UJ⟩|dV
      ·exact UJ
      ·have:=qF dV;cases this) (rZ own hJ.1 hJ.2.1 _ _ 0) (fun g hg=>⟨.inl (Nat.le_trans lJ.cZ.size (hOr g hg).1),(hOr g hg).2⟩) (by
       rw [ki] at gy ⊢
       exact gy) (List.Nodup.sublist ((List.take_sublist T ops).filterMap _) (by simpa using im))
     exact jO (S0:=S0) (w0:=w0) _ _ _ _ _ oN hD _ _ ⟨cE,kf⟩ hQ
    ·intro k o hk;rw [getD_replicate_false] at hk;cases hk
    ·intro k o s hk;rw [getD_replicate_false] at hk;cases hk
    ·intro k o hk;rw [getD_replicate_false] at hk;cases hk
   ·cases he
  ·cases he
 ·cases he
def rr (P:Program) (n T:Nat) (Ks:List Nat) (hs:List (Nat×Hint)) (c:Code) (s:AS):Option (AS×List Prop) :=
 match c with
 | .region _ ⟨l⟩ true=>yj P n T Ks l hs s
 | _=>none
theorem bf.OM {n:Nat} {c:Code} {Q:Exit->AS->Prop} {s s':AS} {C:List Prop} (T:Nat) (Ks:List Nat) (hs:List (Nat×Hint)) (he:rr P n T Ks hs c s=some (s',C)) (hC:bz C) (h:Q .normal s'):bf P n c Q s:=by
 intro S0 w0 a w gb
 unfold rr at he
 split at he
 ·exact CT (S0:=S0) (w0:=w0) he hC gb fun a' w' bY=>⟨s',h,bY.one⟩
 ·cases he
theorem bf.SR {n:Nat} {c:Code} {Q:Exit->AS->Prop} {s:AS} {C:List Prop} (T:Nat) (Ks:List Nat) (hs:List (Nat×Hint)) (he:oX (rr P n T Ks hs c s)=some C) (hC:bz C) (h:Q .normal (pN (rr P n T Ks hs c s))):bf P n c Q s:=bf.OM T Ks hs (iR he) hC h
end
end Go.Proofs.YtjgbhhnghedgdaaGreatDoor
