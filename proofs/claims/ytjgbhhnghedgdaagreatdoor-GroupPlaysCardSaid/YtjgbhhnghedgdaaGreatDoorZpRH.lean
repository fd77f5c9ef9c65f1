import Derived.Test.YtjgbhhnghedgdaaGreatDoorZpV8
set_option linter.all false
namespace Go.Proofs.YtjgbhhnghedgdaaGreatDoor
open Go.RowKit
section
variable {P:Program} {ops:Array Oper} {Q:Exit->Act->World->Prop} {a:Act} {w:World}
theorem y8 {γ :Type} {n T:Nat} (hT:T<ops.size) (JC:Region.sinkB .any ops T=true) (vz:Region.chainB .any ops T=true) (O5:Region.seqB .any ops (ops.size-T) T ((List.range ops.size).map (decide<| · <T)).toArray=true) (dq:a.tmps.size=n) (hB:ly ops n=true) (F: γ ->Nat->Value->World->Prop) (J: γ ->World->Prop) (St:Nat-> γ ->World-> γ ->World->Prop) (mono:∀i k v g g' w1 w2,i≠k->Below w1.heap.size w1 w2->St i g w1 g' w2->F g k v w1->F g' k v w2)
  (vf:∀k o,k<T->ops[k]?=some o-> ∀g a' w',Below w.heap.size w w'->J g w'->a'.tmps.size=a.tmps.size->(∀d∈bk o,F g d (rH ops a' d) w'∨(∃p,ops[d]?=some p∧p.dst=none))->(∀s,(∀(j:Nat) (p:Oper),j<T->ops[j]?=some p->p.dst≠some s)->a'.eval (.tmp s)=a.eval (.tmp s))->gP P ops Q o a' w' (fun v fp=>∃g',St k g w' g' fp∧J g' fp∧F g' k v fp))
  (j8:∀(vs:Nat->Value) (g: γ),∀w',Below w.heap.size w w'->J g w'->(∀k,k<T->F g k (vs k) w')->wpList P ops Q (ops.toList.drop T) (eD (ops.toList.zipIdx.take T) vs a) w') :
  ∀(fuel:Nat) (listed:Array Bool) (a':Act) (w':World) (g: γ),Inv ops (F g) a w listed a' w'->J g w'->(∀j,T≤j->listed.getD j false=false) ->
   (listed.toList.filter (· == false)).length=fuel->wpAny P .any ops Q fuel listed a' w':=by
 obtain ⟨dd,im,vg⟩:=fT hB
 have kt:∀(listed:Array Bool) (a':Act) (w':World) (g: γ),Inv ops (F g) a w listed a' w'-> ∀k,k<T->listed.getD k false=false-> ∃i,i<T∧i∈Region.ready .any ops listed:=by
  intro listed a' w' g I k
  induction k using Nat.strongRecOn with
  | _ k ih =>
   intro hk hl
   have iF:k<listed.size:=by rw [I.size];omega
   have Bt:k<ops.size:=aj
   have oq:ops[k]?=some ops[k]:=Array.getElem?_eq_getElem Bt
   by_cases gh:∀d∈bk ops[k],listed.getD d false=true
   ·refine ⟨k,hk,?_⟩
    rw [mem_ready]
    refine ⟨?_,ops[k],oq,fun e he hb=>gh e.on ?_⟩
    ·simp [iF] at hl ⊢;exact hl
    ·unfold bk
     exact List.mem_map.2 ⟨e,List.mem_filter.2 ⟨by simpa using he,hb⟩,rfl⟩
   ·have:∃d,d∈bk ops[k]∧listed.getD d false=false:=by
     refine Classical.byContradiction fun gb=>gh fun d hd=>?_
     cases hx:listed.getD d false with
     | true=>rfl
     | false=>exact absurd ⟨d,hd,hx⟩ gb
    obtain ⟨d,hd,hx⟩:=this
    exact ih d (dd k _ oq d hd) (by have:=dd k _ oq d hd;omega) hx
 have done:∀(listed:Array Bool) (a':Act) (w':World) (g: γ),Inv ops (F g) a w listed a' w'->J g w'->(∀k,k<T->listed.getD k false=true)->(∀j,T≤j->listed.getD j false=false)->wpList P ops Q (ops.toList.drop T) a' w':=by
  intro listed a' w' g I hJ all tail
  have hv:∀k,∃v,k<T->(F g k v w'∧ ∀o s,ops[k]?=some o->o.dst=some s->a'.tmps[s]?=some v):=by
   intro k
   by_cases hk:k<T
   ·have Bt:k<ops.size:=aj
    have oq:ops[k]?=some ops[k]:=Array.getElem?_eq_getElem Bt
    cases hd:ops[k].dst with
    | none =>
     obtain ⟨v,hv⟩:=I.DQ k _ (all k hk) oq hd
     exact ⟨v,fun _=>⟨hv,fun o s ho hs=>by rw [oq] at ho;injection ho with ho;subst ho;rw [hd] at hs;cases hs⟩⟩
    | some s =>
     obtain ⟨v,hv,hF⟩:=I.val k _ s (all k hk) oq hd
     exact ⟨v,fun _=>⟨hF,fun o s' ho hs=>by rw [oq] at ho;injection ho with ho;subst ho;rw [hd] at hs;injection hs with hs;subst hs;exact hv⟩⟩
   ·exact ⟨undef,fun h=>absurd h hk⟩
  obtain ⟨vs,D6⟩:=Classical.axiomOfChoice hv
  have qX:∀p:Oper×Nat,p∈ops.toList.zipIdx.take T↔(p.2<T∧ops[p.2]?=some p.1):=by
   intro p
   rw [List.mem_iff_getElem?]
   constructor
   ·rintro ⟨x,hx⟩
    rw [List.getElem?_take] at hx
    split at hx
    ·rename_i At
     rw [List.getElem?_zipIdx] at hx
     cases ho:ops.toList[x]? with
     | none=>rw [ho] at hx;simp at hx
     | some q =>
      rw [ho] at hx
      simp at hx
      subst hx
      exact ⟨by simpa using At,by simpa using ho⟩
    ·cases hx
   ·rintro ⟨h1,h2⟩
    refine ⟨p.2,?_⟩
    rw [List.getElem?_take,if_pos h1,List.getElem?_zipIdx]
    have Oe:ops.toList[p.2]?=some p.1:=by simpa using h2
    rw [Oe];simp
  have jI:=jD vs (ops.toList.zipIdx.take T) a (by
   have h1:(ops.toList.zipIdx.take T).filterMap (·.1.dst)=(ops.toList.take T).filterMap (·.dst):=by
    conv=>rhs;rw [←List.zipIdx_map_fst 0 ops.toList,←List.map_take]
    rw [List.filterMap_map];rfl
   rw [h1]
   exact List.Nodup.sublist ((List.take_sublist T ops.toList).filterMap _) im)
  have he:a'=eD (ops.toList.zipIdx.take T) vs a:=by
   have ht:a'.tmps=(eD (ops.toList.zipIdx.take T) vs a).tmps:=by
    apply Array.ext_getElem?
    intro s
    by_cases hs:∃(k:Nat) (o:Oper),k<T∧ops[k]?=some o∧o.dst=some s
    ·obtain ⟨k,o,hk,ho,hd⟩:=hs
     rw [(D6 k hk).2 o s ho hd]
     exact (jI.2.2.1 (o,k) ((qX _).2 ⟨hk,ho⟩) s hd (by rw [dq];exact vg k o s ho hd)).symm
    ·rw [I.old s fun k o hl ho hd=>hs ⟨k,o,(Classical.byContradiction fun hk=>(by have:=tail k (Nat.le_of_not_lt hk);rw [this] at hl;cases hl)),ho,hd⟩]
     exact (jI.2.2.2 s fun p hp hd=>hs ⟨p.2,p.1,((qX p).1 hp).1,((qX p).1 hp).2,hd⟩).symm
   have hd:a'.defers=(eD (ops.toList.zipIdx.take T) vs a).defers:=I.sH.trans jI.2.1.symm
   cases a';cases h:eD (ops.toList.zipIdx.take T) vs a
   rw [h] at ht hd
   simp only at ht hd
   rw [ht,hd]
  rw [he]
  exact j8 vs g w' I.grown hJ (fun k hk=>(D6 k hk).1)
 have rest:∀(fuel:Nat) (listed:Array Bool) (a':Act) (w':World) (g: γ),Inv ops (F g) a w listed a' w'->J g w'->(∀j,T≤j->listed.getD j false=false)->(listed.toList.filter (· == false)).length=fuel->(∀k,k<T->listed.getD k false=true)->wpAny P .any ops Q fuel listed a' w':=by
  intro fuel listed a' w' g I hJ tail hc all
  have nu:listed=((List.range ops.size).map (decide<| · <T)).toArray:=by
   apply Array.ext_getElem?
   intro x
   by_cases hx:x<ops.size
   ·have F7:x<listed.size:=by rw [I.size];exact hx
    have hr:((List.range ops.size).map (decide<| · <T)).toArray[x]?=some (decide (x<T)):=by simp [hx]
    rw [hr]
    by_cases At:x<T
    ·have:=all x At;simp [F7] at this ⊢;rw [this,decide_eq_true At]
    ·have:=tail x aj;simp [F7] at this ⊢;rw [this,decide_eq_false At]
   ·rw [Array.getElem?_eq_none (by rw [I.size];omega),Array.getElem?_eq_none (by simp;omega)]
  have hlen:fuel=(ops.toList.drop T).length:=by
   rw [←hc,nu]
   simp only [List.length_drop,Array.length_toList,List.filter_map,List.length_map]
   have key:∀n,T≤n->((List.range n).filter ((fun x=>x == false) ∘ (decide<| · <T))).length=n-T:=by
    intro n hn
    induction n with
    | zero=>simp
    | succ n ih =>
     rw [List.range_succ,List.filter_append,List.length_append]
     by_cases Pm:T≤n
     ·rw [ih Pm]
      have:((fun x=>x == false) ∘ (decide<| · <T)) n=true:=by simp;omega
      rw [List.filter_cons_of_pos this];simp;omega
     ·obtain rfl:T=n+1:=aj
      have h1:(List.range n).filter ((fun x=>x == false) ∘ (decide<| · <n+1))= []:=by
       rw [List.filter_eq_nil_iff];intro x hx;have:=List.mem_range.1 hx;simp;omega
      have h2:[n].filter ((fun x=>x == false) ∘ (decide<| · <n+1))= []:=by
       rw [List.filter_eq_nil_iff];intro x hx;simp at hx;subst hx;simp
      rw [h1,h2];simp
   exact key ops.size aj
  rw [hlen]
  refine wpAny_of_seq (ops.toList.drop T) T listed a' w' (fun j=>by rw [List.getElem?_drop];simp) ?_ (done listed a' w' g I hJ all tail)
  rw [nu]
  simpa using O5
 intro fuel
 induction fuel with
 | zero =>
  intro listed a' w' g I hJ tail hc
  refine rest 0 listed a' w' g I hJ tail hc fun k hk=>?_
  cases hx:listed.getD k false with
  | true=>rfl
  | false =>
   exfalso
   have iF:k<listed.size:=by rw [I.size];omega
   have:false∈listed.toList.filter (· == false):=by
    refine List.mem_filter.2 ⟨?_,rfl⟩
    have h1:listed.toList[k]?=some false:=by simp [iF] at hx ⊢;exact hx
    exact List.mem_of_getElem? h1
   have:=List.length_pos_of_mem this
   omega
 | succ fuel ih =>
  intro listed a' w' g I hJ tail hc
  by_cases hex:∀k,k<T->listed.getD k false=true
  ·exact rest (fuel+1) listed a' w' g I hJ tail hc hex
  have OX:∃k,k<T∧listed.getD k false=false:=by
   refine Classical.byContradiction fun gb=>hex fun k hk=>?_
   cases hx:listed.getD k false with
   | true=>rfl
   | false=>exact absurd ⟨k,hk,hx⟩ gb
  obtain ⟨k0,xJ,HK⟩:=OX
  have PJ:HeadInv .any ops T listed:=⟨I.size,fun j oj hj hl e he hb=>I.closed j oj hl hj e.on (by
    unfold bk
    exact List.mem_map.2 ⟨e,List.mem_filter.2 ⟨by simpa using he,hb⟩,rfl⟩),fun t ht O4=>getD_in (by rw [I.size];exact O4) (tail t ht)⟩
  have H8:listed.getD k0 true=false:=getD_in (by rw [I.size];omega) HK
  refine ⟨fun hr=>(by
   obtain ⟨i,_,hi⟩:=kt listed a' w' g I k0 xJ HK
   rw [hr] at hi;cases hi),fun i hi=>?_⟩
  have Ps:i<T:=Classical.byContradiction fun h=>tail_waits JC vz hT PJ _ k0 rfl xJ H8 i aj hi
  obtain ⟨h0,o,ho,gh⟩:=mem_ready.1 hi
  have H9:i<listed.size:=by rw [I.size];exact (Array.getElem?_eq_some_iff.1 ho).1
  have Of:listed.getD i false=false:=by simp [H9] at h0 ⊢;exact h0
  have i9:∀d∈bk o,listed.getD d false=true:=by
   intro d hd
   unfold bk at hd
   obtain ⟨e,he,rfl⟩:=List.mem_map.1 hd
   obtain ⟨LK,KI⟩:=List.mem_filter.1 he
   exact gh e (by simpa using LK) KI
  have next:∀v fp g',Below w'.heap.size w' fp->St i g w' g' fp->F g' i v fp->Inv ops (F g') a w (listed.setIfInBounds i true) (a'.put o.dst v) fp:=by
   intro v fp g' hb dL hF
   have lists:∀k,(listed.setIfInBounds i true).getD k false=true->k=i∨listed.getD k false=true:=by
    intro k hk
    by_cases su:i=k
    ·exact .inl su.symm
    ·right;rw [getD_set_ne false su] at hk;exact hk
   have diff:∀k,listed.getD k false=true->i≠k:=fun k hk e=>by subst e;rw [Of] at hk;cases hk
   refine ⟨I.grown.pB hb,by simpa using I.size,?_,(pI ..).trans I.ze,(put_defers ..).trans I.sH,?_,?_,?_⟩
   ·intro k p hk hp d hd
    rcases lists k hk with rfl|hk
    ·rw [ho] at hp;injection hp with hp;subst hp
     exact getD_set_true (i9 d hd)
    ·exact getD_set_true (I.closed k p hk hp d hd)
   ·intro k p s hk hp hs
    rcases lists k hk with rfl|hk
    ·rw [ho] at hp;injection hp with hp;subst hp
     refine ⟨v,?_,hF⟩
     rw [hs]
     exact mc a' s v (by rw [I.ze,dq];exact vg k _ s ho hs)
    ·obtain ⟨u,hu,Sa⟩:=I.val k p s hk hp hs
     refine ⟨u,?_,mono i k u g g' w' fp (diff k hk) hb dL Sa⟩
     rw [gY a' o.dst s v fun he=>?_]
     ·exact hu
     ·have:=n0 im ho hp he hs
      subst this
      rw [Of] at hk;cases hk
   ·intro k p hk hp hs
    rcases lists k hk with rfl|hk
    ·exact ⟨v,hF⟩
    ·obtain ⟨u,hu⟩:=I.DQ k p hk hp hs
     exact ⟨u,mono i k u g g' w' fp (diff k hk) hb dL hu⟩
   ·intro s hs
    rw [gY a' o.dst s v (hs i o (by simp [H9]) ho)]
    exact I.old s fun k p hk hp=>hs k p (getD_set_true hk) hp
  have nq:∀j,T≤j->(listed.setIfInBounds i true).getD j false=false:=fun j hj=>by rw [getD_set_ne false aj];exact tail j hj
  have nt:((listed.setIfInBounds i true).toList.filter (· == false)).length=fuel:=by
   have Po:((listed.setIfInBounds i true).toList.filter (· == false)).length+1=(listed.toList.filter (· == false)).length:=by
    rw [Array.toList_setIfInBounds]
    have jd:listed.toList[i]?=some false:=by simp [H9] at h0 ⊢;exact h0
    exact pe _ i jd
   omega
  have iN:=vf i o Ps ho g a' w' I.grown hJ I.ze (fun d hd=>by
   have hl:=i9 d hd
   cases hp:ops[d]? with
   | none =>
    have qt:d<listed.size:=by
     rcases Nat.lt_or_ge d listed.size with h|h
     ·exact h
     ·simp [Array.getElem?_eq_none h] at hl
    rw [I.size] at qt
    rw [Array.getElem?_eq_getElem qt] at hp;cases hp
   | some p =>
    cases hs:p.dst with
    | none=>exact .inr ⟨p,rfl,hs⟩
    | some s =>
     left
     obtain ⟨u,hu,hF⟩:=I.val d p s hl hp hs
     unfold rH
     rw [hp]
     simp only [Option.bind_some,hs]
     simp [hu];exact hF) (fun s hs=>by
   show a'.tmps.getD s undef=a.tmps.getD s undef
   have:a'.tmps[s]?=a.tmps[s]?:=I.old s fun k p hk hp hd=>by
    have vw:k<T:=Classical.byContradiction fun h=>(by have:=tail k (Nat.le_of_not_lt h);rw [this] at hk;cases hk)
    exact hs k p vw hp hd
   simp [this])
  unfold gP at iN
  unfold wpOp
  rw [ho]
  simp only
  by_cases hw:Region.wanted o (yielded ops a'.tmps)=true
  ·rw [if_pos hw] at iN ⊢
   left
   exact Oper.wp_mono (fun rC fp ⟨v,he,hb,g',dL,M4,hF⟩=>by
    subst he
    exact ih _ _ _ _ (next v fp g' hb dL hF) M4 nq nt) iN
  ·rw [if_neg hw] at iN ⊢
   obtain ⟨g',dL,M4,hF⟩:=iN
   exact ih _ _ _ _ (next undef w' g' (Below.refl _ _) dL hF) M4 nq nt
end
def yG (P:Program) (s:AS) (o:Oper) (x:AV) (C:List Prop):Prop :=
 bx C-> ∀S0 w0 n O a w φ Q (b:Act),aG S0 w0 n O s a w φ->(∀g∈O,g<w.heap.size)->b.tmps=a.tmps->o.wp P b w (fun b' w'=>∃v,b'=b.put o.dst v∧Below w.heap.size w w'∧Den (az s.H φ) (aM S0 w' φ O) w' v x) Q
section
variable {P:Program} {s:AS} {o:Oper} {h:Hint} {r:AV×List Prop}
theorem rX (hp:c_ P s o r.1 r.2):yG P s o r.1 r.2:=by
 intro hC S0 w0 n O a w φ Q b hs _ hb
 obtain ⟨v,ct,dM⟩:=hp hC S0 w0 n O a w φ hs
 rw [←eC hb] at ct
 exact cR ct ⟨v,rfl,Below.refl _ _,dM⟩
theorem kG {S0:bm} {w0 w w':World} {n:Nat} {O:List Nat} {a:Act} {φ:Nat->Option Nat} (hs:aG S0 w0 n O s a w φ) (hO:∀g∈O,g<w.heap.size) (hb:Below w.heap.size w w') (b:Nat) (h:aM S0 w φ O b∨(w.heap.size≤b∧b<w'.heap.size)):aM S0 w' φ O b:=by
 rcases h with h|⟨h1,h2⟩
 ·exact ⟨by have:=h.1;have:=hb.size;omega,h.2⟩
 ·exact ⟨h2,fun hm=>by have:=hO b hm;omega,fun i hi=>by have:=(hs.cU i b hi).2;omega,hs.new b (.inl (by have:=hs.cV.size;omega))⟩
theorem DX {S0:bm} {w0 w:World} {n:Nat} {O:List Nat} {a:Act} {φ:Nat->Option Nat} (hs:aG S0 w0 n O s a w φ) (z:Nat):∀(parts:List (Nat×Operand)) (i:Nat) (cells:List AV) (cur:Array Value),fW s z i parts=some cells->dR cells=true->i*z+parts.length*z=cur.size ->
  cells.length=parts.length*z∧ ∃us:Array Value,Instr.fill (fun i=>some (i*z,z)) cur (parts.map fun p=>(p.1,a.eval p.2))=some us∧us.size=cur.size∧(∀j,j<i*z->us[j]?=cur[j]?)∧ ∀(j:Nat) u x,us[i*z+j]?=some u->cells[j]?=some x->cA (aM S0 w φ O) w u x
 | [],i,cells,cur,hc,hp,dq=>by cases hc;exact ⟨by simp,cur,rfl,rfl,fun _ _=>rfl,fun j u x _ hx=>by simp at hx⟩
 | (j,x)::l,i,cells,cur,hc,hp,dq=>by
  simp only [fW] at hc
  split at hc
  ·rename_i c m MI KK hm
   split at hc
   ·rename_i KJ
    cases hc
    have MI:=Nat.eq_of_beq_eq_true MI
    have KJ:=Nat.eq_of_beq_eq_true KJ
    subst MI
    obtain ⟨vs,hv,hlen,dM⟩:=lW (hs.bp x) KK
    have Rn:dR m=true:=by
     have key:∀(c m:List AV),dR (c++m)=true->dR m=true:=by
      intro c
      induction c with
      | nil=>intro m h;exact h
      | cons y c ih =>
       intro m h
       simp only [List.cons_append,dR] at h
       split at h
       ·exact ih m h
       ·cases h
     exact key c m hp
    simp only [List.length_cons] at dq
    have Kt:(l.length+1)*z=l.length*z+z:=by rw [Nat.add_mul,Nat.one_mul]
    have dD:(i+1)*z=i*z+z:=by rw [Nat.add_mul,Nat.one_mul]
    have Ia:((a.eval x).cells.zipIdx.foldl (fun cs (cj:Value×Nat)=>cs.setIfInBounds (i*z+cj.2) cj.1) cur)=(vs.zipIdx.foldl (fun cs (cj:Value×Nat)=>cs.setIfInBounds (i*z+cj.2) cj.1) cur):=by rw [hv];simp
    obtain ⟨Gb,us,Ff,HO,HN,Mz⟩:=DX hs z l (i+1) m (vs.zipIdx.foldl (fun cs (cj:Value×Nat)=>cs.setIfInBounds (i*z+cj.2) cj.1) cur) hm Rn (by rw [jf];omega)
    rw [jf] at HO
    refine ⟨by rw [List.length_append,List.length_cons,Gb,KJ];omega,us,?_,HO,fun j hj=>?_,fun j u y hu hy=>?_⟩
    ·rw [List.map_cons]
     unfold Instr.fill
     simp only
     have OV:(a.eval x).cells.size=z:=by rw [hv];simp;omega
     rw [if_neg (by rw [OV];simp;omega),Ia]
     exact Ff
    ·rw [HN j aj,kj,if_neg aj]
    ·by_cases hj:j<z
     ·rw [HN _ aj,kj,if_pos aj] at hu
      rw [List.getElem?_append_left aj] at hy
      have Rd:vs[j]?=some u:=by rw [←hu];congr 1;omega
      exact (eE (dM j u y Rd hy) (iz (l:=c++m) (j:=j) hp (by rw [List.getElem?_append_left aj];exact hy))).1
     ·rw [List.getElem?_append_right aj] at hy
      refine Mz (j-z) u y ?_ (by rw [←hy,KJ])
      rw [←hu];congr 1;omega
   ·cases hc
  ·cases hc
theorem uD {c:Callee} {xs:Array Operand} {ts:Array TypeId} {f:FuncId} {args:List AV} {x:AV} {C:List Prop} (ho:o.op= .call ⟨c,xs,ts⟩) (hc:callee s c=some f) (hE:ia P f=true) (nr:bx C->bK P f args x) (hl:args.length=xs.toList.length)
  (hG:bx C-> ∀S0 w0 n O a w φ,aG S0 w0 n O s a w φ-> ∃S:Nat->Prop,(∀b,S b->b<w.heap.size)∧(∀(j:Nat) v y,(xs.toList.map a.eval)[j]?=some v->args[j]?=some y->cA S w v y)∧ ∀w' v O',sF (fun b=>S b∨(w.heap.size≤b∧b<w'.heap.size∧b ∉ O')) w' v x O'->sF (fun b=>aM S0 w φ O b∨(w.heap.size≤b∧b<w'.heap.size∧b ∉ O')) w' v x O'):yG P s o (Og x) C:=by
 intro hC S0 w0 n O a w φ Q b hs hO hb
 have ct:=jj (P:=P) hs hc ho hE
 rw [←eC hb] at ct
 obtain ⟨S,hS,iC,uy⟩:=hG hC S0 w0 n O a w φ hs
 unfold Oper.wp
 rw [ct]
 have mJ:=nr hC w S (xs.toList.map a.eval) hs.cV.mw hS (by simp [hl]) iC
 have e:(xs.toList.map a.eval).toArray=xs.map b.eval:=by rw [eC hb];apply Array.ext';simp
 rw [e] at mJ
 refine mJ.mono ?_
 rintro en w' ⟨v,O',rfl,pr,im,mo,hg⟩
 refine ⟨v,rfl,pr,.rep (Ir (fun b hb=>?_) (fun g hg=>?_) (uy w' v O' hg))⟩
 ·exact kG hs hO pr b (hb.imp id fun h=>⟨h.1,h.2.1⟩)
 ·exact kG hs hO pr g (.inr (mo g hg))
theorem uT (hr:rj P s o h=some r):yG P s o r.1 r.2:=by
 unfold rj at hr
 split at hr
 ·rename_i t len parts ho
  split at hr
  ·rename_i el hu
   split at hr
   ·rename_i z zero hz hzero
    split at hr
    ·rename_i cells dF hlen AE uo
     split at hr
     ·rename_i hp
      cases hr
      intro hC S0 w0 n O a w φ Q b hs hO hb
      have hlen:=Nat.eq_of_beq_eq_true hlen
      have AE:len*(z+1)≤16777216:=Nat.le_of_ble_eq_true AE
      have hn:(named h cells).1=cells:=(gZ (C:=[]) (by rw [List.append_nil];exact hC)).1
      obtain ⟨h1,us,h2,h3,-,h4⟩:=DX hs (z+1) parts.toList 0 cells ((Array.range (len*(z+1))).map (zero.cells[· %zero.cells.size]!)) dF hp (by simp [←hlen])
      have hm:len≤maxLen:=by
       have:len≤len*(z+1):=Nat.le_mul_of_pos_right _ aj
       unfold maxLen;omega
      have ct:(execOp b.eval o).run P w= .ok (.value (.slice (some ⟨w.heap.size,0,none⟩) len len)) {w with heap:=w.heap.push (.cells us el (0,0))}:=by
       have Ar:(sizeOf el).run P w= .ok (z+1) w:=run_sizeOf hz
       have oG:(parts.map fun p=>(p.1,a.eval p.2)).toList=parts.toList.map fun p=>(p.1,a.eval p.2):=by simp
       rw [eC hb]
       unfold execOp
       simp only [ho,Instr.buildSlice,Sem.run_bind,run_underlying hu,Result.andThen_ok,Ar,Sem.run_ite]
       rw [if_neg aj]
       by_cases h0:len*(z+1)=0
       ·rw [if_pos h0]
        simp only [Sem.run_pure,Result.andThen_ok]
        have:(Array.range (len*(z+1))).map (fun x=>(#[]:Array Value)[x%(#[]:Array Value).size]!)=(Array.range (len*(z+1))).map (fun x=>zero.cells[x%zero.cells.size]!):=by rw [h0,ij,ij]
        rw [this,oG,h2]
        rfl
       ·rw [if_neg h0]
        simp only [iM hzero,Result.andThen_ok,Sem.run_pure]
        rw [oG,h2]
        rfl
      have pr:Below w.heap.size w {w with heap:=w.heap.push (.cells us el (0,0))}:=⟨rfl,rfl,rfl,by simp,fun k hk=>cJ w _ k hk⟩
      have gC:cells.length=(z+1)*len:=by rw [h1,hlen,Nat.mul_comm]
      refine cR ct ⟨_,rfl,pr,?_⟩
      simp only [hn]
      refine .rep (eX (r:=⟨z+1,true,false,cells⟩) (dE w _) (kG hs hO pr _ (.inr ⟨Nat.le_refl _,by simp⟩)) cells 0 (by rw [h3,gC];simp [Nat.mul_comm]) gC (Nat.le_refl _) hm _ (fun _=>rfl) (fun j u x hu hx=>?_))
      exact (h4 j u x (by simpa using hu) hx).mono fun b hb=>⟨kG hs hO pr b (.inl hb),cJ w _ b hb.1⟩
     ·cases hr
    ·cases hr
   ·cases hr
  ·cases hr
 ·rename_i t l c ho
  split at hr
  ·rename_i kl L kc C el hl hc hu
   split at hr
   ·rename_i i hi
    split at hr
    ·rename_i zero z hz dq
     split at hr
     ·rename_i hb
      cases hr
      have hb:=Nat.eq_of_beq_eq_true hb
      intro hC S0 w0 n O a w φ Q b hs hO Ge
      obtain ⟨Kz,hC⟩:=gZ hC
      obtain ⟨h1,h2,h3,h4,h5,-⟩:=hC
      have LP:b.eval l= .int kl L:=by rw [eC Ge];exact bJ (hl ▸ hs.bp l)
      have ec:b.eval c= .int kc C:=by rw [eC Ge];exact bJ (hc ▸ hs.bp c)
      obtain ⟨cur,ct,wE,bu⟩:=run_make ho LP ec hu hi hz dq hb h1 h2 h3 h4 h5 w
      have pr:Below w.heap.size w {w with heap:=w.heap.push (.cells cur el (0,0))}:=⟨rfl,rfl,rfl,by simp,fun k hk=>cJ w _ k hk⟩
      have F6:(zero.cells.toList.map bB).length=z+1:=by simp [hb]
      have F9:=s9 (zero.cells.toList.map bB) (z+1) F6 h.k
      have hle:(z+1)*h.k≤(z+1)*h.m:=Nat.mul_le_mul_left _ h3
      refine cR ct ⟨_,rfl,pr,?_⟩
      simp only [Kz]
      refine .rep (eX (r:=⟨z+1,true,false,s_ (zero.cells.toList.map bB) h.k⟩) (dE w _) (kG hs hO pr _ (.inr ⟨Nat.le_refl _,by simp⟩)) _ 0 (by rw [F9,wE];omega) F9 h3 h5 _ (fun _=>rfl) (fun j u x hu hx=>?_))
      have h6:=wV _ (z+1) F6 aj _ _ _ hx
      have h7:=bu j u (by simpa using hu)
      rw [List.getElem?_map] at h6
      have h8:zero.cells.toList[j%(z+1)]?=some u:=by simpa using h7
      rw [h8] at h6;injection h6 with h6;subst h6;exact fP u
     ·cases hr
    ·cases hr
   ·cases hr
  ·cases hr
 ·exact rX (kK hr)
 ·rename_i c xs ts _ ho
  split at hr
  ·rename_i f x hc _
   split at hr
   ·rename_i hE _
    split at hr
    ·rename_i vs C hv vh
     cases hr
     refine uD ho hc hE (fun hC=>hC.1) ?_ fun hC S0 w0 n O a w φ hs=>?_
     ·have key:∀(l:List AV) (m:List AV),jM s l=some m->m.length=l.length:=by
       intro l
       induction l with
       | nil=>intro m h;cases h;rfl
       | cons y l ih =>
        intro m h
        simp only [jM] at h
        split at h
        ·rename_i y' m' _ hm
         cases h
         simp [ih m' hm]
        ·cases h
      rw [key _ _ hv];simp
     ·exact ⟨fun b=>b<w.heap.size,fun _ h=>h,(lE hs _ _ hv).2,fun w' v _ hg=>sU vh hC.2 hg⟩
    ·cases hr
   ·rename_i hE _
    split at hr
    ·rename_i vv
     cases hr
     refine uD ho hc hE (fun hC=>hC.1) (by simp) fun hC S0 w0 n O a w φ hs=>⟨aM S0 w φ O,fun b hb=>hb.1,fun j v x hv hx=>?_,fun w' v _ hg=>hg⟩
     have MC:=lJ vv hx
     rw [List.getElem?_map] at hv hx
     cases hj:xs.toList[j]? with
     | none=>rw [hj] at hv;cases hv
     | some y =>
      rw [hj] at hv hx
      injection hv with hv;injection hx with hx;subst hv;subst hx
      exact nL (hs.bp y) MC
    ·cases hr
   ·cases hr
  ·cases hr
 ·exact rX (kK hr)
end
section
variable {P:Program} {ops:List Oper} {S0:bm} {w0:World} {Q:Exit->Act->World->Prop}
theorem II {s:AS} {o:Oper} {h:Hint} {r:AV×List Prop} (hr:sy P ops s o h=some r) (hC:bx r.2) {n:Nat} {O:List Nat} {a b:Act} {w:World} {φ:Nat->Option Nat} (hs:aG S0 w0 n O s a w φ) (hO:∀g∈O,g<w.heap.size) (hb:b.tmps=a.tmps) :
  gP P ops.toArray Q o b w fun v w'=>w.heap.size≤w'.heap.size∧Den (az s.H φ) (aM S0 w' φ O) w' v r.1:=by
 unfold sy at hr
 unfold gP
 split at hr
 ·rename_i hg
  have hw:Region.wanted o (yielded ops.toArray b.tmps)=true:=by unfold Region.wanted;rw [hg]
  rw [if_pos hw]
  exact Oper.wp_mono (fun b' w' ⟨v,h1,h2,h3⟩=>⟨v,h1,h2,h2.size,h3⟩) (uT hr hC S0 w0 n O a w φ Q b hs hO hb)
 ·rename_i j want hg
  split at hr
  ·rename_i p hp
   split at hr
   ·rename_i d hd
    split at hr
    ·rename_i bb q6
     have ht:=hs.get d
     rw [q6] at ht
     have hy:=l4 (ops:=ops) hp hd (qg ht)
     rw [←hb] at hy
     split at hr
     ·rename_i jS
      split at hr
      ·rename_i x C he
       cases hr
       obtain ⟨AF,hC⟩:=hC
       have hw:Region.wanted o (yielded ops.toArray b.tmps)=true:=by
        unfold Region.wanted;rw [hg];simp only [hy,AF]
        have:h.g=want:=by simpa using jS
        rw [this];simp
       rw [if_pos hw]
       exact Oper.wp_mono (fun b' w' ⟨v,h1,h2,h3⟩=>⟨v,h1,h2,h2.size,h3⟩) (uT he hC S0 w0 n O a w φ Q b hs hO hb)
      ·cases hr
     ·rename_i jS
      cases hr
      obtain ⟨AF,-⟩:=hC
      have hw:¬Region.wanted o (yielded ops.toArray b.tmps)=true:=by
       unfold Region.wanted;rw [hg];simp only [hy,AF]
       have:¬h.g=want:=by simpa using jS
       simpa using this
      rw [if_neg hw]
      exact ⟨Nat.le_refl _,.rep (.val _)⟩
    ·rename_i arr q6
     have ht:=hs.get d
     rw [q6] at ht
     have hy:=l3 (ops:=ops) hp hd (bJ ht)
     rw [←hb] at hy
     cases hr
     have hw:¬Region.wanted o (yielded ops.toArray b.tmps)=true:=by
      unfold Region.wanted;rw [hg];simp [hy]
     rw [if_neg hw]
     exact ⟨Nat.le_refl _,.rep (.val _)⟩
    ·cases hr
   ·cases hr
  ·cases hr
end
def vL (s:AS):List (Nat×AV)->List (Nat×AV)
 | []=>[]
 | (i,x)::l=>(i,(view s x).getD .dead)::vL s l
theorem ud (s:AS):∀(l:List (Nat×AV)) (i:Nat),look (vL s l) i=(look l i).map fun x=>(view s x).getD .dead
 | [],i=>rfl
 | (k,x)::l,i=>by
  simp only [vL,aD,ud s l i]
  by_cases h:k=i<;>simp [h]
section
variable {P:Program} {n:Nat} {s:AS} {o:Oper} {h:Hint} {S0:bm} {w0 w:World} {O:List Nat} {a b:Act} {φ:Nat->Option Nat}
theorem Gp (hs:aG S0 w0 n O s a w φ):aG ⟨fun _=>True,fun _=>False,fun _=>none,a.defers⟩ w n [] ⟨vL s s.F,[]⟩ a w (fun _=>none) where
 jL:=hs.jL
 jO:=rfl
 cV:=⟨rfl,rfl,rfl,Nat.le_refl _,fun _ _ _=>rfl,hs.cV.mw,fun _ _ h=>h⟩
 cB:=fun i av hi=>by
  have hi:look (vL s s.F) i=some av:=hi
  rw [ud] at hi
  cases hl:look s.F i with
  | none=>rw [hl] at hi;cases hi
  | some x =>
   rw [hl] at hi;injection hi with hi;subst hi
   show Den _ _ _ _ ((view s x).getD .dead)
   cases hv:view s x with
   | none=>exact .dead _
   | some y =>
    refine .rep ((wX hs (hs.cB i x hl) hv).mono ?_)
    intro b hb
    exact ⟨⟨hb,by simp,fun _ h=>(by cases h),trivial⟩,rfl⟩
 rows:=fun id r hr=>by cases hr
 only:=fun _ _=>rfl
 inj:=fun _ _ _ h=>by cases h
 cU:=fun _ _ h=>by cases h
 apart:=fun _ _ h=>by cases h
 new:=fun _ _=>trivial
theorem EH {K:Act->World->Prop} {Q:Exit->Act->World->Prop} (h:o.wp P a w K (fun _ _ _=>False)) (hK:∀a' w',K a' w'->a'.defers=a.defers) (hb:b.tmps=a.tmps):o.wp P b w (fun b' w'=>∃v,b'=b.put o.dst v∧K (a.put o.dst v) w') Q:=by
 unfold Oper.wp at *
 rw [eC hb]
 generalize (execOp a.eval o).run P w=r at *
 cases r with
 | halt x w'=>cases x with
  | panic v=>exact h.elim
  | _=>exact h
 | ok x w'=>cases x with
  | value v=>exact ⟨v,rfl,h⟩
  | skip=>exact ⟨undef,rfl,h⟩
  | enter f args =>
   refine Calls.mono h fun e fp he=>?_
   cases e with
   | returned v=>exact ⟨v,rfl,he⟩
   | panicked c=>exact he.elim
   | outgrown=>obtain ⟨_,_,hf⟩:=he;exact hf.elim
  | defer d =>
   have:=congrArg List.length (hK _ _ h)
   rw [pc] at this
   simp at this
  | row r args=>exact Rows.mono h fun v fp he=>⟨v,rfl,he⟩
  | _=>exact h
def x7 (P:Program) (n:Nat) (s:AS) (o:Oper) (h:Hint):Option (AV×List Prop) :=
 match o.guard,o.dst with
 | none,some d=>(match A7 P n ⟨vL s s.F,[]⟩ o h with
  | some (s',C)=>(match look s'.F d,look s'.H d with
   | some (.ref d'),some ⟨e,true,_,row⟩=>(match Nat.beq d' d with|true=>some (.own e row,C++ [ld row])|false=>none)
   | _,_=>none)
  | none=>none)
 | _,_=>none
theorem FD {Q:Exit->Act->World->Prop} {ops:Array Oper} {x:AV} {C:List Prop} (hr:x7 P n s o h=some (x,C)) (hC:bx C) (hs:aG S0 w0 n O s a w φ) (hb:b.tmps=a.tmps) :
  (∃e row,x= .own e row)∧gP P ops Q o b w fun v w'=>∃O',hY (fun _=>False) w' v x O'∧O'.Nodup∧ ∀g∈O',w.heap.size≤g∧g<w'.heap.size:=by
 unfold x7 at hr
 split at hr
 ·rename_i d hg hd
  split at hr
  ·rename_i s' C' vf
   split at hr
   ·rename_i d' e fl row hF hH
    split at hr
    ·rename_i RP
     cases hr
     have RP:=Nat.eq_of_beq_eq_true RP
     subst RP
     obtain ⟨PL,hv,-⟩:=bQ.1 hC
     refine ⟨⟨e,row,rfl⟩,?_⟩
     have hw:Region.wanted o (yielded ops b.tmps)=true:=by unfold Region.wanted;rw [hg]
     unfold gP
     rw [if_pos hw]
     have key:=nU vf PL ⟨fun _=>True,fun _=>False,fun _=>none,a.defers⟩ w a w (fun _ _ _=>False) ⟨_,Gp hs⟩
     refine Oper.wp_mono ?_ (EH (Q:=Q) key (fun a' w' ⟨_,bZ⟩=>bZ.jO) hb)
     rintro b' w' ⟨v,rfl,cz,bZ⟩
     refine ⟨v,rfl,bZ.cV.below (fun _ h=>h),?_⟩
     have dq:d'<a.tmps.size:=by
      rcases Nat.lt_or_ge d' a.tmps.size with h|h
      ·exact h
      ·exfalso
       have dM:=bZ.cB d' _ hF
       have uu:(a.put o.dst v).tmps.getD d' undef=undef:=by
        have:(a.put o.dst v).tmps.size≤d':=by rw [tr];exact h
        simp [Array.getElem?_eq_none this]
       rw [uu] at dM
       cases dM with
       | rep h=>cases h
     have jH:(a.put o.dst v).tmps.getD d' undef=v:=by rw [hd,pJ a d' d' v dq,if_pos rfl]
     have dM:=bZ.cB d' _ hF
     rw [jH] at dM
     have aN:=bZ.rows d' _ hH
     have ns:=bq (φ:=cz) hH
     unfold bN at aN
     cases dM with
     | rep h=>cases h
     | ref id e' m g l c hi hm hc hx gC =>
      rw [ns] at hi
      simp only [Option.some.injEq,Prod.mk.injEq] at hi
      obtain ⟨he,l0,cp⟩:=hi
      subst he;subst l0
      rw [cp] at aN
      obtain ⟨cur,te,fr,Ti,gH,hle,mI,dF⟩:=aN
      have wE:cur.size=e*c:=by unfold aV at gC;rw [Ti] at gC;exact gC
      refine ⟨[g],.own g l c e row cur te fr Ti gH hm hc hx wE (fun j u x hu hx=>?_),by simp,fun g' i6=>by simp at i6;subst i6;exact ⟨(bZ.cU _ _ cp).1.2.elim id fun h=>h.elim,(bZ.cU _ _ cp).2⟩⟩
      obtain ⟨v',rfl⟩:=hv x (List.mem_of_getElem? hx)
      have:=dF j u _ hu hx
      have this:cA _ w' u (.val v'):=this
      cases this
      exact .val _
     | cC id e' hi =>
      rw [ns] at hi
      simp only [Option.some.injEq,Prod.mk.injEq] at hi
      obtain ⟨he,l0,cp⟩:=hi
      have:row= []:=List.eq_nil_of_length_eq_zero l0
      subst this
      exact ⟨[],.nil e,by simp,by simp⟩
    ·cases hr
   ·cases hr
  ·cases hr
 ·cases hr
end
def mZ:AV->AV
 | .own _ _=>.dead
 | .box _=>.dead
 | x=>x
def qa (P:Program) (n:Nat) (s:AS) (ds:List Nat) (ops:List Oper) (hs:List (Nat×Hint)) (Ks:List Nat):List Oper->Nat->List AV->Option (List AV×List Prop)
 | [],_,gN=>some (gN,[])
 | o::l,i,gN=>match (match Ks.any (Nat.beq i) with
   | true=>x7 P n (vB s ds ops (gN.map mZ) o) o (gv hs i)
   | false=>sy P ops (vB s ds ops (gN.map mZ) o) o (gv hs i)) with
  | some (x,C)=>(match qa P n s ds ops hs Ks l (i+1) (gN++ [x]) with|some (i4,D)=>some (i4,C++D)|none=>none)
  | none=>none
def i5:List Oper->List AV->List (Nat×Nat×List AV)
 | o::l,.own e row::m=>(match o.dst with|some d=>(d,e,row)::i5 l m|none=>i5 l m)
 | _::l,_::m=>i5 l m
 | _,_=>[]
def Dl:AS->List (Nat×Nat×List AV)->AS
 | s,[]=>s
 | s,(d,e,row)::l=>Dl ⟨(d,.ref d)::s.F,(d,⟨e,true,false,row⟩)::s.H⟩ l
def lR (s:AS):List (Nat×Nat×List AV)->Bool
 | []=>true
 | (d,_,_)::l=>match look s.H d,Nat.ble d 999999999999 with|none,true=>lR s l|_,_=>false
def ye (P:Program) (n T:Nat) (Ks:List Nat) (ops:List Oper) (hs:List (Nat×Hint)) (s:AS):Option (AS×List Prop) :=
 match P.follows .mixedOrders,ly ops.toArray n,oy ops.toArray T with
 | true,true,true=>(match qa P n s ((ops.take T).filterMap (·.dst)) ops hs Ks (ops.take T) 0 [] with
  | some (gN,C)=>(match lR s (i5 (ops.take T) gN),jV P n ops hs (ops.drop T) T (Dl ⟨i7 (ops.take T) (gN.map mZ)++nn ((ops.take T).filterMap (·.dst)) s.F,s.H⟩ (i5 (ops.take T) gN)) with
   | true,some (s',D)=>some (s',C++D)
   | _,_=>none)
  | none=>none)
 | _,_,_=>none
theorem r6 {P:Program} {n:Nat} {ops:List Oper} {s:AS} {ds:List Nat} {hs:List (Nat×Hint)} {Ks:List Nat}:∀(l:List Oper) (i:Nat) (gN i4:List AV) (C:List Prop),qa P n s ds ops hs Ks l i gN=some (i4,C)->bx C->gN.length=i ->
  i4.length=i+l.length∧i4.take i=gN∧ ∀(j:Nat) (o:Oper),l[j]?=some o-> ∃x D,i4[i+j]?=some x∧bx D∧(x7 P n (vB s ds ops ((i4.take (i+j)).map mZ) o) o (gv hs (i+j))=some (x,D)∨sy P ops (vB s ds ops ((i4.take (i+j)).map mZ) o) o (gv hs (i+j))=some (x,D))
 | [],i,gN,i4,C,he,hC,hl=>by
  cases he
  exact ⟨by simp [hl],by rw [←hl,List.take_length],fun j o h=>by simp at h⟩
 | o::l,i,gN,i4,C,he,hC,hl=>by
  simp only [qa] at he
  split at he
  ·rename_i x C1 h1
   split at he
   ·rename_i Sx D h2
    cases he
    obtain ⟨iH,hD⟩:=bQ.1 hC
    obtain ⟨e1,e2,e3⟩:=r6 l (i+1) (gN++ [x]) i4 D h2 hD (by simp [hl])
    have e4:i4.take i=gN:=by
     have:=congrArg (List.take i) e2
     rw [List.take_take,Nat.min_eq_left aj,←hl,List.take_left] at this
     rw [←hl];exact this
    have e5:i4[i]?=some x:=by
     have h3:(i4.take (i+1))[i]?=some x:=by rw [e2,List.getElem?_append_right aj,hl];simp
     exact bY _ _ _ _ h3
    refine ⟨by rw [e1,List.length_cons];omega,e4,fun j p hp=>?_⟩
    cases j with
    | zero =>
     simp at hp;subst hp
     refine ⟨x,C1,by simpa using e5,iH,?_⟩
     simp only [Nat.add_zero]
     rw [e4]
     split at h1
     ·exact .inl h1
     ·exact .inr h1
    | succ j =>
     obtain ⟨y,D',h5,h6,h7⟩:=e3 j p (by simpa using hp)
     rw [show i+1+j=i+(j+1) by omega] at h5 h7
     exact ⟨y,D',h5,h6,h7⟩
   ·cases he
  ·cases he
theorem j_ (s:AS):∀(L:List (Nat×Nat×List AV)),lR s L=true↔ ∀p∈L,look s.H p.1=none∧p.1<1000000000000
 | []=>by simp [lR]
 | (d,e,row)::L=>by
  simp only [lR]
  split
  ·rename_i h hb
   have hb:=Nat.le_of_ble_eq_true hb
   rw [j_ s L]
   constructor
   ·intro hL p hp
    rcases List.mem_cons.1 hp with rfl|hp
    ·exact ⟨h,by show d<_;omega⟩
    ·exact hL p hp
   ·intro hL p hp;exact hL p (by simp [hp])
  ·rename_i gb
   constructor
   ·intro hf;cases hf
   ·intro hL
    have:=hL (d,e,row) (by simp)
    exact (gb this.1 (by have:=this.2;simp at this;exact Nat.ble_eq_true_of_le aj)).elim
theorem wm:∀(l:List Oper) (m:List AV) (p:Nat×Nat×List AV),p∈i5 l m->p.1∈l.filterMap (·.dst)
 | [],m,p,h=>by cases m<;>simp [i5] at h
 | o::l,[],p,h=>by simp [i5] at h
 | o::l,x::m,p,h=>by
  have step:p∈i5 l m->p.1∈(o::l).filterMap (·.dst):=fun h=>by
   have:=wm l m p h
   rw [List.mem_filterMap] at this ⊢
   obtain ⟨q,h1,h2⟩:=this
   exact ⟨q,by simp [h1],h2⟩
  cases x with
  | own e row =>
   simp only [i5] at h
   split at h
   ·rename_i d hd
    rcases List.mem_cons.1 h with rfl|h
    ·rw [List.mem_filterMap];exact ⟨o,by simp,hd⟩
    ·exact step h
   ·exact step h
  | _=>exact step h
def fy (own:Nat->List Nat):List Oper->List AV->Nat->List Nat
 | o::l,.own _ _::m,i=>(match o.dst with|some _=>own i++fy own l m (i+1)|none=>fy own l m (i+1))
 | _::l,_::m,i=>fy own l m (i+1)
 | _,_,_=>[]
theorem nM (own:Nat->List Nat):∀(l:List Oper) (m:List AV) (i g:Nat),g∈fy own l m i-> ∃k,i≤k∧k<i+l.length∧g∈own k
 | [],m,i,g,h=>by cases m<;>simp [fy] at h
 | o::l,[],i,g,h=>by simp [fy] at h
 | o::l,x::m,i,g,h=>by
  have step:g∈fy own l m (i+1)-> ∃k,i≤k∧k<i+(o::l).length∧g∈own k:=fun h=>by
   obtain ⟨k,h1,h2,h3⟩:=nM own l m (i+1) g h
   exact ⟨k,aj,by simp only [List.length_cons];omega,h3⟩
  cases x with
  | own e row =>
   simp only [fy] at h
   split at h
   ·rcases List.mem_append.1 h with h|h
    ·exact ⟨i,aj,by simp only [List.length_cons];omega,h⟩
    ·exact step h
   ·exact step h
  | _=>exact step h
theorem rS (own:Nat->List Nat) (h1:∀k,(own k).Nodup) (h2:∀j k g,g∈own j->g∈own k->j=k):∀(l:List Oper) (m:List AV) (i:Nat),(fy own l m i).Nodup
 | [],m,i=>by cases m<;>simp [fy]
 | o::l,[],i=>by simp [fy]
 | o::l,x::m,i=>by
  have ih:=rS own h1 h2 l m (i+1)
  cases x with
  | own e row =>
   simp only [fy]
   split
   ·rw [List.nodup_append]
    refine ⟨h1 i,ih,fun g hg g' i6 e=>?_⟩
    subst e
    obtain ⟨k,h3,-,h4⟩:=nM own l m (i+1) _ i6
    have:=h2 i k _ hg h4
    omega
   ·exact ih
  | _=>exact ih
section
variable {S0:bm} {w0 w:World} {n:Nat} {a:Act}
theorem yC (own:Nat->List Nat):∀(l:List Oper) (m:List AV) (i:Nat) (s:AS) (φ:Nat->Option Nat),aG S0 w0 n (fy own l m i) s a w φ ->
  (∀(j:Nat) o e row d,l[j]?=some o->m[j]?=some (.own e row)->o.dst=some d->hY (fun _=>False) w (a.tmps.getD d undef) (.own e row) (own (i+j))) ->
  (fy own l m i).Nodup->(∀g∈fy own l m i,(w0.heap.size≤g∨S0.X g)∧g<w.heap.size)->lR s (i5 l m)=true->(l.filterMap (·.dst)).Nodup ->
  ∃ cz,aG S0 w0 n [] (Dl s (i5 l m)) a w cz
 | [],m,i,s,φ,h,_,_,_,_,_=>by cases m<;>exact ⟨φ,h⟩
 | o::l,[],i,s,φ,h,_,_,_,_,_=>⟨φ,h⟩
 | o::l,x::m,i,s,φ,h,hv,im,mo,gH,MW=>by
  have MV:(l.filterMap (·.dst)).Nodup:=List.Nodup.sublist ((List.sublist_cons_self o l).filterMap _) MW
  have HM:∀(j:Nat) o e row d,l[j]?=some o->m[j]?=some (.own e row)->o.dst=some d->hY (fun _=>False) w (a.tmps.getD d undef) (.own e row) (own (i+1+j)):=fun j p e row d h1 h2 h3=>by
   have:=hv (j+1) p e row d (by simpa using h1) (by simpa using h2) h3
   rwa [show i+(j+1)=i+1+j by omega] at this
  cases x with
  | own e row =>
   cases hd:o.dst with
   | none =>
    have e1:fy own (o::l) (.own e row::m) i=fy own l m (i+1):=by simp only [fy,hd]
    have e2:i5 (o::l) (.own e row::m)=i5 l m:=by simp only [i5,hd]
    rw [e1] at h im mo
    rw [e2] at gH ⊢
    exact yC own l m (i+1) s φ h HM im mo gH MV
   | some d =>
    have e1:fy own (o::l) (.own e row::m) i=own i++fy own l m (i+1):=by simp only [fy,hd]
    have e2:i5 (o::l) (.own e row::m)=(d,e,row)::i5 l m:=by simp only [i5,hd]
    rw [e1] at h im mo
    rw [e2] at gH ⊢
    have MN:=(j_ s _).1 gH
    have hg:=hv 0 o e row d rfl rfl hd
    simp only [Nat.add_zero] at hg
    obtain ⟨iG,h1,h2,-⟩:=l7 (S0:=S0) (w0:=w0) (w:=w) (n:=n) (a:=a) s φ (own i) (fy own l m (i+1)) _ (.own e row) d h (hg.mono fun b hb=>hb.elim) im (fun g hg=>mo g (by simp [hg])) (fun j hj=>by
     simp [jk] at hj;subst hj;exact MN _ (List.mem_cons_self ..)) (by simp [jk])
    have h3:aG S0 w0 n (fy own l m (i+1)) ⟨(d,.ref d)::s.F,(d,⟨e,true,false,row⟩)::s.H⟩ a w iG:=by
     refine ⟨h1.jL,h1.jO,h1.cV,fun j av hj=>?_,h1.rows,h1.only,h1.inj,h1.cU,h1.apart,h1.new⟩
     have hj:look ((d,AV.ref d)::s.F) j=some av:=hj
     rw [aD] at hj
     by_cases RO:d=j
     ·rw [if_pos RO] at hj;injection hj with hj;subst hj;subst RO
      exact h2
     ·rw [if_neg RO] at hj
      exact h1.cB j av hj
    refine yC own l m (i+1) _ iG h3 HM (List.nodup_append.1 im).2.1 (fun g hg=>mo g (by simp [hg])) ?_ MV
    rw [j_]
    intro p hp
    refine ⟨?_,(MN p (by simp [hp])).2⟩
    show look ((d,_)::s.H) p.1=none
    rw [aD]
    have cT:d≠p.1:=fun e=>by
     have:=wm l m p hp
     rw [List.filterMap_cons_some (by simpa using hd)] at MW
     exact (List.nodup_cons.1 MW).1 (by rw [e];exact this)
    rw [if_neg cT]
    exact (MN p (by simp [hp])).1
  | _=>exact yC own l m (i+1) s φ h HM im mo gH MV
theorem hY.grow {w w':World} (hb:Below w.heap.size w w') {v:Value} {x:AV} {O:List Nat} (h:hY (fun _=>False) w v x O):hY (fun _=>False) w' v x O:=by
 cases h with
 | rep h=>exact .rep (h.mono fun b hb=>hb.elim)
 | nil e=>exact .nil e
 | own g l c e row cur te fr hg hf hl hc hm hs h =>
  have dd:g<w.heap.size:=(Array.getElem?_eq_some_iff.1 hg).1
  exact .own g l c e row cur te fr ((hb.block g dd).trans hg) hf hl hc hm hs fun j u x hu hx=>(h j u x hu hx).mono fun b hb=>hb.elim
 | box g row cur te fr hg hf hs h =>
  have dd:g<w.heap.size:=(Array.getElem?_eq_some_iff.1 hg).1
  exact .box g row cur te fr ((hb.block g dd).trans hg) hf hs fun j u x hu hx=>(h j u x hu hx).mono fun b hb=>hb.elim
theorem qv {I:Info} {S:Nat->Prop} {v:Value} {x:AV} (h:Den I S w v x):mZ x=x:=by
 cases x with
 | own e row=>cases h with|rep h=>cases h
 | box row=>cases h with|rep h=>cases h
 | _=>rfl
end
section
variable {P:Program} {ops:List Oper} {S0:bm} {w0:World} {Q:Exit->Act->World->Prop}
def sE (T:Nat) (own:Nat->List Nat):List Nat:=(List.range T).flatMap own
theorem kA {T g:Nat} {own:Nat->List Nat}:g∈sE T own↔ ∃k,k<T∧g∈own k:=by
 unfold sE
 rw [List.mem_flatMap]
 exact ⟨fun ⟨k,h1,h2⟩=>⟨k,List.mem_range.1 h1,h2⟩,fun ⟨k,h1,h2⟩=>⟨k,List.mem_range.2 h1,h2⟩⟩
def G9 (own:Nat->List Nat) (i:Nat) (O:List Nat):Nat->List Nat:=fun k=>if k=i then O else own k
theorem CJ {n T:Nat} {Ks:List Nat} {hs:List (Nat×Hint)} {s s':AS} {C:List Prop} (he:ye P n T Ks ops hs s=some (s',C)) (hC:bx C) {a:Act} {w:World} (f_:iv S0 w0 n s a w) (hQ:∀a' w',iv S0 w0 n s' a' w'->Q .normal a' w'):P.follows .mixedOrders=true∧wpAny P .any ops.toArray Q ops.toArray.size (Array.replicate ops.toArray.size false) a {w with drawn:=w.drawn+1}:=by
 unfold ye at he
 split at he
 ·rename_i hm hB hT
  split at he
  ·rename_i gN C1 Cl
   split at he
   ·rename_i s2 D gH oF
    cases he
    obtain ⟨iH,hD⟩:=bQ.1 hC
    obtain ⟨φ,kT⟩:=f_
    obtain ⟨hlen,-,gT⟩:=r6 _ 0 [] gN C1 Cl iH rfl
    simp only [Nat.zero_add] at hlen gT
    obtain ⟨dd,im,vg⟩:=fT hB
    unfold oy at hT
    simp only [Bool.and_eq_true,decide_eq_true_eq] at hT
    obtain ⟨⟨⟨Gf,KQ⟩,KP⟩,KO⟩:=hT
    have R1:T<ops.length:=by simpa using Gf
    have R0:gN.length=T:=by rw [hlen,List.length_take];omega
    let F:(Nat->List Nat)->Nat->Value->World->Prop:=fun own k v w'=>w.heap.size≤w'.heap.size∧ ∀x,gN[k]?=some x->((∃e row,x= .own e row)∧hY (fun _=>False) w' v x (own k))∨Den (az s.H φ) (aM S0 w' φ (sE T own)) w' v x
    let J:(Nat->List Nat)->World->Prop:=fun own w'=>(∀k,(own k).Nodup)∧(∀j k g,g∈own j->g∈own k->j=k)∧(∀k g,g∈own k->w.heap.size≤g∧g<w'.heap.size)
    let St:Nat->(Nat->List Nat)->World->(Nat->List Nat)->World->Prop:=fun i own w1 tT _=>(∀k,k≠i->tT k=own k)∧ ∀g∈tT i,w1.heap.size≤g
    have ux:∀i k v own tT w1 w2,i≠k->Below w1.heap.size w1 w2->St i own w1 tT w2->F own k v w1->F tT k v w2:=by
     intro i k v own tT w1 w2 LI hb ⟨SD,TP⟩ ⟨h1,h2⟩
     refine ⟨Nat.le_trans h1 hb.size,fun x hx=>?_⟩
     rcases h2 x hx with ⟨e,hg⟩|dM
     ·left;rw [SD k (Ne.symm LI)];exact ⟨e,hg.grow hb⟩
     ·right
      have uu:∀b,aM S0 w1 φ (sE T own) b->b ∉ sE T tT:=fun b hS qX=>by
       obtain ⟨j,hj,JD⟩:=kA.1 qX
       by_cases LH:j=i
       ·subst LH;have:=TP b JD;have:=hS.1;omega
       ·rw [SD j LH] at JD;exact hS.2.1 (kA.2 ⟨j,hj,JD⟩)
      have gC:∀id e m g,az s.H φ id=some (e,m,some g)->aV w2 g=aV w1 g:=fun id e m g hi=>by
       obtain ⟨r,-,-,-,cp⟩:=aO hi
       have:=(kT.cU id g cp).2
       unfold aV;rw [hb.block g aj]
      exact dM.mono (fun _ _ h=>h) (fun b hS=>⟨⟨by have:=hS.1;have:=hb.size;omega,uu b hS,hS.2.2⟩,hb.block b hS.1⟩) gC
    have waiting:∀(O:List Nat) w',Below w.heap.size w w'->(∀g∈O,w.heap.size≤g)->aG S0 w0 n O s a w' φ:=by
     intro O w' hb hO
     have h1:=nF O [] s φ kT hO
     rw [List.append_nil] at h1
     exact h1.grow hb
    refine ⟨hm,y8 (γ :=Nat->List Nat) Gf KQ KP KO kT.jL hB F J St ux ?_ ?_ ops.toArray.size _ a _ (fun _=>[]) ⟨(Below.refl _ _).drew,by simp,?_,rfl,rfl,?_,?_,fun _ _=>rfl⟩ ⟨by simp,by simp,by simp⟩ (fun j _=>by simp only [List.size_toArray];exact getD_replicate_false _ _) (by simp)⟩
    ·
     intro k o vw ho own a' w' hb hJ Re i9 fq
     have qW:ops[k]?=some o:=by simpa using ho
     obtain ⟨x,Dk,hx,QA,dU⟩:=gT k o (by rw [List.getElem?_take,if_pos vw];exact qW)
     have kF:Below w.heap.size w w':=hb
     have R6:∀g∈sE T own,w.heap.size≤g:=fun g hg=>by
      obtain ⟨j,-,hj⟩:=kA.1 hg
      exact (hJ.2.2 j g hj).1
     have M3:∀g∈sE T own,g<w'.heap.size:=fun g hg=>by
      obtain ⟨j,-,hj⟩:=kA.1 hg
      exact (hJ.2.2 j g hj).2
     have hg:=waiting (sE T own) w' kF R6
     have JC:aG S0 w0 n (sE T own) (vB s ((ops.take T).filterMap (·.dst)) ops ((gN.take k).map mZ) o) ⟨a'.tmps,S0.r8⟩ w' φ:=by
      refine ⟨Re.trans kT.jL,rfl,hg.cV,fun i av hi=>?_,hg.rows,hg.only,hg.inj,hg.cU,hg.apart,hg.new⟩
      show Den (az s.H φ) _ _ _ _
      unfold vB at hi
      rw [bM] at hi
      cases Ie:look (ji ops ((gN.take k).map mZ) (bk o)) i with
      | some y =>
       rw [Ie] at hi
       simp at hi;subst hi
       obtain ⟨d,p,h1,h2,h3,h4⟩:=nO _ _ _ _ _ Ie
       rcases i9 d h1 with hF|⟨q,hq,hn⟩
       ·have jH:rH ops.toArray a' d=a'.tmps.getD i undef:=by
         unfold rH
         have:(ops.toArray[d]?).bind (·.dst)=some i:=by simp [h2,h3]
         rw [this]
        rw [jH] at hF
        rw [List.getElem?_map] at h4
        cases hz:(gN.take k)[d]? with
        | none=>rw [hz] at h4;cases h4
        | some z =>
         rw [hz] at h4;injection h4 with h4;subst h4
         rcases hF.2 z (bY _ _ _ _ hz) with ⟨⟨e,row,rfl⟩,-⟩|dM
         ·exact .dead _
         ·rw [qv dM];exact dM
       ·have gM:ops[d]?=some q:=by simpa using hq
        rw [h2] at gM;injection gM with gM;subst gM
        rw [h3] at hn;cases hn
      | none =>
       rw [Ie] at hi
       simp at hi
       obtain ⟨h1,h2⟩:=fR _ _ _ _ hi
       have hk:=fq i (fun j p hj hp=>(ki ops T i).1 h2 j p hj (by simpa using hp))
       have oq:a'.tmps.getD i undef=a.tmps.getD i undef:=hk
       show Den _ _ _ (a'.tmps.getD i undef) av
       rw [oq]
       exact hg.cB i av h1
     have iN:gP P ops.toArray Q o a' w' fun v w2=>w'.heap.size≤w2.heap.size∧ ∃O',O'.Nodup∧(∀g∈O',w'.heap.size≤g∧g<w2.heap.size)∧(((∃e row,x= .own e row)∧hY (fun _=>False) w2 v x O')∨(O'= []∧Den (az s.H φ) (aM S0 w2 φ (sE T own)) w2 v x)):=by
      rcases dU with dU|dU
      ·obtain ⟨Jz,hr⟩:=FD (Q:=Q) (ops:=ops.toArray) dU QA JC (b:=a') rfl
       unfold gP at hr ⊢
       split
       ·rename_i hw
        rw [if_pos hw] at hr
        exact Oper.wp_mono (fun b' w2 ⟨v,h1,h2,O',h3,h4,h5⟩=>⟨v,h1,h2,h2.size,O',h4,h5,.inl ⟨Jz,h3⟩⟩) hr
       ·rename_i hw
        rw [if_neg hw] at hr
        obtain ⟨O',h3,h4,h5⟩:=hr
        exact ⟨Nat.le_refl _,O',h4,h5,.inl ⟨Jz,h3⟩⟩
      ·have hr:=II (Q:=Q) (ops:=ops) dU QA JC M3 (b:=a') rfl
       unfold gP at hr ⊢
       split
       ·rename_i hw
        rw [if_pos hw] at hr
        exact Oper.wp_mono (fun b' w2 ⟨v,h1,h2,h3,h4⟩=>⟨v,h1,h2,h3,[],by simp,by simp,.inr ⟨rfl,h4⟩⟩) hr
       ·rename_i hw
        rw [if_neg hw] at hr
        exact ⟨hr.1,[],by simp,by simp,.inr ⟨rfl,hr.2⟩⟩
     have fin:∀v w2,(w'.heap.size≤w2.heap.size∧ ∃O',O'.Nodup∧(∀g∈O',w'.heap.size≤g∧g<w2.heap.size)∧(((∃e row,x= .own e row)∧hY (fun _=>False) w2 v x O')∨(O'= []∧Den (az s.H φ) (aM S0 w2 φ (sE T own)) w2 v x)))-> ∃tT,St k own w' tT w2∧J tT w2∧F tT k v w2:=by
      rintro v w2 ⟨dq,O',h4,h5,h6⟩
      have p1:∀j,j≠k->G9 own k O' j=own j:=fun j hj=>by unfold G9;rw [if_neg hj]
      have p2:G9 own k O' k=O':=by unfold G9;rw [if_pos rfl]
      refine ⟨G9 own k O',⟨p1,fun g hg=>by rw [p2] at hg;exact (h5 g hg).1⟩,⟨fun j=>?_,fun i j g hi hj=>?_,fun j g hj=>?_⟩,Nat.le_trans kF.size dq,fun y hy=>?_⟩
      ·by_cases hj:j=k
       ·subst hj;rw [p2];exact h4
       ·rw [p1 j hj];exact hJ.1 j
      ·by_cases LI:i=k
       ·by_cases vx:j=k
        ·rw [LI,vx]
        ·subst LI
         rw [p2] at hi;rw [p1 j vx] at hj
         have:=(h5 g hi).1;have:=(hJ.2.2 j g hj).2;omega
       ·by_cases vx:j=k
        ·subst vx
         rw [p2] at hj;rw [p1 i LI] at hi
         have:=(h5 g hj).1;have:=(hJ.2.2 i g hi).2;omega
        ·rw [p1 i LI] at hi;rw [p1 j vx] at hj;exact hJ.2.1 i j g hi hj
      ·by_cases vx:j=k
       ·subst vx;rw [p2] at hj
        exact ⟨Nat.le_trans kF.size (h5 g hj).1,(h5 g hj).2⟩
       ·rw [p1 j vx] at hj
        exact ⟨(hJ.2.2 j g hj).1,Nat.lt_of_lt_of_le (hJ.2.2 j g hj).2 dq⟩
      ·rw [hx] at hy;injection hy with hy;subst hy
       rcases h6 with ⟨e1,e2⟩|⟨e1,e2⟩
       ·left;rw [p2];exact ⟨e1,e2⟩
       ·right
        subst e1
        refine e2.mono (fun _ _ h=>h) (fun b hS=>⟨⟨hS.1,fun hm=>?_,hS.2.2⟩,rfl⟩) (fun _ _ _ _ _=>rfl)
        obtain ⟨j,hj,JD⟩:=kA.1 hm
        by_cases vx:j=k
        ·subst vx;rw [p2] at JD;simp at JD
        ·rw [p1 j vx] at JD;exact hS.2.1 (kA.2 ⟨j,hj,JD⟩)
     unfold gP at iN ⊢
     split
     ·rename_i hw
      rw [if_pos hw] at iN
      exact Oper.wp_mono (fun b' w2 ⟨v,h1,h2,h3⟩=>⟨v,h1,h2,fin v w2 h3⟩) iN
     ·rename_i hw
      rw [if_neg hw] at iN
      exact fin undef w' iN
    ·
     intro vs own w' hb hJ xL
     have kF:Below w.heap.size w w':=hb
     have Ce:∀g∈fy own (ops.take T) gN 0,g∈sE T own:=fun g hg=>by
      obtain ⟨j,h1,h2,h3⟩:=nM own _ _ 0 g hg
      exact kA.2 ⟨j,by rw [List.length_take] at h2;omega,h3⟩
     have hOr:∀g∈fy own (ops.take T) gN 0,w.heap.size≤g∧g<w'.heap.size:=fun g hg=>by
      obtain ⟨j,h1,h2,h3⟩:=nM own _ _ 0 g hg
      exact hJ.2.2 j g h3
     have hg:=waiting (fy own (ops.take T) gN 0) w' kF (fun g hg=>(hOr g hg).1)
     have jI:=jD vs (ops.zipIdx.take T) a (by
      have h1:(ops.zipIdx.take T).filterMap (·.1.dst)=(ops.take T).filterMap (·.dst):=by
       conv=>rhs;rw [←List.zipIdx_map_fst 0 ops,←List.map_take]
       rw [List.filterMap_map];rfl
      rw [h1]
      exact List.Nodup.sublist ((List.take_sublist T ops).filterMap _) (by simpa using im))
     have SX:∀(k:Nat) (o:Oper) (i:Nat),k<T->ops[k]?=some o->o.dst=some i->(eD (ops.zipIdx.take T) vs a).tmps.getD i undef=vs k:=by
      intro k o i vw ho hd
      have hv:=jI.2.2.1 (o,k) ((lM ops T _).2 ⟨vw,ho⟩) i hd (by rw [kT.jL];exact vg k o i (by simpa using ho) hd)
      simp [hv]
     show wpList P ops.toArray Q (ops.drop T) (eD (ops.zipIdx.take T) vs a) w'
     have hA:aG S0 w0 n (fy own (ops.take T) gN 0) ⟨i7 (ops.take T) (gN.map mZ)++nn ((ops.take T).filterMap (·.dst)) s.F,s.H⟩ (eD (ops.zipIdx.take T) vs a) w' φ:=by
      refine ⟨jI.1.trans kT.jL,jI.2.1.trans kT.jO,hg.cV,fun i av hi=>?_,hg.rows,hg.only,hg.inj,hg.cU,hg.apart,hg.new⟩
      show Den (az s.H φ) _ _ _ _
      have hi:look (i7 (ops.take T) (gN.map mZ)++nn ((ops.take T).filterMap (·.dst)) s.F) i=some av:=hi
      rw [bM] at hi
      cases hh:look (i7 (ops.take T) (gN.map mZ)) i with
      | some y =>
       rw [hh] at hi
       simp at hi;subst hi
       obtain ⟨k,o,h1,h2,h3⟩:=kD _ _ _ _ hh
       have vw:k<T:=by have:=(List.getElem?_eq_some_iff.1 h3).1;rw [List.length_map] at this;omega
       have ho:ops[k]?=some o:=bY _ _ _ _ h1
       rw [SX k o i vw ho h2]
       rw [List.getElem?_map] at h3
       cases hz:gN[k]? with
       | none=>rw [hz] at h3;cases h3
       | some z =>
        rw [hz] at h3;injection h3 with h3;subst h3
        rcases (xL k vw).2 z hz with ⟨⟨e,row,rfl⟩,-⟩|dM
        ·exact .dead _
        ·rw [qv dM]
         exact dM.mono (fun _ _ h=>h) (fun b hS=>⟨⟨hS.1,fun hm=>hS.2.1 (Ce b hm),hS.2.2⟩,rfl⟩) (fun _ _ _ _ _=>rfl)
      | none =>
       rw [hh] at hi
       simp at hi
       obtain ⟨h1,h2⟩:=fR _ _ _ _ hi
       have hv:=jI.2.2.2 i (fun p hp hd=>(ki ops T i).1 h2 p.2 p.1 ((lM ops T p).1 hp).1 ((lM ops T p).1 hp).2 hd)
       have:(eD (ops.zipIdx.take T) vs a).tmps.getD i undef=a.tmps.getD i undef:=by
        simp [hv]
       rw [this]
       exact hg.cB i av h1
     obtain ⟨cz,j8⟩:=yC own (ops.take T) gN 0 _ φ hA (fun j o e row d h1 h2 h3=>by
      have Qt:j<T:=by have:=(List.getElem?_eq_some_iff.1 h2).1;omega
      have ho:ops[j]?=some o:=bY _ _ _ _ h1
      rw [SX j o d Qt ho h3,Nat.zero_add]
      rcases (xL j Qt).2 _ h2 with ⟨-,UC⟩|dM
      ·exact UC
      ·have:=qv dM;cases this) (rS own hJ.1 hJ.2.1 _ _ 0) (fun g hg=>⟨.inl (Nat.le_trans kT.cV.size (hOr g hg).1),(hOr g hg).2⟩) (by
       rw [j_] at gH ⊢
       exact gH) (List.Nodup.sublist ((List.take_sublist T ops).filterMap _) (by simpa using im))
     exact jJ (S0:=S0) (w0:=w0) _ _ _ _ _ oF hD _ _ ⟨cz,j8⟩ hQ
    ·intro k o hk;rw [getD_replicate_false] at hk;cases hk
    ·intro k o s hk;rw [getD_replicate_false] at hk;cases hk
    ·intro k o hk;rw [getD_replicate_false] at hk;cases hk
   ·cases he
  ·cases he
 ·cases he
def rb (P:Program) (n T:Nat) (Ks:List Nat) (hs:List (Nat×Hint)) (c:Code) (s:AS):Option (AS×List Prop) :=
 match c with
 | .region _ ⟨l⟩ true=>ye P n T Ks l hs s
 | _=>none
theorem bf.Oz {n:Nat} {c:Code} {Q:Exit->AS->Prop} {s s':AS} {C:List Prop} (T:Nat) (Ks:List Nat) (hs:List (Nat×Hint)) (he:rb P n T Ks hs c s=some (s',C)) (hC:bx C) (h:Q .normal s'):bf P n c Q s:=by
 intro S0 w0 a w f_
 unfold rb at he
 split at he
 ·exact CJ (S0:=S0) (w0:=w0) he hC f_ fun a' w' bZ=>⟨s',h,bZ.one⟩
 ·cases he
theorem bf.SJ {n:Nat} {c:Code} {Q:Exit->AS->Prop} {s:AS} {C:List Prop} (T:Nat) (Ks:List Nat) (hs:List (Nat×Hint)) (he:oP (rb P n T Ks hs c s)=some C) (hC:bx C) (h:Q .normal (pF (rb P n T Ks hs c s))):bf P n c Q s:=bf.Oz T Ks hs (iP he) hC h
end
end Go.Proofs.YtjgbhhnghedgdaaGreatDoor
