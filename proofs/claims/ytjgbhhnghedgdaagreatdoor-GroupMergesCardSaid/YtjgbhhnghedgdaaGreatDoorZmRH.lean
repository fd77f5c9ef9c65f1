import Derived.Test.YtjgbhhnghedgdaaGreatDoorZmV8
set_option linter.all false
namespace Go.Proofs.YtjgbhhnghedgdaaGreatDoor
open Go.RowKit
section
variable {P:Program} {ops:Array Oper} {Q:Exit->Act->World->Prop} {a:Act} {w:World}
theorem Ae {γ :Type} {n T:Nat} (hT:T<ops.size) (Kq:Region.sinkB .any ops T=true) (wj:Region.chainB .any ops T=true) (PM:Region.seqB .any ops (ops.size-T) T ((List.range ops.size).map (decide<| · <T)).toArray=true) (dw:a.tmps.size=n) (hB:lK ops n=true) (F: γ ->Nat->Value->World->Prop) (J: γ ->World->Prop) (St:Nat-> γ ->World-> γ ->World->Prop) (mono:∀i k v g g' w1 w2,i≠k->Below w1.heap.size w1 w2->St i g w1 g' w2->F g k v w1->F g' k v w2)
  (vL:∀k o,k<T->ops[k]?=some o-> ∀g a' w',Below w.heap.size w w'->J g w'->a'.tmps.size=a.tmps.size->(∀d∈bl o,F g d (r_ ops a' d) w'∨(∃p,ops[d]?=some p∧p.dst=none))->(∀s,(∀(j:Nat) (p:Oper),j<T->ops[j]?=some p->p.dst≠some s)->a'.eval (.tmp s)=a.eval (.tmp s))->gS P ops Q o a' w' (fun v fy=>∃g',St k g w' g' fy∧J g' fy∧F g' k v fy))
  (kk:∀(vs:Nat->Value) (g: γ),∀w',Below w.heap.size w w'->J g w'->(∀k,k<T->F g k (vs k) w')->wpList P ops Q (ops.toList.drop T) (eJ (ops.toList.zipIdx.take T) vs a) w') :
  ∀(fuel:Nat) (listed:Array Bool) (a':Act) (w':World) (g: γ),Inv ops (F g) a w listed a' w'->J g w'->(∀j,T≤j->listed.getD j false=false) ->
   (listed.toList.filter (· == false)).length=fuel->wpAny P .any ops Q fuel listed a' w':=by
 obtain ⟨dk,ir,vN⟩:=f_ hB
 have kE:∀(listed:Array Bool) (a':Act) (w':World) (g: γ),Inv ops (F g) a w listed a' w'-> ∀k,k<T->listed.getD k false=false-> ∃i,i<T∧i∈Region.ready .any ops listed:=by
  intro listed a' w' g I k
  induction k using Nat.strongRecOn with
  | _ k ih =>
   intro hk hl
   have iH:k<listed.size:=by rw [I.size];omega
   have pB:k<ops.size:=ah
   have oK:ops[k]?=some ops[k]:=Array.getElem?_eq_getElem pB
   by_cases fY:∀d∈bl ops[k],listed.getD d false=true
   ·refine ⟨k,hk,?_⟩
    rw [mem_ready]
    refine ⟨?_,ops[k],oK,fun e he hb=>fY e.on ?_⟩
    ·simp [iH] at hl ⊢;exact hl
    ·unfold bl
     exact List.mem_map.2 ⟨e,List.mem_filter.2 ⟨by simpa using he,hb⟩,rfl⟩
   ·have:∃d,d∈bl ops[k]∧listed.getD d false=false:=by
     refine Classical.byContradiction fun fM=>fY fun d hd=>?_
     cases hx:listed.getD d false with
     | true=>rfl
     | false=>exact absurd ⟨d,hd,hx⟩ fM
    obtain ⟨d,hd,hx⟩:=this
    exact ih d (dk k _ oK d hd) (by have:=dk k _ oK d hd;omega) hx
 have done:∀(listed:Array Bool) (a':Act) (w':World) (g: γ),Inv ops (F g) a w listed a' w'->J g w'->(∀k,k<T->listed.getD k false=true)->(∀j,T≤j->listed.getD j false=false)->wpList P ops Q (ops.toList.drop T) a' w':=by
  intro listed a' w' g I hJ all tail
  have hv:∀k,∃v,k<T->(F g k v w'∧ ∀o s,ops[k]?=some o->o.dst=some s->a'.tmps[s]?=some v):=by
   intro k
   by_cases hk:k<T
   ·have pB:k<ops.size:=ah
    have oK:ops[k]?=some ops[k]:=Array.getElem?_eq_getElem pB
    cases hd:ops[k].dst with
    | none =>
     obtain ⟨v,hv⟩:=I.EH k _ (all k hk) oK hd
     exact ⟨v,fun _=>⟨hv,fun o s ho hs=>by rw [oK] at ho;injection ho with ho;subst ho;rw [hd] at hs;cases hs⟩⟩
    | some s =>
     obtain ⟨v,hv,hF⟩:=I.val k _ s (all k hk) oK hd
     exact ⟨v,fun _=>⟨hF,fun o s' ho hs=>by rw [oK] at ho;injection ho with ho;subst ho;rw [hd] at hs;injection hs with hs;subst hs;exact hv⟩⟩
   ·exact ⟨undef,fun h=>absurd h hk⟩
  obtain ⟨vs,EV⟩:=Classical.axiomOfChoice hv
  have rB:∀p:Oper×Nat,p∈ops.toList.zipIdx.take T↔(p.2<T∧ops[p.2]?=some p.1):=by
   intro p
   rw [List.mem_iff_getElem?]
   constructor
   ·rintro ⟨x,hx⟩
    rw [List.getElem?_take] at hx
    split at hx
    ·rename_i Bk
     rw [List.getElem?_zipIdx] at hx
     cases ho:ops.toList[x]? with
     | none=>rw [ho] at hx;simp at hx
     | some q =>
      rw [ho] at hx
      simp at hx
      subst hx
      exact ⟨by simpa using Bk,by simpa using ho⟩
    ·cases hx
   ·rintro ⟨h1,h2⟩
    refine ⟨p.2,?_⟩
    rw [List.getElem?_take,if_pos h1,List.getElem?_zipIdx]
    have O5:ops.toList[p.2]?=some p.1:=by simpa using h2
    rw [O5];simp
  have jP:=jL vs (ops.toList.zipIdx.take T) a (by
   have h1:(ops.toList.zipIdx.take T).filterMap (·.1.dst)=(ops.toList.take T).filterMap (·.dst):=by
    conv=>rhs;rw [←List.zipIdx_map_fst 0 ops.toList,←List.map_take]
    rw [List.filterMap_map];rfl
   rw [h1]
   exact List.Nodup.sublist ((List.take_sublist T ops.toList).filterMap _) ir)
  have he:a'=eJ (ops.toList.zipIdx.take T) vs a:=by
   have ht:a'.tmps=(eJ (ops.toList.zipIdx.take T) vs a).tmps:=by
    apply Array.ext_getElem?
    intro s
    by_cases hs:∃(k:Nat) (o:Oper),k<T∧ops[k]?=some o∧o.dst=some s
    ·obtain ⟨k,o,hk,ho,hd⟩:=hs
     rw [(EV k hk).2 o s ho hd]
     exact (jP.2.2.1 (o,k) ((rB _).2 ⟨hk,ho⟩) s hd (by rw [dw];exact vN k o s ho hd)).symm
    ·rw [I.old s fun k o hl ho hd=>hs ⟨k,o,(Classical.byContradiction fun hk=>(by have:=tail k (Nat.le_of_not_lt hk);rw [this] at hl;cases hl)),ho,hd⟩]
     exact (jP.2.2.2 s fun p hp hd=>hs ⟨p.2,p.1,((rB p).1 hp).1,((rB p).1 hp).2,hd⟩).symm
   have hd:a'.defers=(eJ (ops.toList.zipIdx.take T) vs a).defers:=I.td.trans jP.2.1.symm
   cases a';cases h:eJ (ops.toList.zipIdx.take T) vs a
   rw [h] at ht hd
   simp only at ht hd
   rw [ht,hd]
  rw [he]
  exact kk vs g w' I.grown hJ (fun k hk=>(EV k hk).1)
 have rest:∀(fuel:Nat) (listed:Array Bool) (a':Act) (w':World) (g: γ),Inv ops (F g) a w listed a' w'->J g w'->(∀j,T≤j->listed.getD j false=false)->(listed.toList.filter (· == false)).length=fuel->(∀k,k<T->listed.getD k false=true)->wpAny P .any ops Q fuel listed a' w':=by
  intro fuel listed a' w' g I hJ tail hc all
  have nP:listed=((List.range ops.size).map (decide<| · <T)).toArray:=by
   apply Array.ext_getElem?
   intro x
   by_cases hx:x<ops.size
   ·have G8:x<listed.size:=by rw [I.size];exact hx
    have hr:((List.range ops.size).map (decide<| · <T)).toArray[x]?=some (decide (x<T)):=by simp [hx]
    rw [hr]
    by_cases Bk:x<T
    ·have:=all x Bk;simp [G8] at this ⊢;rw [this,decide_eq_true Bk]
    ·have:=tail x ah;simp [G8] at this ⊢;rw [this,decide_eq_false Bk]
   ·rw [Array.getElem?_eq_none (by rw [I.size];omega),Array.getElem?_eq_none (by simp;omega)]
  have hlen:fuel=(ops.toList.drop T).length:=by
   rw [←hc,nP]
   simp only [List.length_drop,Array.length_toList,List.filter_map,List.length_map]
   have key:∀n,T≤n->((List.range n).filter ((fun x=>x == false) ∘ (decide<| · <T))).length=n-T:=by
    intro n hn
    induction n with
    | zero=>simp
    | succ n ih =>
     rw [List.range_succ,List.filter_append,List.length_append]
     by_cases P5:T≤n
     ·rw [ih P5]
      have:((fun x=>x == false) ∘ (decide<| · <T)) n=true:=by simp;omega
      rw [List.filter_cons_of_pos this];simp;omega
     ·obtain rfl:T=n+1:=ah
      have h1:(List.range n).filter ((fun x=>x == false) ∘ (decide<| · <n+1))= []:=by
       rw [List.filter_eq_nil_iff];intro x hx;have:=List.mem_range.1 hx;simp;omega
      have h2:[n].filter ((fun x=>x == false) ∘ (decide<| · <n+1))= []:=by
       rw [List.filter_eq_nil_iff];intro x hx;simp at hx;subst hx;simp
      rw [h1,h2];simp
   exact key ops.size ah
  rw [hlen]
  refine wpAny_of_seq (ops.toList.drop T) T listed a' w' (fun j=>by rw [List.getElem?_drop];simp) ?_ (done listed a' w' g I hJ all tail)
  rw [nP]
  simpa using PM
 intro fuel
 induction fuel with
 | zero =>
  intro listed a' w' g I hJ tail hc
  refine rest 0 listed a' w' g I hJ tail hc fun k hk=>?_
  cases hx:listed.getD k false with
  | true=>rfl
  | false =>
   exfalso
   have iH:k<listed.size:=by rw [I.size];omega
   have:false∈listed.toList.filter (· == false):=by
    refine List.mem_filter.2 ⟨?_,rfl⟩
    have h1:listed.toList[k]?=some false:=by simp [iH] at hx ⊢;exact hx
    exact List.mem_of_getElem? h1
   have:=List.length_pos_of_mem this
   omega
 | succ fuel ih =>
  intro listed a' w' g I hJ tail hc
  by_cases hex:∀k,k<T->listed.getD k false=true
  ·exact rest (fuel+1) listed a' w' g I hJ tail hc hex
  have PH:∃k,k<T∧listed.getD k false=false:=by
   refine Classical.byContradiction fun fM=>hex fun k hk=>?_
   cases hx:listed.getD k false with
   | true=>rfl
   | false=>exact absurd ⟨k,hk,hx⟩ fM
  obtain ⟨k0,yz,IC⟩:=PH
  have Qr:HeadInv .any ops T listed:=⟨I.size,fun j oj hj hl e he hb=>I.closed j oj hl hj e.on (by
    unfold bl
    exact List.mem_map.2 ⟨e,List.mem_filter.2 ⟨by simpa using he,hb⟩,rfl⟩),fun t ht PL=>getD_in (by rw [I.size];exact PL) (tail t ht)⟩
  have I3:listed.getD k0 true=false:=getD_in (by rw [I.size];omega) IC
  refine ⟨fun hr=>(by
   obtain ⟨i,_,hi⟩:=kE listed a' w' g I k0 yz IC
   rw [hr] at hi;cases hi),fun i hi=>?_⟩
  have Qb:i<T:=Classical.byContradiction fun h=>tail_waits Kq wj hT Qr _ k0 rfl yz I3 i ah hi
  obtain ⟨h0,o,ho,fY⟩:=mem_ready.1 hi
  have I4:i<listed.size:=by rw [I.size];exact (Array.getElem?_eq_some_iff.1 ho).1
  have O6:listed.getD i false=false:=by simp [I4] at h0 ⊢;exact h0
  have jc:∀d∈bl o,listed.getD d false=true:=by
   intro d hd
   unfold bl at hd
   obtain ⟨e,he,rfl⟩:=List.mem_map.1 hd
   obtain ⟨My,Lt⟩:=List.mem_filter.1 he
   exact fY e (by simpa using My) Lt
  have next:∀v fy g',Below w'.heap.size w' fy->St i g w' g' fy->F g' i v fy->Inv ops (F g') a w (listed.setIfInBounds i true) (a'.put o.dst v) fy:=by
   intro v fy g' hb dC hF
   have lists:∀k,(listed.setIfInBounds i true).getD k false=true->k=i∨listed.getD k false=true:=by
    intro k hk
    by_cases sW:i=k
    ·exact .inl sW.symm
    ·right;rw [getD_set_ne false sW] at hk;exact hk
   have diff:∀k,listed.getD k false=true->i≠k:=fun k hk e=>by subst e;rw [O6] at hk;cases hk
   refine ⟨I.grown.pV hb,by simpa using I.size,?_,(p_ ..).trans I.Al,(put_defers ..).trans I.td,?_,?_,?_⟩
   ·intro k p hk hp d hd
    rcases lists k hk with rfl|hk
    ·rw [ho] at hp;injection hp with hp;subst hp
     exact getD_set_true (jc d hd)
    ·exact getD_set_true (I.closed k p hk hp d hd)
   ·intro k p s hk hp hs
    rcases lists k hk with rfl|hk
    ·rw [ho] at hp;injection hp with hp;subst hp
     refine ⟨v,?_,hF⟩
     rw [hs]
     exact mB a' s v (by rw [I.Al,dw];exact vN k _ s ho hs)
    ·obtain ⟨u,hu,SX⟩:=I.val k p s hk hp hs
     refine ⟨u,?_,mono i k u g g' w' fy (diff k hk) hb dC SX⟩
     rw [g_ a' o.dst s v fun he=>?_]
     ·exact hu
     ·have:=oz ir ho hp he hs
      subst this
      rw [O6] at hk;cases hk
   ·intro k p hk hp hs
    rcases lists k hk with rfl|hk
    ·exact ⟨v,hF⟩
    ·obtain ⟨u,hu⟩:=I.EH k p hk hp hs
     exact ⟨u,mono i k u g g' w' fy (diff k hk) hb dC hu⟩
   ·intro s hs
    rw [g_ a' o.dst s v (hs i o (by simp [I4]) ho)]
    exact I.old s fun k p hk hp=>hs k p (getD_set_true hk) hp
  have nL:∀j,T≤j->(listed.setIfInBounds i true).getD j false=false:=fun j hj=>by rw [getD_set_ne false ah];exact tail j hj
  have nO:((listed.setIfInBounds i true).toList.filter (· == false)).length=fuel:=by
   have P8:((listed.setIfInBounds i true).toList.filter (· == false)).length+1=(listed.toList.filter (· == false)).length:=by
    rw [Array.toList_setIfInBounds]
    have ji:listed.toList[i]?=some false:=by simp [I4] at h0 ⊢;exact h0
    exact pJ _ i ji
   omega
  have iP:=vL i o Qb ho g a' w' I.grown hJ I.Al (fun d hd=>by
   have hl:=jc d hd
   cases hp:ops[d]? with
   | none =>
    have qQ:d<listed.size:=by
     rcases Nat.lt_or_ge d listed.size with h|h
     ·exact h
     ·simp [Array.getElem?_eq_none h] at hl
    rw [I.size] at qQ
    rw [Array.getElem?_eq_getElem qQ] at hp;cases hp
   | some p =>
    cases hs:p.dst with
    | none=>exact .inr ⟨p,rfl,hs⟩
    | some s =>
     left
     obtain ⟨u,hu,hF⟩:=I.val d p s hl hp hs
     unfold r_
     rw [hp]
     simp only [Option.bind_some,hs]
     simp [hu];exact hF) (fun s hs=>by
   show a'.tmps.getD s undef=a.tmps.getD s undef
   have:a'.tmps[s]?=a.tmps[s]?:=I.old s fun k p hk hp hd=>by
    have wg:k<T:=Classical.byContradiction fun h=>(by have:=tail k (Nat.le_of_not_lt h);rw [this] at hk;cases hk)
    exact hs k p wg hp hd
   simp [this])
  unfold gS at iP
  unfold wpOp
  rw [ho]
  simp only
  by_cases hw:Region.wanted o (yielded ops a'.tmps)=true
  ·rw [if_pos hw] at iP ⊢
   left
   exact Oper.wp_mono (fun r5 fy ⟨v,he,hb,g',dC,NT,hF⟩=>by
    subst he
    exact ih _ _ _ _ (next v fy g' hb dC hF) NT nL nO) iP
  ·rw [if_neg hw] at iP ⊢
   obtain ⟨g',dC,NT,hF⟩:=iP
   exact ih _ _ _ _ (next undef w' g' (Below.refl _ _) dC hF) NT nL nO
end
def zY (P:Program) (s:AS) (o:Oper) (x:AV) (C:List Prop):Prop :=
 bz C-> ∀S0 w0 n O a w φ Q (b:Act),aO S0 w0 n O s a w φ->(∀g∈O,g<w.heap.size)->b.tmps=a.tmps->o.wp P b w (fun b' w'=>∃v,b'=b.put o.dst v∧Below w.heap.size w w'∧Den (az s.H φ) (aQ S0 w' φ O) w' v x) Q
section
variable {P:Program} {s:AS} {o:Oper} {h:Hint} {r:AV×List Prop}
theorem sw (hp:dc P s o r.1 r.2):zY P s o r.1 r.2:=by
 intro hC S0 w0 n O a w φ Q b hs _ hb
 obtain ⟨v,cw,dV⟩:=hp hC S0 w0 n O a w φ hs
 rw [←eH hb] at cw
 exact cU cw ⟨v,rfl,Below.refl _ _,dV⟩
theorem kQ {S0:bn} {w0 w w':World} {n:Nat} {O:List Nat} {a:Act} {φ:Nat->Option Nat} (hs:aO S0 w0 n O s a w φ) (hO:∀g∈O,g<w.heap.size) (hb:Below w.heap.size w w') (b:Nat) (h:aQ S0 w φ O b∨(w.heap.size≤b∧b<w'.heap.size)):aQ S0 w' φ O b:=by
 rcases h with h|⟨h1,h2⟩
 ·exact ⟨by have:=h.1;have:=hb.size;omega,h.2⟩
 ·exact ⟨h2,fun hm=>by have:=hO b hm;omega,fun i hi=>by have:=(hs.cY i b hi).2;omega,hs.new b (.inl (by have:=hs.cZ.size;omega))⟩
theorem EP {S0:bn} {w0 w:World} {n:Nat} {O:List Nat} {a:Act} {φ:Nat->Option Nat} (hs:aO S0 w0 n O s a w φ) (z:Nat):∀(parts:List (Nat×Operand)) (i:Nat) (cells:List AV) (cur:Array Value),gg s z i parts=some cells->dZ cells=true->i*z+parts.length*z=cur.size ->
  cells.length=parts.length*z∧ ∃us:Array Value,Instr.fill (fun i=>some (i*z,z)) cur (parts.map fun p=>(p.1,a.eval p.2))=some us∧us.size=cur.size∧(∀j,j<i*z->us[j]?=cur[j]?)∧ ∀(j:Nat) u x,us[i*z+j]?=some u->cells[j]?=some x->cB (aQ S0 w φ O) w u x
 | [],i,cells,cur,hc,hp,dw=>by cases hc;exact ⟨by simp,cur,rfl,rfl,fun _ _=>rfl,fun j u x _ hx=>by simp at hx⟩
 | (j,x)::l,i,cells,cur,hc,hp,dw=>by
  simp only [gg] at hc
  split at hc
  ·rename_i c m Nx Lv hm
   split at hc
   ·rename_i Lu
    cases hc
    have Nx:=Nat.eq_of_beq_eq_true Nx
    have Lu:=Nat.eq_of_beq_eq_true Lu
    subst Nx
    obtain ⟨vs,hv,hlen,dV⟩:=mf (hs.bp x) Lv
    have Sa:dZ m=true:=by
     have key:∀(c m:List AV),dZ (c++m)=true->dZ m=true:=by
      intro c
      induction c with
      | nil=>intro m h;exact h
      | cons y c ih =>
       intro m h
       simp only [List.cons_append,dZ] at h
       split at h
       ·exact ih m h
       ·cases h
     exact key c m hp
    simp only [List.length_cons] at dw
    have Ld:(l.length+1)*z=l.length*z+z:=by rw [Nat.add_mul,Nat.one_mul]
    have cX:(i+1)*z=i*z+z:=by rw [Nat.add_mul,Nat.one_mul]
    have I6:((a.eval x).cells.zipIdx.foldl (fun cs (cj:Value×Nat)=>cs.setIfInBounds (i*z+cj.2) cj.1) cur)=(vs.zipIdx.foldl (fun cs (cj:Value×Nat)=>cs.setIfInBounds (i*z+cj.2) cj.1) cur):=by rw [hv];simp
    obtain ⟨E3,us,Gc,IF,IE,Np⟩:=EP hs z l (i+1) m (vs.zipIdx.foldl (fun cs (cj:Value×Nat)=>cs.setIfInBounds (i*z+cj.2) cj.1) cur) hm Sa (by rw [jk];omega)
    rw [jk] at IF
    refine ⟨by rw [List.length_append,List.length_cons,E3,Lu];omega,us,?_,IF,fun j hj=>?_,fun j u y hu hy=>?_⟩
    ·rw [List.map_cons]
     unfold Instr.fill
     simp only
     have PF:(a.eval x).cells.size=z:=by rw [hv];simp;omega
     rw [if_neg (by rw [PF];simp;omega),I6]
     exact Gc
    ·rw [IE j ah,kv,if_neg ah]
    ·by_cases hj:j<z
     ·rw [IE _ ah,kv,if_pos ah] at hu
      rw [List.getElem?_append_left ah] at hy
      have R2:vs[j]?=some u:=by rw [←hu];congr 1;omega
      exact (eK (dV j u y R2 hy) (iB (l:=c++m) (j:=j) hp (by rw [List.getElem?_append_left ah];exact hy))).1
     ·rw [List.getElem?_append_right ah] at hy
      refine Np (j-z) u y ?_ (by rw [←hy,Lu])
      rw [←hu];congr 1;omega
   ·cases hc
  ·cases hc
theorem u0 {c:Callee} {xs:Array Operand} {ts:Array TypeId} {f:FuncId} {args:List AV} {x:AV} {C:List Prop} (ho:o.op= .call ⟨c,xs,ts⟩) (hc:callee s c=some f) (hE:ig P f=true) (nM:bz C->bC P f args x) (hl:args.length=xs.toList.length)
  (hG:bz C-> ∀S0 w0 n O a w φ,aO S0 w0 n O s a w φ-> ∃S:Nat->Prop,(∀b,S b->b<w.heap.size)∧(∀(j:Nat) v y,(xs.toList.map a.eval)[j]?=some v->args[j]?=some y->cB S w v y)∧ ∀w' v O',s_ (fun b=>S b∨(w.heap.size≤b∧b<w'.heap.size∧b ∉ O')) w' v x O'->s_ (fun b=>aQ S0 w φ O b∨(w.heap.size≤b∧b<w'.heap.size∧b ∉ O')) w' v x O'):zY P s o (O7 x) C:=by
 intro hC S0 w0 n O a w φ Q b hs hO hb
 have cw:=jq (P:=P) hs hc ho hE
 rw [←eH hb] at cw
 obtain ⟨S,hS,iE,uV⟩:=hG hC S0 w0 n O a w φ hs
 unfold Oper.wp
 rw [cw]
 have m9:=nM hC w S (xs.toList.map a.eval) hs.cZ.mP hS (by simp [hl]) iE
 have e:(xs.toList.map a.eval).toArray=xs.map b.eval:=by rw [eH hb];apply Array.ext';simp
 rw [e] at m9
 refine m9.mono ?_
 rintro en w' ⟨v,O',rfl,lJ,ir,mL,hg⟩
 refine ⟨v,rfl,lJ,.rep (Jj (fun b hb=>?_) (fun g hg=>?_) (uV w' v O' hg))⟩
 ·exact kQ hs hO lJ b (hb.imp id fun h=>⟨h.1,h.2.1⟩)
 ·exact kQ hs hO lJ g (.inr (mL g hg))
theorem vo (hr:rO P s o h=some r):zY P s o r.1 r.2:=by
 unfold rO at hr
 split at hr
 ·rename_i t len parts ho
  split at hr
  ·rename_i el hu
   split at hr
   ·rename_i z zero hz hzero
    split at hr
    ·rename_i cells dN hlen Bx uP
     split at hr
     ·rename_i hp
      cases hr
      intro hC S0 w0 n O a w φ Q b hs hO hb
      have hlen:=Nat.eq_of_beq_eq_true hlen
      have Bx:len*(z+1)≤16777216:=Nat.le_of_ble_eq_true Bx
      have hn:(named h cells).1=cells:=(hU (C:=[]) (by rw [List.append_nil];exact hC)).1
      obtain ⟨h1,us,h2,h3,-,h4⟩:=EP hs (z+1) parts.toList 0 cells ((Array.range (len*(z+1))).map (zero.cells[· %zero.cells.size]!)) dN hp (by simp [←hlen])
      have hm:len≤maxLen:=by
       have:len≤len*(z+1):=Nat.le_mul_of_pos_right _ ah
       unfold maxLen;omega
      have cw:(execOp b.eval o).run P w= .ok (.value (.slice (some ⟨w.heap.size,0,none⟩) len len)) {w with heap:=w.heap.push (.cells us el (0,0))}:=by
       have Bj:(sizeOf el).run P w= .ok (z+1) w:=run_sizeOf hz
       have oY:(parts.map fun p=>(p.1,a.eval p.2)).toList=parts.toList.map fun p=>(p.1,a.eval p.2):=by simp
       rw [eH hb]
       unfold execOp
       simp only [ho,Instr.buildSlice,Sem.run_bind,run_underlying hu,Result.andThen_ok,Bj,Sem.run_ite]
       rw [if_neg ah]
       by_cases h0:len*(z+1)=0
       ·rw [if_pos h0]
        simp only [Sem.run_pure,Result.andThen_ok]
        have:(Array.range (len*(z+1))).map (fun x=>(#[]:Array Value)[x%(#[]:Array Value).size]!)=(Array.range (len*(z+1))).map (fun x=>zero.cells[x%zero.cells.size]!):=by rw [h0,il,il]
        rw [this,oY,h2]
        rfl
       ·rw [if_neg h0]
        simp only [iO hzero,Result.andThen_ok,Sem.run_pure]
        rw [oY,h2]
        rfl
      have lJ:Below w.heap.size w {w with heap:=w.heap.push (.cells us el (0,0))}:=⟨rfl,rfl,rfl,by simp,fun k hk=>cL w _ k hk⟩
      have gF:cells.length=(z+1)*len:=by rw [h1,hlen,Nat.mul_comm]
      refine cU cw ⟨_,rfl,lJ,?_⟩
      simp only [hn]
      refine .rep (fe (r:=⟨z+1,true,false,cells⟩) (dM w _) (kQ hs hO lJ _ (.inr ⟨Nat.le_refl _,by simp⟩)) cells 0 (by rw [h3,gF];simp [Nat.mul_comm]) gF (Nat.le_refl _) hm _ (fun _=>rfl) (fun j u x hu hx=>?_))
      exact (h4 j u x (by simpa using hu) hx).mono fun b hb=>⟨kQ hs hO lJ b (.inl hb),cL w _ b hb.1⟩
     ·cases hr
    ·cases hr
   ·cases hr
  ·cases hr
 ·rename_i t l c ho
  split at hr
  ·rename_i kl L kc C el hl hc hu
   split at hr
   ·rename_i i hi
    split at hr
    ·rename_i zero z hz dw
     split at hr
     ·rename_i hb
      cases hr
      have hb:=Nat.eq_of_beq_eq_true hb
      intro hC S0 w0 n O a w φ Q b hs hO E9
      obtain ⟨Lj,hC⟩:=hU hC
      obtain ⟨h1,h2,h3,h4,h5,-⟩:=hC
      have MC:b.eval l= .int kl L:=by rw [eH E9];exact bM (hl ▸ hs.bp l)
      have ec:b.eval c= .int kc C:=by rw [eH E9];exact bM (hc ▸ hs.bp c)
      obtain ⟨cur,cw,xi,bw⟩:=run_make ho MC ec hu hi hz dw hb h1 h2 h3 h4 h5 w
      have lJ:Below w.heap.size w {w with heap:=w.heap.push (.cells cur el (0,0))}:=⟨rfl,rfl,rfl,by simp,fun k hk=>cL w _ k hk⟩
      have G7:(zero.cells.toList.map bE).length=z+1:=by simp [hb]
      have G_:=tE (zero.cells.toList.map bE) (z+1) G7 h.k
      have hle:(z+1)*h.k≤(z+1)*h.m:=Nat.mul_le_mul_left _ h3
      refine cU cw ⟨_,rfl,lJ,?_⟩
      simp only [Lj]
      refine .rep (fe (r:=⟨z+1,true,false,tF (zero.cells.toList.map bE) h.k⟩) (dM w _) (kQ hs hO lJ _ (.inr ⟨Nat.le_refl _,by simp⟩)) _ 0 (by rw [G_,xi];omega) G_ h3 h5 _ (fun _=>rfl) (fun j u x hu hx=>?_))
      have h6:=xE _ (z+1) G7 ah _ _ _ hx
      have h7:=bw j u (by simpa using hu)
      rw [List.getElem?_map] at h6
      have h8:zero.cells.toList[j%(z+1)]?=some u:=by simpa using h7
      rw [h8] at h6;injection h6 with h6;subst h6;exact fV u
     ·cases hr
    ·cases hr
   ·cases hr
  ·cases hr
 ·exact sw (kU hr)
 ·rename_i c xs ts _ ho
  split at hr
  ·rename_i f x hc _
   split at hr
   ·rename_i hE _
    split at hr
    ·rename_i vs C hv tp
     cases hr
     refine u0 ho hc hE (fun hC=>hC.1) ?_ fun hC S0 w0 n O a w φ hs=>?_
     ·have key:∀(l:List AV) (m:List AV),jT s l=some m->m.length=l.length:=by
       intro l
       induction l with
       | nil=>intro m h;cases h;rfl
       | cons y l ih =>
        intro m h
        simp only [jT] at h
        split at h
        ·rename_i y' m' _ hm
         cases h
         simp [ih m' hm]
        ·cases h
      rw [key _ _ hv];simp
     ·exact ⟨fun b=>b<w.heap.size,fun _ h=>h,(lT hs _ _ hv).2,fun w' v _ hg=>tt tp hC.2 hg⟩
    ·cases hr
   ·rename_i hE _
    split at hr
    ·rename_i wa
     cases hr
     refine u0 ho hc hE (fun hC=>hC.1) (by simp) fun hC S0 w0 n O a w φ hs=>⟨aQ S0 w φ O,fun b hb=>hb.1,fun j v x hv hx=>?_,fun w' v _ hg=>hg⟩
     have Ns:=lY wa hx
     rw [List.getElem?_map] at hv hx
     cases hj:xs.toList[j]? with
     | none=>rw [hj] at hv;cases hv
     | some y =>
      rw [hj] at hv hx
      injection hv with hv;injection hx with hx;subst hv;subst hx
      exact oc (hs.bp y) Ns
    ·cases hr
   ·cases hr
  ·cases hr
 ·exact sw (kU hr)
end
section
variable {P:Program} {ops:List Oper} {S0:bn} {w0:World} {Q:Exit->Act->World->Prop}
theorem Jz {s:AS} {o:Oper} {h:Hint} {r:AV×List Prop} (hr:s6 P ops s o h=some r) (hC:bz r.2) {n:Nat} {O:List Nat} {a b:Act} {w:World} {φ:Nat->Option Nat} (hs:aO S0 w0 n O s a w φ) (hO:∀g∈O,g<w.heap.size) (hb:b.tmps=a.tmps) :
  gS P ops.toArray Q o b w fun v w'=>w.heap.size≤w'.heap.size∧Den (az s.H φ) (aQ S0 w' φ O) w' v r.1:=by
 unfold s6 at hr
 unfold gS
 split at hr
 ·rename_i hg
  have hw:Region.wanted o (yielded ops.toArray b.tmps)=true:=by unfold Region.wanted;rw [hg]
  rw [if_pos hw]
  exact Oper.wp_mono (fun b' w' ⟨v,h1,h2,h3⟩=>⟨v,h1,h2,h2.size,h3⟩) (vo hr hC S0 w0 n O a w φ Q b hs hO hb)
 ·rename_i j want hg
  split at hr
  ·rename_i p hp
   split at hr
   ·rename_i d hd
    split at hr
    ·rename_i bb rE
     have ht:=hs.get d
     rw [rE] at ht
     have hy:=mn (ops:=ops) hp hd (qE ht)
     rw [←hb] at hy
     split at hr
     ·rename_i j0
      split at hr
      ·rename_i x C he
       cases hr
       obtain ⟨Gn,hC⟩:=hC
       have hw:Region.wanted o (yielded ops.toArray b.tmps)=true:=by
        unfold Region.wanted;rw [hg];simp only [hy,Gn]
        have:h.g=want:=by simpa using j0
        rw [this];simp
       rw [if_pos hw]
       exact Oper.wp_mono (fun b' w' ⟨v,h1,h2,h3⟩=>⟨v,h1,h2,h2.size,h3⟩) (vo he hC S0 w0 n O a w φ Q b hs hO hb)
      ·cases hr
     ·rename_i j0
      cases hr
      obtain ⟨Gn,-⟩:=hC
      have hw:¬Region.wanted o (yielded ops.toArray b.tmps)=true:=by
       unfold Region.wanted;rw [hg];simp only [hy,Gn]
       have:¬h.g=want:=by simpa using j0
       simpa using this
      rw [if_neg hw]
      exact ⟨Nat.le_refl _,.rep (.val _)⟩
    ·rename_i arr rE
     have ht:=hs.get d
     rw [rE] at ht
     have hy:=mm (ops:=ops) hp hd (bM ht)
     rw [←hb] at hy
     cases hr
     have hw:¬Region.wanted o (yielded ops.toArray b.tmps)=true:=by
      unfold Region.wanted;rw [hg];simp [hy]
     rw [if_neg hw]
     exact ⟨Nat.le_refl _,.rep (.val _)⟩
    ·cases hr
   ·cases hr
  ·cases hr
end
def wF (s:AS):List (Nat×AV)->List (Nat×AV)
 | []=>[]
 | (i,x)::l=>(i,(view s x).getD .dead)::wF s l
theorem uG (s:AS):∀(l:List (Nat×AV)) (i:Nat),look (wF s l) i=(look l i).map fun x=>(view s x).getD .dead
 | [],i=>rfl
 | (k,x)::l,i=>by
  simp only [wF,aF,uG s l i]
  by_cases h:k=i<;>simp [h]
section
variable {P:Program} {n:Nat} {s:AS} {o:Oper} {h:Hint} {S0:bn} {w0 w:World} {O:List Nat} {a b:Act} {φ:Nat->Option Nat}
theorem Ho (hs:aO S0 w0 n O s a w φ):aO ⟨fun _=>True,fun _=>False,fun _=>none,a.defers⟩ w n [] ⟨wF s s.F,[]⟩ a w (fun _=>none) where
 jS:=hs.jS
 jV:=rfl
 cZ:=⟨rfl,rfl,rfl,Nat.le_refl _,fun _ _ _=>rfl,hs.cZ.mP,fun _ _ h=>h⟩
 cC:=fun i av hi=>by
  have hi:look (wF s s.F) i=some av:=hi
  rw [uG] at hi
  cases hl:look s.F i with
  | none=>rw [hl] at hi;cases hi
  | some x =>
   rw [hl] at hi;injection hi with hi;subst hi
   show Den _ _ _ _ ((view s x).getD .dead)
   cases hv:view s x with
   | none=>exact .dead _
   | some y =>
    refine .rep ((xG hs (hs.cC i x hl) hv).mono ?_)
    intro b hb
    exact ⟨⟨hb,by simp,fun _ h=>(by cases h),trivial⟩,rfl⟩
 rows:=fun id r hr=>by cases hr
 only:=fun _ _=>rfl
 inj:=fun _ _ _ h=>by cases h
 cY:=fun _ _ h=>by cases h
 apart:=fun _ _ h=>by cases h
 new:=fun _ _=>trivial
theorem FB {K:Act->World->Prop} {Q:Exit->Act->World->Prop} (h:o.wp P a w K (fun _ _ _=>False)) (hK:∀a' w',K a' w'->a'.defers=a.defers) (hb:b.tmps=a.tmps):o.wp P b w (fun b' w'=>∃v,b'=b.put o.dst v∧K (a.put o.dst v) w') Q:=by
 unfold Oper.wp at *
 rw [eH hb]
 generalize (execOp a.eval o).run P w=r at *
 cases r with
 | halt x w'=>cases x with
  | panic v=>exact h.elim
  | _=>exact h
 | ok x w'=>cases x with
  | value v=>exact ⟨v,rfl,h⟩
  | skip=>exact ⟨undef,rfl,h⟩
  | enter f args =>
   refine Calls.mono h fun e fy he=>?_
   cases e with
   | returned v=>exact ⟨v,rfl,he⟩
   | panicked c=>exact he.elim
   | outgrown=>obtain ⟨_,_,hf⟩:=he;exact hf.elim
  | defer d =>
   have:=congrArg List.length (hK _ _ h)
   rw [pH] at this
   simp at this
  | row r args=>exact Rows.mono h fun v fy he=>⟨v,rfl,he⟩
  | _=>exact h
def zb (P:Program) (n:Nat) (s:AS) (o:Oper) (h:Hint):Option (AV×List Prop) :=
 match o.guard,o.dst with
 | none,some d=>(match BU P n ⟨wF s s.F,[]⟩ o h with
  | some (s',C)=>(match look s'.F d,look s'.H d with
   | some (.ref d'),some ⟨e,true,_,row⟩=>(match Nat.beq d' d with|true=>some (.own e row,C++ [lr row])|false=>none)
   | _,_=>none)
  | none=>none)
 | _,_=>none
theorem GC {Q:Exit->Act->World->Prop} {ops:Array Oper} {x:AV} {C:List Prop} (hr:zb P n s o h=some (x,C)) (hC:bz C) (hs:aO S0 w0 n O s a w φ) (hb:b.tmps=a.tmps) :
  (∃e row,x= .own e row)∧gS P ops Q o b w fun v w'=>∃O',ib (fun _=>False) w' v x O'∧O'.Nodup∧ ∀g∈O',w.heap.size≤g∧g<w'.heap.size:=by
 unfold zb at hr
 split at hr
 ·rename_i d hg hd
  split at hr
  ·rename_i s' C' vL
   split at hr
   ·rename_i d' e fl row hF hH
    split at hr
    ·rename_i SC
     cases hr
     have SC:=Nat.eq_of_beq_eq_true SC
     subst SC
     obtain ⟨Qv,hv,-⟩:=bT.1 hC
     refine ⟨⟨e,row,rfl⟩,?_⟩
     have hw:Region.wanted o (yielded ops b.tmps)=true:=by unfold Region.wanted;rw [hg]
     unfold gS
     rw [if_pos hw]
     have key:=ou vL Qv ⟨fun _=>True,fun _=>False,fun _=>none,a.defers⟩ w a w (fun _ _ _=>False) ⟨_,Ho hs⟩
     refine Oper.wp_mono ?_ (FB (Q:=Q) key (fun a' w' ⟨_,b7⟩=>b7.jV) hb)
     rintro b' w' ⟨v,rfl,cA,b7⟩
     refine ⟨v,rfl,b7.cZ.below (fun _ h=>h),?_⟩
     have dw:d'<a.tmps.size:=by
      rcases Nat.lt_or_ge d' a.tmps.size with h|h
      ·exact h
      ·exfalso
       have dV:=b7.cC d' _ hF
       have uR:(a.put o.dst v).tmps.getD d' undef=undef:=by
        have:(a.put o.dst v).tmps.size≤d':=by rw [tR];exact h
        simp [Array.getElem?_eq_none this]
       rw [uR] at dV
       cases dV with
       | rep h=>cases h
     have iW:(a.put o.dst v).tmps.getD d' undef=v:=by rw [hd,qa a d' d' v dw,if_pos rfl]
     have dV:=b7.cC d' _ hF
     rw [iW] at dV
     have aR:=b7.rows d' _ hH
     have nN:=bu (φ:=cA) hH
     unfold bR at aR
     cases dV with
     | rep h=>cases h
     | ref id e' m g l c hi hm hc hx gF =>
      rw [nN] at hi
      simp only [Option.some.injEq,Prod.mk.injEq] at hi
      obtain ⟨he,ml,ct⟩:=hi
      subst he;subst ml
      rw [ct] at aR
      obtain ⟨cur,te,fr,T6,gJ,hle,m7,dN⟩:=aR
      have xi:cur.size=e*c:=by unfold a7 at gF;rw [T6] at gF;exact gF
      refine ⟨[g],.own g l c e row cur te fr T6 gJ hm hc hx xi (fun j u x hu hx=>?_),by simp,fun g' ja=>by simp at ja;subst ja;exact ⟨(b7.cY _ _ ct).1.2.elim id fun h=>h.elim,(b7.cY _ _ ct).2⟩⟩
      obtain ⟨v',rfl⟩:=hv x (List.mem_of_getElem? hx)
      have:=dN j u _ hu hx
      have this:cB _ w' u (.val v'):=this
      cases this
      exact .val _
     | cD id e' hi =>
      rw [nN] at hi
      simp only [Option.some.injEq,Prod.mk.injEq] at hi
      obtain ⟨he,ml,ct⟩:=hi
      have:row= []:=List.eq_nil_of_length_eq_zero ml
      subst this
      exact ⟨[],.nil e,by simp,by simp⟩
    ·cases hr
   ·cases hr
  ·cases hr
 ·cases hr
end
def nt:AV->AV
 | .own _ _=>.dead
 | .box _=>.dead
 | x=>x
def qw (P:Program) (n:Nat) (s:AS) (ds:List Nat) (ops:List Oper) (hs:List (Nat×Hint)) (Ks:List Nat):List Oper->Nat->List AV->Option (List AV×List Prop)
 | [],_,gP=>some (gP,[])
 | o::l,i,gP=>match (match Ks.any (Nat.beq i) with
   | true=>zb P n (wo s ds ops (gP.map nt) o) o (gC hs i)
   | false=>s6 P ops (wo s ds ops (gP.map nt) o) o (gC hs i)) with
  | some (x,C)=>(match qw P n s ds ops hs Ks l (i+1) (gP++ [x]) with|some (i9,D)=>some (i9,C++D)|none=>none)
  | none=>none
def i_:List Oper->List AV->List (Nat×Nat×List AV)
 | o::l,.own e row::m=>(match o.dst with|some d=>(d,e,row)::i_ l m|none=>i_ l m)
 | _::l,_::m=>i_ l m
 | _,_=>[]
def Ed:AS->List (Nat×Nat×List AV)->AS
 | s,[]=>s
 | s,(d,e,row)::l=>Ed ⟨(d,.ref d)::s.F,(d,⟨e,true,false,row⟩)::s.H⟩ l
def l9 (s:AS):List (Nat×Nat×List AV)->Bool
 | []=>true
 | (d,_,_)::l=>match look s.H d,Nat.ble d 999999999999 with|none,true=>l9 s l|_,_=>false
def zh (P:Program) (n T:Nat) (Ks:List Nat) (ops:List Oper) (hs:List (Nat×Hint)) (s:AS):Option (AS×List Prop) :=
 match P.follows .mixedOrders,lK ops.toArray n,oQ ops.toArray T with
 | true,true,true=>(match qw P n s ((ops.take T).filterMap (·.dst)) ops hs Ks (ops.take T) 0 [] with
  | some (gP,C)=>(match l9 s (i_ (ops.take T) gP),j8 P n ops hs (ops.drop T) T (Ed ⟨jb (ops.take T) (gP.map nt)++nI ((ops.take T).filterMap (·.dst)) s.F,s.H⟩ (i_ (ops.take T) gP)) with
   | true,some (s',D)=>some (s',C++D)
   | _,_=>none)
  | none=>none)
 | _,_,_=>none
theorem sE {P:Program} {n:Nat} {ops:List Oper} {s:AS} {ds:List Nat} {hs:List (Nat×Hint)} {Ks:List Nat}:∀(l:List Oper) (i:Nat) (gP i9:List AV) (C:List Prop),qw P n s ds ops hs Ks l i gP=some (i9,C)->bz C->gP.length=i ->
  i9.length=i+l.length∧i9.take i=gP∧ ∀(j:Nat) (o:Oper),l[j]?=some o-> ∃x D,i9[i+j]?=some x∧bz D∧(zb P n (wo s ds ops ((i9.take (i+j)).map nt) o) o (gC hs (i+j))=some (x,D)∨s6 P ops (wo s ds ops ((i9.take (i+j)).map nt) o) o (gC hs (i+j))=some (x,D))
 | [],i,gP,i9,C,he,hC,hl=>by
  cases he
  exact ⟨by simp [hl],by rw [←hl,List.take_length],fun j o h=>by simp at h⟩
 | o::l,i,gP,i9,C,he,hC,hl=>by
  simp only [qw] at he
  split at he
  ·rename_i x C1 h1
   split at he
   ·rename_i Tn D h2
    cases he
    obtain ⟨iJ,hD⟩:=bT.1 hC
    obtain ⟨e1,e2,e3⟩:=sE l (i+1) (gP++ [x]) i9 D h2 hD (by simp [hl])
    have e4:i9.take i=gP:=by
     have:=congrArg (List.take i) e2
     rw [List.take_take,Nat.min_eq_left ah,←hl,List.take_left] at this
     rw [←hl];exact this
    have e5:i9[i]?=some x:=by
     have h3:(i9.take (i+1))[i]?=some x:=by rw [e2,List.getElem?_append_right ah,hl];simp
     exact bZ _ _ _ _ h3
    refine ⟨by rw [e1,List.length_cons];omega,e4,fun j p hp=>?_⟩
    cases j with
    | zero =>
     simp at hp;subst hp
     refine ⟨x,C1,by simpa using e5,iJ,?_⟩
     simp only [Nat.add_zero]
     rw [e4]
     split at h1
     ·exact .inl h1
     ·exact .inr h1
    | succ j =>
     obtain ⟨y,D',h5,h6,h7⟩:=e3 j p (by simpa using hp)
     rw [show i+1+j=i+(j+1) by omega] at h5 h7
     exact ⟨y,D',h5,h6,h7⟩
   ·cases he
  ·cases he
theorem kn (s:AS):∀(L:List (Nat×Nat×List AV)),l9 s L=true↔ ∀p∈L,look s.H p.1=none∧p.1<1000000000000
 | []=>by simp [l9]
 | (d,e,row)::L=>by
  simp only [l9]
  split
  ·rename_i h hb
   have hb:=Nat.le_of_ble_eq_true hb
   rw [kn s L]
   constructor
   ·intro hL p hp
    rcases List.mem_cons.1 hp with rfl|hp
    ·exact ⟨h,by show d<_;omega⟩
    ·exact hL p hp
   ·intro hL p hp;exact hL p (by simp [hp])
  ·rename_i fM
   constructor
   ·intro hf;cases hf
   ·intro hL
    have:=hL (d,e,row) (by simp)
    exact (fM this.1 (by have:=this.2;simp at this;exact Nat.ble_eq_true_of_le ah)).elim
theorem w8:∀(l:List Oper) (m:List AV) (p:Nat×Nat×List AV),p∈i_ l m->p.1∈l.filterMap (·.dst)
 | [],m,p,h=>by cases m<;>simp [i_] at h
 | o::l,[],p,h=>by simp [i_] at h
 | o::l,x::m,p,h=>by
  have step:p∈i_ l m->p.1∈(o::l).filterMap (·.dst):=fun h=>by
   have:=w8 l m p h
   rw [List.mem_filterMap] at this ⊢
   obtain ⟨q,h1,h2⟩:=this
   exact ⟨q,by simp [h1],h2⟩
  cases x with
  | own e row =>
   simp only [i_] at h
   split at h
   ·rename_i d hd
    rcases List.mem_cons.1 h with rfl|h
    ·rw [List.mem_filterMap];exact ⟨o,by simp,hd⟩
    ·exact step h
   ·exact step h
  | _=>exact step h
def fE (own:Nat->List Nat):List Oper->List AV->Nat->List Nat
 | o::l,.own _ _::m,i=>(match o.dst with|some _=>own i++fE own l m (i+1)|none=>fE own l m (i+1))
 | _::l,_::m,i=>fE own l m (i+1)
 | _,_,_=>[]
theorem oe (own:Nat->List Nat):∀(l:List Oper) (m:List AV) (i g:Nat),g∈fE own l m i-> ∃k,i≤k∧k<i+l.length∧g∈own k
 | [],m,i,g,h=>by cases m<;>simp [fE] at h
 | o::l,[],i,g,h=>by simp [fE] at h
 | o::l,x::m,i,g,h=>by
  have step:g∈fE own l m (i+1)-> ∃k,i≤k∧k<i+(o::l).length∧g∈own k:=fun h=>by
   obtain ⟨k,h1,h2,h3⟩:=oe own l m (i+1) g h
   exact ⟨k,ah,by simp only [List.length_cons];omega,h3⟩
  cases x with
  | own e row =>
   simp only [fE] at h
   split at h
   ·rcases List.mem_append.1 h with h|h
    ·exact ⟨i,ah,by simp only [List.length_cons];omega,h⟩
    ·exact step h
   ·exact step h
  | _=>exact step h
theorem sn (own:Nat->List Nat) (h1:∀k,(own k).Nodup) (h2:∀j k g,g∈own j->g∈own k->j=k):∀(l:List Oper) (m:List AV) (i:Nat),(fE own l m i).Nodup
 | [],m,i=>by cases m<;>simp [fE]
 | o::l,[],i=>by simp [fE]
 | o::l,x::m,i=>by
  have ih:=sn own h1 h2 l m (i+1)
  cases x with
  | own e row =>
   simp only [fE]
   split
   ·rw [List.nodup_append]
    refine ⟨h1 i,ih,fun g hg g' ja e=>?_⟩
    subst e
    obtain ⟨k,h3,-,h4⟩:=oe own l m (i+1) _ ja
    have:=h2 i k _ hg h4
    omega
   ·exact ih
  | _=>exact ih
section
variable {S0:bn} {w0 w:World} {n:Nat} {a:Act}
theorem zJ (own:Nat->List Nat):∀(l:List Oper) (m:List AV) (i:Nat) (s:AS) (φ:Nat->Option Nat),aO S0 w0 n (fE own l m i) s a w φ ->
  (∀(j:Nat) o e row d,l[j]?=some o->m[j]?=some (.own e row)->o.dst=some d->ib (fun _=>False) w (a.tmps.getD d undef) (.own e row) (own (i+j))) ->
  (fE own l m i).Nodup->(∀g∈fE own l m i,(w0.heap.size≤g∨S0.X g)∧g<w.heap.size)->l9 s (i_ l m)=true->(l.filterMap (·.dst)).Nodup ->
  ∃ cA,aO S0 w0 n [] (Ed s (i_ l m)) a w cA
 | [],m,i,s,φ,h,_,_,_,_,_=>by cases m<;>exact ⟨φ,h⟩
 | o::l,[],i,s,φ,h,_,_,_,_,_=>⟨φ,h⟩
 | o::l,x::m,i,s,φ,h,hv,ir,mL,gJ,NL=>by
  have NK:(l.filterMap (·.dst)).Nodup:=List.Nodup.sublist ((List.sublist_cons_self o l).filterMap _) NL
  have ID:∀(j:Nat) o e row d,l[j]?=some o->m[j]?=some (.own e row)->o.dst=some d->ib (fun _=>False) w (a.tmps.getD d undef) (.own e row) (own (i+1+j)):=fun j p e row d h1 h2 h3=>by
   have:=hv (j+1) p e row d (by simpa using h1) (by simpa using h2) h3
   rwa [show i+(j+1)=i+1+j by omega] at this
  cases x with
  | own e row =>
   cases hd:o.dst with
   | none =>
    have e1:fE own (o::l) (.own e row::m) i=fE own l m (i+1):=by simp only [fE,hd]
    have e2:i_ (o::l) (.own e row::m)=i_ l m:=by simp only [i_,hd]
    rw [e1] at h ir mL
    rw [e2] at gJ ⊢
    exact zJ own l m (i+1) s φ h ID ir mL gJ NK
   | some d =>
    have e1:fE own (o::l) (.own e row::m) i=own i++fE own l m (i+1):=by simp only [fE,hd]
    have e2:i_ (o::l) (.own e row::m)=(d,e,row)::i_ l m:=by simp only [i_,hd]
    rw [e1] at h ir mL
    rw [e2] at gJ ⊢
    have NC:=(kn s _).1 gJ
    have hg:=hv 0 o e row d rfl rfl hd
    simp only [Nat.add_zero] at hg
    obtain ⟨iI,h1,h2,-⟩:=mr (S0:=S0) (w0:=w0) (w:=w) (n:=n) (a:=a) s φ (own i) (fE own l m (i+1)) _ (.own e row) d h (hg.mono fun b hb=>hb.elim) ir (fun g hg=>mL g (by simp [hg])) (fun j hj=>by
     simp [jr] at hj;subst hj;exact NC _ (List.mem_cons_self ..)) (by simp [jr])
    have h3:aO S0 w0 n (fE own l m (i+1)) ⟨(d,.ref d)::s.F,(d,⟨e,true,false,row⟩)::s.H⟩ a w iI:=by
     refine ⟨h1.jS,h1.jV,h1.cZ,fun j av hj=>?_,h1.rows,h1.only,h1.inj,h1.cY,h1.apart,h1.new⟩
     have hj:look ((d,AV.ref d)::s.F) j=some av:=hj
     rw [aF] at hj
     by_cases SB:d=j
     ·rw [if_pos SB] at hj;injection hj with hj;subst hj;subst SB
      exact h2
     ·rw [if_neg SB] at hj
      exact h1.cC j av hj
    refine zJ own l m (i+1) _ iI h3 ID (List.nodup_append.1 ir).2.1 (fun g hg=>mL g (by simp [hg])) ?_ NK
    rw [kn]
    intro p hp
    refine ⟨?_,(NC p (by simp [hp])).2⟩
    show look ((d,_)::s.H) p.1=none
    rw [aF]
    have cW:d≠p.1:=fun e=>by
     have:=w8 l m p hp
     rw [List.filterMap_cons_some (by simpa using hd)] at NL
     exact (List.nodup_cons.1 NL).1 (by rw [e];exact this)
    rw [if_neg cW]
    exact (NC p (by simp [hp])).1
  | _=>exact zJ own l m (i+1) s φ h ID ir mL gJ NK
theorem ib.grow {w w':World} (hb:Below w.heap.size w w') {v:Value} {x:AV} {O:List Nat} (h:ib (fun _=>False) w v x O):ib (fun _=>False) w' v x O:=by
 cases h with
 | rep h=>exact .rep (h.mono fun b hb=>hb.elim)
 | nil e=>exact .nil e
 | own g l c e row cur te fr hg hf hl hc hm hs h =>
  have dk:g<w.heap.size:=(Array.getElem?_eq_some_iff.1 hg).1
  exact .own g l c e row cur te fr ((hb.block g dk).trans hg) hf hl hc hm hs fun j u x hu hx=>(h j u x hu hx).mono fun b hb=>hb.elim
 | box g row cur te fr hg hf hs h =>
  have dk:g<w.heap.size:=(Array.getElem?_eq_some_iff.1 hg).1
  exact .box g row cur te fr ((hb.block g dk).trans hg) hf hs fun j u x hu hx=>(h j u x hu hx).mono fun b hb=>hb.elim
theorem qS {I:Info} {S:Nat->Prop} {v:Value} {x:AV} (h:Den I S w v x):nt x=x:=by
 cases x with
 | own e row=>cases h with|rep h=>cases h
 | box row=>cases h with|rep h=>cases h
 | _=>rfl
end
section
variable {P:Program} {ops:List Oper} {S0:bn} {w0:World} {Q:Exit->Act->World->Prop}
def s9 (T:Nat) (own:Nat->List Nat):List Nat:=(List.range T).flatMap own
theorem kK {T g:Nat} {own:Nat->List Nat}:g∈s9 T own↔ ∃k,k<T∧g∈own k:=by
 unfold s9
 rw [List.mem_flatMap]
 exact ⟨fun ⟨k,h1,h2⟩=>⟨k,List.mem_range.1 h1,h2⟩,fun ⟨k,h1,h2⟩=>⟨k,List.mem_range.2 h1,h2⟩⟩
def H0 (own:Nat->List Nat) (i:Nat) (O:List Nat):Nat->List Nat:=fun k=>if k=i then O else own k
theorem DB {n T:Nat} {Ks:List Nat} {hs:List (Nat×Hint)} {s s':AS} {C:List Prop} (he:zh P n T Ks ops hs s=some (s',C)) (hC:bz C) {a:Act} {w:World} (gk:ix S0 w0 n s a w) (hQ:∀a' w',ix S0 w0 n s' a' w'->Q .normal a' w'):P.follows .mixedOrders=true∧wpAny P .any ops.toArray Q ops.toArray.size (Array.replicate ops.toArray.size false) a {w with drawn:=w.drawn+1}:=by
 unfold zh at he
 split at he
 ·rename_i hm hB hT
  split at he
  ·rename_i gP C1 Db
   split at he
   ·rename_i s2 D gJ oX
    cases he
    obtain ⟨iJ,hD⟩:=bT.1 hC
    obtain ⟨φ,lP⟩:=gk
    obtain ⟨hlen,-,gh⟩:=sE _ 0 [] gP C1 Db iJ rfl
    simp only [Nat.zero_add] at hlen gh
    obtain ⟨dk,ir,vN⟩:=f_ hB
    unfold oQ at hT
    simp only [Bool.and_eq_true,decide_eq_true_eq] at hT
    obtain ⟨⟨⟨He,LC⟩,LB⟩,LA⟩:=hT
    have SK:T<ops.length:=by simpa using He
    have vO:gP.length=T:=by rw [hlen,List.length_take];omega
    let F:(Nat->List Nat)->Nat->Value->World->Prop:=fun own k v w'=>w.heap.size≤w'.heap.size∧ ∀x,gP[k]?=some x->((∃e row,x= .own e row)∧ib (fun _=>False) w' v x (own k))∨Den (az s.H φ) (aQ S0 w' φ (s9 T own)) w' v x
    let J:(Nat->List Nat)->World->Prop:=fun own w'=>(∀k,(own k).Nodup)∧(∀j k g,g∈own j->g∈own k->j=k)∧(∀k g,g∈own k->w.heap.size≤g∧g<w'.heap.size)
    let St:Nat->(Nat->List Nat)->World->(Nat->List Nat)->World->Prop:=fun i own w1 uv _=>(∀k,k≠i->uv k=own k)∧ ∀g∈uv i,w1.heap.size≤g
    have uU:∀i k v own uv w1 w2,i≠k->Below w1.heap.size w1 w2->St i own w1 uv w2->F own k v w1->F uv k v w2:=by
     intro i k v own uv w1 w2 Mw hb ⟨Tu,UA⟩ ⟨h1,h2⟩
     refine ⟨Nat.le_trans h1 hb.size,fun x hx=>?_⟩
     rcases h2 x hx with ⟨e,hg⟩|dV
     ·left;rw [Tu k (Ne.symm Mw)];exact ⟨e,hg.grow hb⟩
     ·right
      have uR:∀b,aQ S0 w1 φ (s9 T own) b->b ∉ s9 T uv:=fun b hS rB=>by
       obtain ⟨j,hj,Kt⟩:=kK.1 rB
       by_cases Mv:j=i
       ·subst Mv;have:=UA b Kt;have:=hS.1;omega
       ·rw [Tu j Mv] at Kt;exact hS.2.1 (kK.2 ⟨j,hj,Kt⟩)
      have gF:∀id e m g,az s.H φ id=some (e,m,some g)->a7 w2 g=a7 w1 g:=fun id e m g hi=>by
       obtain ⟨r,-,-,-,ct⟩:=aT hi
       have:=(lP.cY id g ct).2
       unfold a7;rw [hb.block g ah]
      exact dV.mono (fun _ _ h=>h) (fun b hS=>⟨⟨by have:=hS.1;have:=hb.size;omega,uR b hS,hS.2.2⟩,hb.block b hS.1⟩) gF
    have waiting:∀(O:List Nat) w',Below w.heap.size w w'->(∀g∈O,w.heap.size≤g)->aO S0 w0 n O s a w' φ:=by
     intro O w' hb hO
     have h1:=nZ O [] s φ lP hO
     rw [List.append_nil] at h1
     exact h1.grow hb
    refine ⟨hm,Ae (γ :=Nat->List Nat) He LC LB LA lP.jS hB F J St uU ?_ ?_ ops.toArray.size _ a _ (fun _=>[]) ⟨(Below.refl _ _).drew,by simp,?_,rfl,rfl,?_,?_,fun _ _=>rfl⟩ ⟨by simp,by simp,by simp⟩ (fun j _=>by simp only [List.size_toArray];exact getD_replicate_false _ _) (by simp)⟩
    ·
     intro k o wg ho own a' w' hb hJ R3 jc fz
     have rA:ops[k]?=some o:=by simpa using ho
     obtain ⟨x,Dk,hx,Rl,ea⟩:=gh k o (by rw [List.getElem?_take,if_pos wg];exact rA)
     have kP:Below w.heap.size w w':=hb
     have SQ:∀g∈s9 T own,w.heap.size≤g:=fun g hg=>by
      obtain ⟨j,-,hj⟩:=kK.1 hg
      exact (hJ.2.2 j g hj).1
     have NS:∀g∈s9 T own,g<w'.heap.size:=fun g hg=>by
      obtain ⟨j,-,hj⟩:=kK.1 hg
      exact (hJ.2.2 j g hj).2
     have hg:=waiting (s9 T own) w' kP SQ
     have Kq:aO S0 w0 n (s9 T own) (wo s ((ops.take T).filterMap (·.dst)) ops ((gP.take k).map nt) o) ⟨a'.tmps,S0.sG⟩ w' φ:=by
      refine ⟨R3.trans lP.jS,rfl,hg.cZ,fun i av hi=>?_,hg.rows,hg.only,hg.inj,hg.cY,hg.apart,hg.new⟩
      show Den (az s.H φ) _ _ _ _
      unfold wo at hi
      rw [bQ] at hi
      cases I9:look (jo ops ((gP.take k).map nt) (bl o)) i with
      | some y =>
       rw [I9] at hi
       simp at hi;subst hi
       obtain ⟨d,p,h1,h2,h3,h4⟩:=oh _ _ _ _ _ I9
       rcases jc d h1 with hF|⟨q,hq,hn⟩
       ·have iW:r_ ops.toArray a' d=a'.tmps.getD i undef:=by
         unfold r_
         have:(ops.toArray[d]?).bind (·.dst)=some i:=by simp [h2,h3]
         rw [this]
        rw [iW] at hF
        rw [List.getElem?_map] at h4
        cases hz:(gP.take k)[d]? with
        | none=>rw [hz] at h4;cases h4
        | some z =>
         rw [hz] at h4;injection h4 with h4;subst h4
         rcases hF.2 z (bZ _ _ _ _ hz) with ⟨⟨e,row,rfl⟩,-⟩|dV
         ·exact .dead _
         ·rw [qS dV];exact dV
       ·have gO:ops[d]?=some q:=by simpa using hq
        rw [h2] at gO;injection gO with gO;subst gO
        rw [h3] at hn;cases hn
      | none =>
       rw [I9] at hi
       simp at hi
       obtain ⟨h1,h2⟩:=fX _ _ _ _ hi
       have hk:=fz i (fun j p hj hp=>(ku ops T i).1 h2 j p hj (by simpa using hp))
       have oK:a'.tmps.getD i undef=a.tmps.getD i undef:=hk
       show Den _ _ _ (a'.tmps.getD i undef) av
       rw [oK]
       exact hg.cC i av h1
     have iP:gS P ops.toArray Q o a' w' fun v w2=>w'.heap.size≤w2.heap.size∧ ∃O',O'.Nodup∧(∀g∈O',w'.heap.size≤g∧g<w2.heap.size)∧(((∃e row,x= .own e row)∧ib (fun _=>False) w2 v x O')∨(O'= []∧Den (az s.H φ) (aQ S0 w2 φ (s9 T own)) w2 v x)):=by
      rcases ea with ea|ea
      ·obtain ⟨Kn,hr⟩:=GC (Q:=Q) (ops:=ops.toArray) ea Rl Kq (b:=a') rfl
       unfold gS at hr ⊢
       split
       ·rename_i hw
        rw [if_pos hw] at hr
        exact Oper.wp_mono (fun b' w2 ⟨v,h1,h2,O',h3,h4,h5⟩=>⟨v,h1,h2,h2.size,O',h4,h5,.inl ⟨Kn,h3⟩⟩) hr
       ·rename_i hw
        rw [if_neg hw] at hr
        obtain ⟨O',h3,h4,h5⟩:=hr
        exact ⟨Nat.le_refl _,O',h4,h5,.inl ⟨Kn,h3⟩⟩
      ·have hr:=Jz (Q:=Q) (ops:=ops) ea Rl Kq NS (b:=a') rfl
       unfold gS at hr ⊢
       split
       ·rename_i hw
        rw [if_pos hw] at hr
        exact Oper.wp_mono (fun b' w2 ⟨v,h1,h2,h3,h4⟩=>⟨v,h1,h2,h3,[],by simp,by simp,.inr ⟨rfl,h4⟩⟩) hr
       ·rename_i hw
        rw [if_neg hw] at hr
        exact ⟨hr.1,[],by simp,by simp,.inr ⟨rfl,hr.2⟩⟩
     have fin:∀v w2,(w'.heap.size≤w2.heap.size∧ ∃O',O'.Nodup∧(∀g∈O',w'.heap.size≤g∧g<w2.heap.size)∧(((∃e row,x= .own e row)∧ib (fun _=>False) w2 v x O')∨(O'= []∧Den (az s.H φ) (aQ S0 w2 φ (s9 T own)) w2 v x)))-> ∃uv,St k own w' uv w2∧J uv w2∧F uv k v w2:=by
      rintro v w2 ⟨dw,O',h4,h5,h6⟩
      have p1:∀j,j≠k->H0 own k O' j=own j:=fun j hj=>by unfold H0;rw [if_neg hj]
      have p2:H0 own k O' k=O':=by unfold H0;rw [if_pos rfl]
      refine ⟨H0 own k O',⟨p1,fun g hg=>by rw [p2] at hg;exact (h5 g hg).1⟩,⟨fun j=>?_,fun i j g hi hj=>?_,fun j g hj=>?_⟩,Nat.le_trans kP.size dw,fun y hy=>?_⟩
      ·by_cases hj:j=k
       ·subst hj;rw [p2];exact h4
       ·rw [p1 j hj];exact hJ.1 j
      ·by_cases Mw:i=k
       ·by_cases wh:j=k
        ·rw [Mw,wh]
        ·subst Mw
         rw [p2] at hi;rw [p1 j wh] at hj
         have:=(h5 g hi).1;have:=(hJ.2.2 j g hj).2;omega
       ·by_cases wh:j=k
        ·subst wh
         rw [p2] at hj;rw [p1 i Mw] at hi
         have:=(h5 g hj).1;have:=(hJ.2.2 i g hi).2;omega
        ·rw [p1 i Mw] at hi;rw [p1 j wh] at hj;exact hJ.2.1 i j g hi hj
      ·by_cases wh:j=k
       ·subst wh;rw [p2] at hj
        exact ⟨Nat.le_trans kP.size (h5 g hj).1,(h5 g hj).2⟩
       ·rw [p1 j wh] at hj
        exact ⟨(hJ.2.2 j g hj).1,Nat.lt_of_lt_of_le (hJ.2.2 j g hj).2 dw⟩
      ·rw [hx] at hy;injection hy with hy;subst hy
       rcases h6 with ⟨e1,e2⟩|⟨e1,e2⟩
       ·left;rw [p2];exact ⟨e1,e2⟩
       ·right
        subst e1
        refine e2.mono (fun _ _ h=>h) (fun b hS=>⟨⟨hS.1,fun hm=>?_,hS.2.2⟩,rfl⟩) (fun _ _ _ _ _=>rfl)
        obtain ⟨j,hj,Kt⟩:=kK.1 hm
        by_cases wh:j=k
        ·subst wh;rw [p2] at Kt;simp at Kt
        ·rw [p1 j wh] at Kt;exact hS.2.1 (kK.2 ⟨j,hj,Kt⟩)
     unfold gS at iP ⊢
     split
     ·rename_i hw
      rw [if_pos hw] at iP
      exact Oper.wp_mono (fun b' w2 ⟨v,h1,h2,h3⟩=>⟨v,h1,h2,fin v w2 h3⟩) iP
     ·rename_i hw
      rw [if_neg hw] at iP
      exact fin undef w' iP
    ·
     intro vs own w' hb hJ yD
     have kP:Below w.heap.size w w':=hb
     have C7:∀g∈fE own (ops.take T) gP 0,g∈s9 T own:=fun g hg=>by
      obtain ⟨j,h1,h2,h3⟩:=oe own _ _ 0 g hg
      exact kK.2 ⟨j,by rw [List.length_take] at h2;omega,h3⟩
     have hOr:∀g∈fE own (ops.take T) gP 0,w.heap.size≤g∧g<w'.heap.size:=fun g hg=>by
      obtain ⟨j,h1,h2,h3⟩:=oe own _ _ 0 g hg
      exact hJ.2.2 j g h3
     have hg:=waiting (fE own (ops.take T) gP 0) w' kP (fun g hg=>(hOr g hg).1)
     have jP:=jL vs (ops.zipIdx.take T) a (by
      have h1:(ops.zipIdx.take T).filterMap (·.1.dst)=(ops.take T).filterMap (·.dst):=by
       conv=>rhs;rw [←List.zipIdx_map_fst 0 ops,←List.map_take]
       rw [List.filterMap_map];rfl
      rw [h1]
      exact List.Nodup.sublist ((List.take_sublist T ops).filterMap _) (by simpa using ir))
     have TM:∀(k:Nat) (o:Oper) (i:Nat),k<T->ops[k]?=some o->o.dst=some i->(eJ (ops.zipIdx.take T) vs a).tmps.getD i undef=vs k:=by
      intro k o i wg ho hd
      have hv:=jP.2.2.1 (o,k) ((l3 ops T _).2 ⟨wg,ho⟩) i hd (by rw [lP.jS];exact vN k o i (by simpa using ho) hd)
      simp [hv]
     show wpList P ops.toArray Q (ops.drop T) (eJ (ops.zipIdx.take T) vs a) w'
     have hA:aO S0 w0 n (fE own (ops.take T) gP 0) ⟨jb (ops.take T) (gP.map nt)++nI ((ops.take T).filterMap (·.dst)) s.F,s.H⟩ (eJ (ops.zipIdx.take T) vs a) w' φ:=by
      refine ⟨jP.1.trans lP.jS,jP.2.1.trans lP.jV,hg.cZ,fun i av hi=>?_,hg.rows,hg.only,hg.inj,hg.cY,hg.apart,hg.new⟩
      show Den (az s.H φ) _ _ _ _
      have hi:look (jb (ops.take T) (gP.map nt)++nI ((ops.take T).filterMap (·.dst)) s.F) i=some av:=hi
      rw [bQ] at hi
      cases hh:look (jb (ops.take T) (gP.map nt)) i with
      | some y =>
       rw [hh] at hi
       simp at hi;subst hi
       obtain ⟨k,o,h1,h2,h3⟩:=kN _ _ _ _ hh
       have wg:k<T:=by have:=(List.getElem?_eq_some_iff.1 h3).1;rw [List.length_map] at this;omega
       have ho:ops[k]?=some o:=bZ _ _ _ _ h1
       rw [TM k o i wg ho h2]
       rw [List.getElem?_map] at h3
       cases hz:gP[k]? with
       | none=>rw [hz] at h3;cases h3
       | some z =>
        rw [hz] at h3;injection h3 with h3;subst h3
        rcases (yD k wg).2 z hz with ⟨⟨e,row,rfl⟩,-⟩|dV
        ·exact .dead _
        ·rw [qS dV]
         exact dV.mono (fun _ _ h=>h) (fun b hS=>⟨⟨hS.1,fun hm=>hS.2.1 (C7 b hm),hS.2.2⟩,rfl⟩) (fun _ _ _ _ _=>rfl)
      | none =>
       rw [hh] at hi
       simp at hi
       obtain ⟨h1,h2⟩:=fX _ _ _ _ hi
       have hv:=jP.2.2.2 i (fun p hp hd=>(ku ops T i).1 h2 p.2 p.1 ((l3 ops T p).1 hp).1 ((l3 ops T p).1 hp).2 hd)
       have:(eJ (ops.zipIdx.take T) vs a).tmps.getD i undef=a.tmps.getD i undef:=by
        simp [hv]
       rw [this]
       exact hg.cC i av h1
     obtain ⟨cA,kk⟩:=zJ own (ops.take T) gP 0 _ φ hA (fun j o e row d h1 h2 h3=>by
      have Re:j<T:=by have:=(List.getElem?_eq_some_iff.1 h2).1;omega
      have ho:ops[j]?=some o:=bZ _ _ _ _ h1
      rw [TM j o d Re ho h3,Nat.zero_add]
      rcases (yD j Re).2 _ h2 with ⟨-,Vo⟩|dV
      ·exact Vo
      ·have:=qS dV;cases this) (sn own hJ.1 hJ.2.1 _ _ 0) (fun g hg=>⟨.inl (Nat.le_trans lP.cZ.size (hOr g hg).1),(hOr g hg).2⟩) (by
       rw [kn] at gJ ⊢
       exact gJ) (List.Nodup.sublist ((List.take_sublist T ops).filterMap _) (by simpa using ir))
     exact jQ (S0:=S0) (w0:=w0) _ _ _ _ _ oX hD _ _ ⟨cA,kk⟩ hQ
    ·intro k o hk;rw [getD_replicate_false] at hk;cases hk
    ·intro k o s hk;rw [getD_replicate_false] at hk;cases hk
    ·intro k o hk;rw [getD_replicate_false] at hk;cases hk
   ·cases he
  ·cases he
 ·cases he
def rL (P:Program) (n T:Nat) (Ks:List Nat) (hs:List (Nat×Hint)) (c:Code) (s:AS):Option (AS×List Prop) :=
 match c with
 | .region _ ⟨l⟩ true=>zh P n T Ks l hs s
 | _=>none
theorem bf.Pp {n:Nat} {c:Code} {Q:Exit->AS->Prop} {s s':AS} {C:List Prop} (T:Nat) (Ks:List Nat) (hs:List (Nat×Hint)) (he:rL P n T Ks hs c s=some (s',C)) (hC:bz C) (h:Q .normal s'):bf P n c Q s:=by
 intro S0 w0 a w gk
 unfold rL at he
 split at he
 ·exact DB (S0:=S0) (w0:=w0) he hC gk fun a' w' b7=>⟨s',h,b7.one⟩
 ·cases he
theorem bf.TA {n:Nat} {c:Code} {Q:Exit->AS->Prop} {s:AS} {C:List Prop} (T:Nat) (Ks:List Nat) (hs:List (Nat×Hint)) (he:pd (rL P n T Ks hs c s)=some C) (hC:bz C) (h:Q .normal (pZ (rL P n T Ks hs c s))):bf P n c Q s:=bf.Pp T Ks hs (iS he) hC h
end
end Go.Proofs.YtjgbhhnghedgdaaGreatDoor
