import Derived.Test.YtjgbhhnghedgdaaGreatDoorZsV8
set_option linter.all false
namespace Go.Proofs.YtjgbhhnghedgdaaGreatDoor
open Go.RowKit
section
variable {P:Program} {ops:Array Oper} {Q:Exit->Act->World->Prop} {a:Act} {w:World}
theorem yp {γ :Type} {n T:Nat} (hT:T<ops.size) (Jq:Region.sinkB .any ops T=true) (A_:Region.chainB .any ops T=true) (O6:Region.seqB .any ops (ops.size-T) T ((List.range ops.size).map (decide<| · <T)).toArray=true) (dc:a.tmps.size=n) (hB:lk ops n=true) (F: γ ->Nat->Value->World->Prop) (J: γ ->World->Prop) (St:Nat-> γ ->World-> γ ->World->Prop) (mono:∀i k v g g' w1 w2,i≠k->Below w1.heap.size w1 w2->St i g w1 g' w2->F g k v w1->F g' k v w2)
  (u7:∀k o,k<T->ops[k]?=some o-> ∀g a' w',Below w.heap.size w w'->J g w'->a'.tmps.size=a.tmps.size->(∀d∈ba o,F g d (rA ops a' d) w'∨(∃p,ops[d]?=some p∧p.dst=none))->(∀s,(∀(j:Nat) (p:Oper),j<T->ops[j]?=some p->p.dst≠some s)->a'.eval (.tmp s)=a.eval (.tmp s))->gE P ops Q o a' w' (fun v fa=>∃g',St k g w' g' fa∧J g' fa∧F g' k v fa))
  (lh:∀(vs:Nat->Value) (g: γ),∀w',Below w.heap.size w w'->J g w'->(∀k,k<T->F g k (vs k) w')->wpList P ops Q (ops.toList.drop T) (dX (ops.toList.zipIdx.take T) vs a) w') :
  ∀(fuel:Nat) (listed:Array Bool) (a':Act) (w':World) (g: γ),Inv ops (F g) a w listed a' w'->J g w'->(∀j,T≤j->listed.getD j false=false) ->
   (listed.toList.filter (· == false)).length=fuel->wpAny P .any ops Q fuel listed a' w':=by
 obtain ⟨cW,g_,u9⟩:=fI hB
 have ks:∀(listed:Array Bool) (a':Act) (w':World) (g: γ),Inv ops (F g) a w listed a' w'-> ∀k,k<T->listed.getD k false=false-> ∃i,i<T∧i∈Region.ready .any ops listed:=by
  intro listed a' w' g I k
  induction k using Nat.strongRecOn with
  | _ k ih =>
   intro hk hl
   have iw:k<listed.size:=by rw [I.size];omega
   have xp:k<ops.size:=ah
   have oP:ops[k]?=some ops[k]:=Array.getElem?_eq_getElem xp
   by_cases f_:∀d∈ba ops[k],listed.getD d false=true
   ·refine ⟨k,hk,?_⟩
    rw [mem_ready]
    refine ⟨?_,ops[k],oP,fun e he hb=>f_ e.on ?_⟩
    ·simp [iw] at hl ⊢;exact hl
    ·unfold ba
     exact List.mem_map.2 ⟨e,List.mem_filter.2 ⟨by simpa using he,hb⟩,rfl⟩
   ·have:∃d,d∈ba ops[k]∧listed.getD d false=false:=by
     refine Classical.byContradiction fun gu=>f_ fun d hd=>?_
     cases hx:listed.getD d false with
     | true=>rfl
     | false=>exact absurd ⟨d,hd,hx⟩ gu
    obtain ⟨d,hd,hx⟩:=this
    exact ih d (cW k _ oP d hd) (by have:=cW k _ oP d hd;omega) hx
 have done:∀(listed:Array Bool) (a':Act) (w':World) (g: γ),Inv ops (F g) a w listed a' w'->J g w'->(∀k,k<T->listed.getD k false=true)->(∀j,T≤j->listed.getD j false=false)->wpList P ops Q (ops.toList.drop T) a' w':=by
  intro listed a' w' g I hJ all tail
  have hv:∀k,∃v,k<T->(F g k v w'∧ ∀o s,ops[k]?=some o->o.dst=some s->a'.tmps[s]?=some v):=by
   intro k
   by_cases hk:k<T
   ·have xp:k<ops.size:=ah
    have oP:ops[k]?=some ops[k]:=Array.getElem?_eq_getElem xp
    cases hd:ops[k].dst with
    | none =>
     obtain ⟨v,hv⟩:=I.Dx k _ (all k hk) oP hd
     exact ⟨v,fun _=>⟨hv,fun o s ho hs=>by rw [oP] at ho;injection ho with ho;subst ho;rw [hd] at hs;cases hs⟩⟩
    | some s =>
     obtain ⟨v,hv,hF⟩:=I.val k _ s (all k hk) oP hd
     exact ⟨v,fun _=>⟨hF,fun o s' ho hs=>by rw [oP] at ho;injection ho with ho;subst ho;rw [hd] at hs;injection hs with hs;subst hs;exact hv⟩⟩
   ·exact ⟨undef,fun h=>absurd h hk⟩
  obtain ⟨vs,DM⟩:=Classical.axiomOfChoice hv
  have qO:∀p:Oper×Nat,p∈ops.toList.zipIdx.take T↔(p.2<T∧ops[p.2]?=some p.1):=by
   intro p
   rw [List.mem_iff_getElem?]
   constructor
   ·rintro ⟨x,hx⟩
    rw [List.getElem?_take] at hx
    split at hx
    ·rename_i z7
     rw [List.getElem?_zipIdx] at hx
     cases ho:ops.toList[x]? with
     | none=>rw [ho] at hx;simp at hx
     | some q =>
      rw [ho] at hx
      simp at hx
      subst hx
      exact ⟨by simpa using z7,by simpa using ho⟩
    ·cases hx
   ·rintro ⟨h1,h2⟩
    refine ⟨p.2,?_⟩
    rw [List.getElem?_take,if_pos h1,List.getElem?_zipIdx]
    have Oh:ops.toList[p.2]?=some p.1:=by simpa using h2
    rw [Oh];simp
  have jC:=jx vs (ops.toList.zipIdx.take T) a (by
   have h1:(ops.toList.zipIdx.take T).filterMap (·.1.dst)=(ops.toList.take T).filterMap (·.dst):=by
    conv=>rhs;rw [←List.zipIdx_map_fst 0 ops.toList,←List.map_take]
    rw [List.filterMap_map];rfl
   rw [h1]
   exact List.Nodup.sublist ((List.take_sublist T ops.toList).filterMap _) g_)
  have he:a'=dX (ops.toList.zipIdx.take T) vs a:=by
   have ht:a'.tmps=(dX (ops.toList.zipIdx.take T) vs a).tmps:=by
    apply Array.ext_getElem?
    intro s
    by_cases hs:∃(k:Nat) (o:Oper),k<T∧ops[k]?=some o∧o.dst=some s
    ·obtain ⟨k,o,hk,ho,hd⟩:=hs
     rw [(DM k hk).2 o s ho hd]
     exact (jC.2.2.1 (o,k) ((qO _).2 ⟨hk,ho⟩) s hd (by rw [dc];exact u9 k o s ho hd)).symm
    ·rw [I.old s fun k o hl ho hd=>hs ⟨k,o,(Classical.byContradiction fun hk=>(by have:=tail k (Nat.le_of_not_lt hk);rw [this] at hl;cases hl)),ho,hd⟩]
     exact (jC.2.2.2 s fun p hp hd=>hs ⟨p.2,p.1,((qO p).1 hp).1,((qO p).1 hp).2,hd⟩).symm
   have hd:a'.defers=(dX (ops.toList.zipIdx.take T) vs a).defers:=I.sw.trans jC.2.1.symm
   cases a';cases h:dX (ops.toList.zipIdx.take T) vs a
   rw [h] at ht hd
   simp only at ht hd
   rw [ht,hd]
  rw [he]
  exact lh vs g w' I.grown hJ (fun k hk=>(DM k hk).1)
 have rest:∀(fuel:Nat) (listed:Array Bool) (a':Act) (w':World) (g: γ),Inv ops (F g) a w listed a' w'->J g w'->(∀j,T≤j->listed.getD j false=false)->(listed.toList.filter (· == false)).length=fuel->(∀k,k<T->listed.getD k false=true)->wpAny P .any ops Q fuel listed a' w':=by
  intro fuel listed a' w' g I hJ tail hc all
  have nn:listed=((List.range ops.size).map (decide<| · <T)).toArray:=by
   apply Array.ext_getElem?
   intro x
   by_cases hx:x<ops.size
   ·have FP:x<listed.size:=by rw [I.size];exact hx
    have hr:((List.range ops.size).map (decide<| · <T)).toArray[x]?=some (decide (x<T)):=by simp [hx]
    rw [hr]
    by_cases z7:x<T
    ·have:=all x z7;simp [FP] at this ⊢;rw [this,decide_eq_true z7]
    ·have:=tail x ah;simp [FP] at this ⊢;rw [this,decide_eq_false z7]
   ·rw [Array.getElem?_eq_none (by rw [I.size];omega),Array.getElem?_eq_none (by simp;omega)]
  have hlen:fuel=(ops.toList.drop T).length:=by
   rw [←hc,nn]
   simp only [List.length_drop,Array.length_toList,List.filter_map,List.length_map]
   have key:∀n,T≤n->((List.range n).filter ((fun x=>x == false) ∘ (decide<| · <T))).length=n-T:=by
    intro n hn
    induction n with
    | zero=>simp
    | succ n ih =>
     rw [List.range_succ,List.filter_append,List.length_append]
     by_cases Pl:T≤n
     ·rw [ih Pl]
      have:((fun x=>x == false) ∘ (decide<| · <T)) n=true:=by simp;omega
      rw [List.filter_cons_of_pos this];simp;omega
     ·obtain rfl:T=n+1:=ah
      have h1:(List.range n).filter ((fun x=>x == false) ∘ (decide<| · <n+1))= []:=by
       rw [List.filter_eq_nil_iff];intro x hx;have:=List.mem_range.1 hx;simp;omega
      have h2:[n].filter ((fun x=>x == false) ∘ (decide<| · <n+1))= []:=by
       rw [List.filter_eq_nil_iff];intro x hx;simp at hx;subst hx;simp
      rw [h1,h2];simp
   exact key ops.size ah
  rw [hlen]
  refine wpAny_of_seq (ops.toList.drop T) T listed a' w' (fun j=>by rw [List.getElem?_drop];simp) ?_ (done listed a' w' g I hJ all tail)
  rw [nn]
  simpa using O6
 intro fuel
 induction fuel with
 | zero =>
  intro listed a' w' g I hJ tail hc
  refine rest 0 listed a' w' g I hJ tail hc fun k hk=>?_
  cases hx:listed.getD k false with
  | true=>rfl
  | false =>
   exfalso
   have iw:k<listed.size:=by rw [I.size];omega
   have:false∈listed.toList.filter (· == false):=by
    refine List.mem_filter.2 ⟨?_,rfl⟩
    have h1:listed.toList[k]?=some false:=by simp [iw] at hx ⊢;exact hx
    exact List.mem_of_getElem? h1
   have:=List.length_pos_of_mem this
   omega
 | succ fuel ih =>
  intro listed a' w' g I hJ tail hc
  by_cases hex:∀k,k<T->listed.getD k false=true
  ·exact rest (fuel+1) listed a' w' g I hJ tail hc hex
  have OY:∃k,k<T∧listed.getD k false=false:=by
   refine Classical.byContradiction fun gu=>hex fun k hk=>?_
   cases hx:listed.getD k false with
   | true=>rfl
   | false=>exact absurd ⟨k,hk,hx⟩ gu
  obtain ⟨k0,xq,Hy⟩:=OY
  have PH:HeadInv .any ops T listed:=⟨I.size,fun j oj hj hl e he hb=>I.closed j oj hl hj e.on (by
    unfold ba
    exact List.mem_map.2 ⟨e,List.mem_filter.2 ⟨by simpa using he,hb⟩,rfl⟩),fun t ht O5=>getD_in (by rw [I.size];exact O5) (tail t ht)⟩
  have HW:listed.getD k0 true=false:=getD_in (by rw [I.size];omega) Hy
  refine ⟨fun hr=>(by
   obtain ⟨i,_,hi⟩:=ks listed a' w' g I k0 xq Hy
   rw [hr] at hi;cases hi),fun i hi=>?_⟩
  have Pq:i<T:=Classical.byContradiction fun h=>tail_waits Jq A_ hT PH _ k0 rfl xq HW i ah hi
  obtain ⟨h0,o,ho,f_⟩:=mem_ready.1 hi
  have HX:i<listed.size:=by rw [I.size];exact (Array.getElem?_eq_some_iff.1 ho).1
  have Oi:listed.getD i false=false:=by simp [HX] at h0 ⊢;exact h0
  have iY:∀d∈ba o,listed.getD d false=true:=by
   intro d hd
   unfold ba at hd
   obtain ⟨e,he,rfl⟩:=List.mem_map.1 hd
   obtain ⟨LK,KC⟩:=List.mem_filter.1 he
   exact f_ e (by simpa using LK) KC
  have next:∀v fa g',Below w'.heap.size w' fa->St i g w' g' fa->F g' i v fa->Inv ops (F g') a w (listed.setIfInBounds i true) (a'.put o.dst v) fa:=by
   intro v fa g' hb dI hF
   have lists:∀k,(listed.setIfInBounds i true).getD k false=true->k=i∨listed.getD k false=true:=by
    intro k hk
    by_cases sg:i=k
    ·exact .inl sg.symm
    ·right;rw [getD_set_ne false sg] at hk;exact hk
   have diff:∀k,listed.getD k false=true->i≠k:=fun k hk e=>by subst e;rw [Oi] at hk;cases hk
   refine ⟨I.grown.pc hb,by simpa using I.size,?_,(pj ..).trans I.yC,(put_defers ..).trans I.sw,?_,?_,?_⟩
   ·intro k p hk hp d hd
    rcases lists k hk with rfl|hk
    ·rw [ho] at hp;injection hp with hp;subst hp
     exact getD_set_true (iY d hd)
    ·exact getD_set_true (I.closed k p hk hp d hd)
   ·intro k p s hk hp hs
    rcases lists k hk with rfl|hk
    ·rw [ho] at hp;injection hp with hp;subst hp
     refine ⟨v,?_,hF⟩
     rw [hs]
     exact l7 a' s v (by rw [I.yC,dc];exact u9 k _ s ho hs)
    ·obtain ⟨u,hu,Se⟩:=I.val k p s hk hp hs
     refine ⟨u,?_,mono i k u g g' w' fa (diff k hk) hb dI Se⟩
     rw [gN a' o.dst s v fun he=>?_]
     ·exact hu
     ·have:=nQ g_ ho hp he hs
      subst this
      rw [Oi] at hk;cases hk
   ·intro k p hk hp hs
    rcases lists k hk with rfl|hk
    ·exact ⟨v,hF⟩
    ·obtain ⟨u,hu⟩:=I.Dx k p hk hp hs
     exact ⟨u,mono i k u g g' w' fa (diff k hk) hb dI hu⟩
   ·intro s hs
    rw [gN a' o.dst s v (hs i o (by simp [HX]) ho)]
    exact I.old s fun k p hk hp=>hs k p (getD_set_true hk) hp
  have nh:∀j,T≤j->(listed.setIfInBounds i true).getD j false=false:=fun j hj=>by rw [getD_set_ne false ah];exact tail j hj
  have nm:((listed.setIfInBounds i true).toList.filter (· == false)).length=fuel:=by
   have Pn:((listed.setIfInBounds i true).toList.filter (· == false)).length+1=(listed.toList.filter (· == false)).length:=by
    rw [Array.toList_setIfInBounds]
    have i6:listed.toList[i]?=some false:=by simp [HX] at h0 ⊢;exact h0
    exact oV _ i i6
   omega
  have iF:=u7 i o Pq ho g a' w' I.grown hJ I.yC (fun d hd=>by
   have hl:=iY d hd
   cases hp:ops[d]? with
   | none =>
    have sK:d<listed.size:=by
     rcases Nat.lt_or_ge d listed.size with h|h
     ·exact h
     ·simp [Array.getElem?_eq_none h] at hl
    rw [I.size] at sK
    rw [Array.getElem?_eq_getElem sK] at hp;cases hp
   | some p =>
    cases hs:p.dst with
    | none=>exact .inr ⟨p,rfl,hs⟩
    | some s =>
     left
     obtain ⟨u,hu,hF⟩:=I.val d p s hl hp hs
     unfold rA
     rw [hp]
     simp only [Option.bind_some,hs]
     simp [hu];exact hF) (fun s hs=>by
   show a'.tmps.getD s undef=a.tmps.getD s undef
   have:a'.tmps[s]?=a.tmps[s]?:=I.old s fun k p hk hp hd=>by
    have vm:k<T:=Classical.byContradiction fun h=>(by have:=tail k (Nat.le_of_not_lt h);rw [this] at hk;cases hk)
    exact hs k p vm hp hd
   simp [this])
  unfold gE at iF
  unfold wpOp
  rw [ho]
  simp only
  by_cases hw:Region.wanted o (yielded ops a'.tmps)=true
  ·rw [if_pos hw] at iF ⊢
   left
   exact Oper.wp_mono (fun ru fa ⟨v,he,hb,g',dI,M8,hF⟩=>by
    subst he
    exact ih _ _ _ _ (next v fa g' hb dI hF) M8 nh nm) iF
  ·rw [if_neg hw] at iF ⊢
   obtain ⟨g',dI,M8,hF⟩:=iF
   exact ih _ _ _ _ (next undef w' g' (Below.refl _ _) dI hF) M8 nh nm
end
def yf (P:Program) (s:AS) (o:Oper) (x:AV) (C:List Prop):Prop :=
 bu C-> ∀S0 w0 n O a w φ Q (b:Act),aH S0 w0 n O s a w φ->(∀g∈O,g<w.heap.size)->b.tmps=a.tmps->o.wp P b w (fun b' w'=>∃v,b'=b.put o.dst v∧Below w.heap.size w w'∧Den (az s.H φ) (aJ S0 w' φ O) w' v x) Q
section
variable {P:Program} {s:AS} {o:Oper} {h:Hint} {r:AV×List Prop}
theorem rP (hp:cS P s o r.1 r.2):yf P s o r.1 r.2:=by
 intro hC S0 w0 n O a w φ Q b hs _ hb
 obtain ⟨v,bZ,dz⟩:=hp hC S0 w0 n O a w φ hs
 rw [←dV hb] at bZ
 exact cI bZ ⟨v,rfl,Below.refl _ _,dz⟩
theorem kF {S0:bf} {w0 w w':World} {n:Nat} {O:List Nat} {a:Act} {φ:Nat->Option Nat} (hs:aH S0 w0 n O s a w φ) (hO:∀g∈O,g<w.heap.size) (hb:Below w.heap.size w w') (b:Nat) (h:aJ S0 w φ O b∨(w.heap.size≤b∧b<w'.heap.size)):aJ S0 w' φ O b:=by
 rcases h with h|⟨h1,h2⟩
 ·exact ⟨by have:=h.1;have:=hb.size;omega,h.2⟩
 ·exact ⟨h2,fun hm=>by have:=hO b hm;omega,fun i hi=>by have:=(hs.cL i b hi).2;omega,hs.new b (.inl (by have:=hs.cM.size;omega))⟩
theorem DH {S0:bf} {w0 w:World} {n:Nat} {O:List Nat} {a:Act} {φ:Nat->Option Nat} (hs:aH S0 w0 n O s a w φ) (z:Nat):∀(parts:List (Nat×Operand)) (i:Nat) (cells:List AV) (cur:Array Value),fN s z i parts=some cells->dD cells=true->i*z+parts.length*z=cur.size ->
  cells.length=parts.length*z∧ ∃us:Array Value,Instr.fill (fun i=>some (i*z,z)) cur (parts.map fun p=>(p.1,a.eval p.2))=some us∧us.size=cur.size∧(∀j,j<i*z->us[j]?=cur[j]?)∧ ∀(j:Nat) u x,us[i*z+j]?=some u->cells[j]?=some x->cp (aJ S0 w φ O) w u x
 | [],i,cells,cur,hc,hp,dc=>by cases hc;exact ⟨by simp,cur,rfl,rfl,fun _ _=>rfl,fun j u x _ hx=>by simp at hx⟩
 | (j,x)::l,i,cells,cur,hc,hp,dc=>by
  simp only [fN] at hc
  split at hc
  ·rename_i c m MN KE hm
   split at hc
   ·rename_i KD
    cases hc
    have MN:=Nat.eq_of_beq_eq_true MN
    have KD:=Nat.eq_of_beq_eq_true KD
    subst MN
    obtain ⟨vs,hv,hlen,dz⟩:=lS (hs.bj x) KE
    have Rs:dD m=true:=by
     have key:∀(c m:List AV),dD (c++m)=true->dD m=true:=by
      intro c
      induction c with
      | nil=>intro m h;exact h
      | cons y c ih =>
       intro m h
       simp only [List.cons_append,dD] at h
       split at h
       ·exact ih m h
       ·cases h
     exact key c m hp
    simp only [List.length_cons] at dc
    have Kn:(l.length+1)*z=l.length*z+z:=by rw [Nat.add_mul,Nat.one_mul]
    have dM:(i+1)*z=i*z+z:=by rw [Nat.add_mul,Nat.one_mul]
    have H0:((a.eval x).cells.zipIdx.foldl (fun cs (cj:Value×Nat)=>cs.setIfInBounds (i*z+cj.2) cj.1) cur)=(vs.zipIdx.foldl (fun cs (cj:Value×Nat)=>cs.setIfInBounds (i*z+cj.2) cj.1) cur):=by rw [hv];simp
    obtain ⟨FU,us,E2,HC,HB,MD⟩:=DH hs z l (i+1) m (vs.zipIdx.foldl (fun cs (cj:Value×Nat)=>cs.setIfInBounds (i*z+cj.2) cj.1) cur) hm Rs (by rw [i9];omega)
    rw [i9] at HC
    refine ⟨by rw [List.length_append,List.length_cons,FU,KD];omega,us,?_,HC,fun j hj=>?_,fun j u y hu hy=>?_⟩
    ·rw [List.map_cons]
     unfold Instr.fill
     simp only
     have OW:(a.eval x).cells.size=z:=by rw [hv];simp;omega
     rw [if_neg (by rw [OW];simp;omega),H0]
     exact E2
    ·rw [HB j ah,kg,if_neg ah]
    ·by_cases hj:j<z
     ·rw [HB _ ah,kg,if_pos ah] at hu
      rw [List.getElem?_append_left ah] at hy
      have Ri:vs[j]?=some u:=by rw [←hu];congr 1;omega
      exact (dY (dz j u y Ri hy) (ik (l:=c++m) (j:=j) hp (by rw [List.getElem?_append_left ah];exact hy))).1
     ·rw [List.getElem?_append_right ah] at hy
      refine MD (j-z) u y ?_ (by rw [←hy,KD])
      rw [←hu];congr 1;omega
   ·cases hc
  ·cases hc
theorem uu {c:Callee} {xs:Array Operand} {ts:Array TypeId} {f:FuncId} {args:List AV} {x:AV} {C:List Prop} (ho:o.op= .call ⟨c,xs,ts⟩) (hc:callee s c=some f) (hE:gU P f=true) (ni:bu C->bK P f args x) (hl:args.length=xs.toList.length)
  (hG:bu C-> ∀S0 w0 n O a w φ,aH S0 w0 n O s a w φ-> ∃S:Nat->Prop,(∀b,S b->b<w.heap.size)∧(∀(j:Nat) v y,(xs.toList.map a.eval)[j]?=some v->args[j]?=some y->cp S w v y)∧ ∀w' v O',sq (fun b=>S b∨(w.heap.size≤b∧b<w'.heap.size∧b ∉ O')) w' v x O'->sq (fun b=>aJ S0 w φ O b∨(w.heap.size≤b∧b<w'.heap.size∧b ∉ O')) w' v x O'):yf P s o (Oj x) C:=by
 intro hC S0 w0 n O a w φ Q b hs hO hb
 have bZ:=jd (P:=P) hs hc ho hE
 rw [←dV hb] at bZ
 obtain ⟨S,hS,iq,um⟩:=hG hC S0 w0 n O a w φ hs
 unfold Oper.wp
 rw [bZ]
 have mE:=ni hC w S (xs.toList.map a.eval) hs.cM.mm hS (by simp [hl]) iq
 have e:(xs.toList.map a.eval).toArray=xs.map b.eval:=by rw [dV hb];apply Array.ext';simp
 rw [e] at mE
 refine mE.mono ?_
 rintro en w' ⟨v,O',rfl,pK,g_,mh,hg⟩
 refine ⟨v,rfl,pK,.rep (Ie (fun b hb=>?_) (fun g hg=>?_) (um w' v O' hg))⟩
 ·exact kF hs hO pK b (hb.imp id fun h=>⟨h.1,h.2.1⟩)
 ·exact kF hs hO pK g (.inr (mh g hg))
theorem uL (hr:q6 P s o h=some r):yf P s o r.1 r.2:=by
 unfold q6 at hr
 split at hr
 ·rename_i t len parts ho
  split at hr
  ·rename_i el hu
   split at hr
   ·rename_i z zero hz hzero
    split at hr
    ·rename_i cells dn hlen Ai uf
     split at hr
     ·rename_i hp
      cases hr
      intro hC S0 w0 n O a w φ Q b hs hO hb
      have hlen:=Nat.eq_of_beq_eq_true hlen
      have Ai:len*(z+1)≤16777216:=Nat.le_of_ble_eq_true Ai
      have hn:(named h cells).1=cells:=(gP (C:=[]) (by rw [List.append_nil];exact hC)).1
      obtain ⟨h1,us,h2,h3,-,h4⟩:=DH hs (z+1) parts.toList 0 cells ((Array.range (len*(z+1))).map (zero.cells[· %zero.cells.size]!)) dn hp (by simp [←hlen])
      have hm:len≤maxLen:=by
       have:len≤len*(z+1):=Nat.le_mul_of_pos_right _ ah
       unfold maxLen;omega
      have bZ:(execOp b.eval o).run P w= .ok (.value (.slice (some ⟨w.heap.size,0,none⟩) len len)) {w with heap:=w.heap.push (.cells us el (0,0))}:=by
       have z6:(sizeOf el).run P w= .ok (z+1) w:=run_sizeOf hz
       have pJ:(parts.map fun p=>(p.1,a.eval p.2)).toList=parts.toList.map fun p=>(p.1,a.eval p.2):=by simp
       rw [dV hb]
       unfold execOp
       simp only [ho,Instr.buildSlice,Sem.run_bind,run_underlying hu,Result.andThen_ok,z6,Sem.run_ite]
       rw [if_neg ah]
       by_cases h0:len*(z+1)=0
       ·rw [if_pos h0]
        simp only [Sem.run_pure,Result.andThen_ok]
        have:(Array.range (len*(z+1))).map (fun x=>(#[]:Array Value)[x%(#[]:Array Value).size]!)=(Array.range (len*(z+1))).map (fun x=>zero.cells[x%zero.cells.size]!):=by rw [h0,gX,gX]
        rw [this,pJ,h2]
        rfl
       ·rw [if_neg h0]
        simp only [iE hzero,Result.andThen_ok,Sem.run_pure]
        rw [pJ,h2]
        rfl
      have pK:Below w.heap.size w {w with heap:=w.heap.push (.cells us el (0,0))}:=⟨rfl,rfl,rfl,by simp,fun k hk=>cB w _ k hk⟩
      have gw:cells.length=(z+1)*len:=by rw [h1,hlen,Nat.mul_comm]
      refine cI bZ ⟨_,rfl,pK,?_⟩
      simp only [hn]
      refine .rep (eH (r:=⟨z+1,true,false,cells⟩) (dm w _) (kF hs hO pK _ (.inr ⟨Nat.le_refl _,by simp⟩)) cells 0 (by rw [h3,gw];simp [Nat.mul_comm]) gw (Nat.le_refl _) hm _ (fun _=>rfl) (fun j u x hu hx=>?_))
      exact (h4 j u x (by simpa using hu) hx).mono fun b hb=>⟨kF hs hO pK b (.inl hb),cB w _ b hb.1⟩
     ·cases hr
    ·cases hr
   ·cases hr
  ·cases hr
 ·rename_i t l c ho
  split at hr
  ·rename_i kl L kc C el hl hc hu
   split at hr
   ·rename_i i hi
    split at hr
    ·rename_i zero z hz dc
     split at hr
     ·rename_i hb
      cases hr
      have hb:=Nat.eq_of_beq_eq_true hb
      intro hC S0 w0 n O a w φ Q b hs hO KG
      obtain ⟨Ku,hC⟩:=gP hC
      obtain ⟨h1,h2,h3,h4,h5,-⟩:=hC
      have LP:b.eval l= .int kl L:=by rw [dV KG];exact bE (hl ▸ hs.bj l)
      have ec:b.eval c= .int kc C:=by rw [dV KG];exact bE (hc ▸ hs.bj c)
      obtain ⟨cur,bZ,wm,bq⟩:=run_make ho LP ec hu hi hz dc hb h1 h2 h3 h4 h5 w
      have pK:Below w.heap.size w {w with heap:=w.heap.push (.cells cur el (0,0))}:=⟨rfl,rfl,rfl,by simp,fun k hk=>cB w _ k hk⟩
      have FO:(zero.cells.toList.map bx).length=z+1:=by simp [hb]
      have FR:=sW (zero.cells.toList.map bx) (z+1) FO h.k
      have hle:(z+1)*h.k≤(z+1)*h.m:=Nat.mul_le_mul_left _ h3
      refine cI bZ ⟨_,rfl,pK,?_⟩
      simp only [Ku]
      refine .rep (eH (r:=⟨z+1,true,false,sX (zero.cells.toList.map bx) h.k⟩) (dm w _) (kF hs hO pK _ (.inr ⟨Nat.le_refl _,by simp⟩)) _ 0 (by rw [FR,wm];omega) FR h3 h5 _ (fun _=>rfl) (fun j u x hu hx=>?_))
      have h6:=wL _ (z+1) FO ah _ _ _ hx
      have h7:=bq j u (by simpa using hu)
      rw [List.getElem?_map] at h6
      have h8:zero.cells.toList[j%(z+1)]?=some u:=by simpa using h7
      rw [h8] at h6;injection h6 with h6;subst h6;exact fE u
     ·cases hr
    ·cases hr
   ·cases hr
  ·cases hr
 ·exact rP (kJ hr)
 ·rename_i c xs ts _ ho
  split at hr
  ·rename_i f x hc _
   split at hr
   ·rename_i hE _
    split at hr
    ·rename_i vs C hv vo
     cases hr
     refine uu ho hc hE (fun hC=>hC.1) ?_ fun hC S0 w0 n O a w φ hs=>?_
     ·have key:∀(l:List AV) (m:List AV),jG s l=some m->m.length=l.length:=by
       intro l
       induction l with
       | nil=>intro m h;cases h;rfl
       | cons y l ih =>
        intro m h
        simp only [jG] at h
        split at h
        ·rename_i y' m' _ hm
         cases h
         simp [ih m' hm]
        ·cases h
      rw [key _ _ hv];simp
     ·exact ⟨fun b=>b<w.heap.size,fun _ h=>h,(lA hs _ _ hv).2,fun w' v _ hg=>sM vo hC.2 hg⟩
    ·cases hr
   ·rename_i hE _
    split at hr
    ·rename_i vl
     cases hr
     refine uu ho hc hE (fun hC=>hC.1) (by simp) fun hC S0 w0 n O a w φ hs=>⟨aJ S0 w φ O,fun b hb=>hb.1,fun j v x hv hx=>?_,fun w' v _ hg=>hg⟩
     have MG:=lG vl hx
     rw [List.getElem?_map] at hv hx
     cases hj:xs.toList[j]? with
     | none=>rw [hj] at hv;cases hv
     | some y =>
      rw [hj] at hv hx
      injection hv with hv;injection hx with hx;subst hv;subst hx
      exact nE (hs.bj y) MG
    ·cases hr
   ·cases hr
  ·cases hr
 ·exact rP (kJ hr)
end
section
variable {P:Program} {ops:List Oper} {S0:bf} {w0:World} {Q:Exit->Act->World->Prop}
theorem Iv {s:AS} {o:Oper} {h:Hint} {r:AV×List Prop} (hr:sk P ops s o h=some r) (hC:bu r.2) {n:Nat} {O:List Nat} {a b:Act} {w:World} {φ:Nat->Option Nat} (hs:aH S0 w0 n O s a w φ) (hO:∀g∈O,g<w.heap.size) (hb:b.tmps=a.tmps) :
  gE P ops.toArray Q o b w fun v w'=>w.heap.size≤w'.heap.size∧Den (az s.H φ) (aJ S0 w' φ O) w' v r.1:=by
 unfold sk at hr
 unfold gE
 split at hr
 ·rename_i hg
  have hw:Region.wanted o (yielded ops.toArray b.tmps)=true:=by unfold Region.wanted;rw [hg]
  rw [if_pos hw]
  exact Oper.wp_mono (fun b' w' ⟨v,h1,h2,h3⟩=>⟨v,h1,h2,h2.size,h3⟩) (uL hr hC S0 w0 n O a w φ Q b hs hO hb)
 ·rename_i j want hg
  split at hr
  ·rename_i p hp
   split at hr
   ·rename_i d hd
    split at hr
    ·rename_i bb qR
     have ht:=hs.get d
     rw [qR] at ht
     have hy:=lX (ops:=ops) hp hd (pY ht)
     rw [←hb] at hy
     split at hr
     ·rename_i jP
      split at hr
      ·rename_i x C he
       cases hr
       obtain ⟨Aj,hC⟩:=hC
       have hw:Region.wanted o (yielded ops.toArray b.tmps)=true:=by
        unfold Region.wanted;rw [hg];simp only [hy,Aj]
        have:h.g=want:=by simpa using jP
        rw [this];simp
       rw [if_pos hw]
       exact Oper.wp_mono (fun b' w' ⟨v,h1,h2,h3⟩=>⟨v,h1,h2,h2.size,h3⟩) (uL he hC S0 w0 n O a w φ Q b hs hO hb)
      ·cases hr
     ·rename_i jP
      cases hr
      obtain ⟨Aj,-⟩:=hC
      have hw:¬Region.wanted o (yielded ops.toArray b.tmps)=true:=by
       unfold Region.wanted;rw [hg];simp only [hy,Aj]
       have:¬h.g=want:=by simpa using jP
       simpa using this
      rw [if_neg hw]
      exact ⟨Nat.le_refl _,.rep (.val _)⟩
    ·rename_i arr qR
     have ht:=hs.get d
     rw [qR] at ht
     have hy:=lW (ops:=ops) hp hd (bE ht)
     rw [←hb] at hy
     cases hr
     have hw:¬Region.wanted o (yielded ops.toArray b.tmps)=true:=by
      unfold Region.wanted;rw [hg];simp [hy]
     rw [if_neg hw]
     exact ⟨Nat.le_refl _,.rep (.val _)⟩
    ·cases hr
   ·cases hr
  ·cases hr
end
def vB (s:AS):List (Nat×AV)->List (Nat×AV)
 | []=>[]
 | (i,x)::l=>(i,(view s x).getD .dead)::vB s l
theorem tX (s:AS):∀(l:List (Nat×AV)) (i:Nat),look (vB s l) i=(look l i).map fun x=>(view s x).getD .dead
 | [],i=>rfl
 | (k,x)::l,i=>by
  simp only [vB,aB,tX s l i]
  by_cases h:k=i<;>simp [h]
section
variable {P:Program} {n:Nat} {s:AS} {o:Oper} {h:Hint} {S0:bf} {w0 w:World} {O:List Nat} {a b:Act} {φ:Nat->Option Nat}
theorem Ga (hs:aH S0 w0 n O s a w φ):aH ⟨fun _=>True,fun _=>False,fun _=>none,a.defers⟩ w n [] ⟨vB s s.F,[]⟩ a w (fun _=>none) where
 jF:=hs.jF
 jJ:=rfl
 cM:=⟨rfl,rfl,rfl,Nat.le_refl _,fun _ _ _=>rfl,hs.cM.mm,fun _ _ h=>h⟩
 ct:=fun i av hi=>by
  have hi:look (vB s s.F) i=some av:=hi
  rw [tX] at hi
  cases hl:look s.F i with
  | none=>rw [hl] at hi;cases hi
  | some x =>
   rw [hl] at hi;injection hi with hi;subst hi
   show Den _ _ _ _ ((view s x).getD .dead)
   cases hv:view s x with
   | none=>exact .dead _
   | some y =>
    refine .rep ((wM hs (hs.ct i x hl) hv).mono ?_)
    intro b hb
    exact ⟨⟨hb,by simp,fun _ h=>(by cases h),trivial⟩,rfl⟩
 rows:=fun id r hr=>by cases hr
 only:=fun _ _=>rfl
 inj:=fun _ _ _ h=>by cases h
 cL:=fun _ _ h=>by cases h
 apart:=fun _ _ h=>by cases h
 new:=fun _ _=>trivial
theorem Ep {K:Act->World->Prop} {Q:Exit->Act->World->Prop} (h:o.wp P a w K (fun _ _ _=>False)) (hK:∀a' w',K a' w'->a'.defers=a.defers) (hb:b.tmps=a.tmps):o.wp P b w (fun b' w'=>∃v,b'=b.put o.dst v∧K (a.put o.dst v) w') Q:=by
 unfold Oper.wp at *
 rw [dV hb]
 generalize (execOp a.eval o).run P w=r at *
 cases r with
 | halt x w'=>cases x with
  | panic v=>exact h.elim
  | _=>exact h
 | ok x w'=>cases x with
  | value v=>exact ⟨v,rfl,h⟩
  | skip=>exact ⟨undef,rfl,h⟩
  | enter f args =>
   refine Calls.mono h fun e fa he=>?_
   cases e with
   | returned v=>exact ⟨v,rfl,he⟩
   | panicked c=>exact he.elim
   | outgrown=>obtain ⟨_,_,hf⟩:=he;exact hf.elim
  | defer d =>
   have:=congrArg List.length (hK _ _ h)
   rw [oT] at this
   simp at this
  | row r args=>exact Rows.mono h fun v fa he=>⟨v,rfl,he⟩
  | _=>exact h
def xI (P:Program) (n:Nat) (s:AS) (o:Oper) (h:Hint):Option (AV×List Prop) :=
 match o.guard,o.dst with
 | none,some d=>(match AH P n ⟨vB s s.F,[]⟩ o h with
  | some (s',C)=>(match look s'.F d,look s'.H d with
   | some (.ref d'),some ⟨e,true,_,row⟩=>(match Nat.beq d' d with|true=>some (.own e row,C++ [lC row])|false=>none)
   | _,_=>none)
  | none=>none)
 | _,_=>none
theorem Fp {Q:Exit->Act->World->Prop} {ops:Array Oper} {x:AV} {C:List Prop} (hr:xI P n s o h=some (x,C)) (hC:bu C) (hs:aH S0 w0 n O s a w φ) (hb:b.tmps=a.tmps) :
  (∃e row,x= .own e row)∧gE P ops Q o b w fun v w'=>∃O',gS (fun _=>False) w' v x O'∧O'.Nodup∧ ∀g∈O',w.heap.size≤g∧g<w'.heap.size:=by
 unfold xI at hr
 split at hr
 ·rename_i d hg hd
  split at hr
  ·rename_i s' C' u7
   split at hr
   ·rename_i d' e fl row hF hH
    split at hr
    ·rename_i RW
     cases hr
     have RW:=Nat.eq_of_beq_eq_true RW
     subst RW
     obtain ⟨PJ,hv,-⟩:=bM.1 hC
     refine ⟨⟨e,row,rfl⟩,?_⟩
     have hw:Region.wanted o (yielded ops b.tmps)=true:=by unfold Region.wanted;rw [hg]
     unfold gE
     rw [if_pos hw]
     have key:=nM u7 PJ ⟨fun _=>True,fun _=>False,fun _=>none,a.defers⟩ w a w (fun _ _ _=>False) ⟨_,Ga hs⟩
     refine Oper.wp_mono ?_ (Ep (Q:=Q) key (fun a' w' ⟨_,bU⟩=>bU.jJ) hb)
     rintro b' w' ⟨v,rfl,ck,bU⟩
     refine ⟨v,rfl,bU.cM.below (fun _ h=>h),?_⟩
     have dc:d'<a.tmps.size:=by
      rcases Nat.lt_or_ge d' a.tmps.size with h|h
      ·exact h
      ·exfalso
       have dz:=bU.ct d' _ hF
       have uh:(a.put o.dst v).tmps.getD d' undef=undef:=by
        have:(a.put o.dst v).tmps.size≤d':=by rw [tj];exact h
        simp [Array.getElem?_eq_none this]
       rw [uh] at dz
       cases dz with
       | rep h=>cases h
     have jB:(a.put o.dst v).tmps.getD d' undef=v:=by rw [hd,pn a d' d' v dc,if_pos rfl]
     have dz:=bU.ct d' _ hF
     rw [jB] at dz
     have aK:=bU.rows d' _ hH
     have nk:=bn (φ:=ck) hH
     unfold bJ at aK
     cases dz with
     | rep h=>cases h
     | ref id e' m g l c hi hm hc hx gw =>
      rw [nk] at hi
      simp only [Option.some.injEq,Prod.mk.injEq] at hi
      obtain ⟨he,nj,bY⟩:=hi
      subst he;subst nj
      rw [bY] at aK
      obtain ⟨cur,te,fr,Tl,gv,hle,mD,dn⟩:=aK
      have wm:cur.size=e*c:=by unfold aS at gw;rw [Tl] at gw;exact gw
      refine ⟨[g],.own g l c e row cur te fr Tl gv hm hc hx wm (fun j u x hu hx=>?_),by simp,fun g' iW=>by simp at iW;subst iW;exact ⟨(bU.cL _ _ bY).1.2.elim id fun h=>h.elim,(bU.cL _ _ bY).2⟩⟩
      obtain ⟨v',rfl⟩:=hv x (List.mem_of_getElem? hx)
      have:=dn j u _ hu hx
      have this:cp _ w' u (.val v'):=this
      cases this
      exact .val _
     | cw id e' hi =>
      rw [nk] at hi
      simp only [Option.some.injEq,Prod.mk.injEq] at hi
      obtain ⟨he,nj,bY⟩:=hi
      have:row= []:=List.eq_nil_of_length_eq_zero nj
      subst this
      exact ⟨[],.nil e,by simp,by simp⟩
    ·cases hr
   ·cases hr
  ·cases hr
 ·cases hr
end
def mQ:AV->AV
 | .own _ _=>.dead
 | .box _=>.dead
 | x=>x
def pR (P:Program) (n:Nat) (s:AS) (ds:List Nat) (ops:List Oper) (hs:List (Nat×Hint)) (Ks:List Nat):List Oper->Nat->List AV->Option (List AV×List Prop)
 | [],_,gD=>some (gD,[])
 | o::l,i,gD=>match (match Ks.any (Nat.beq i) with
   | true=>xI P n (vt s ds ops (gD.map mQ) o) o (gl hs i)
   | false=>sk P ops (vt s ds ops (gD.map mQ) o) o (gl hs i)) with
  | some (x,C)=>(match pR P n s ds ops hs Ks l (i+1) (gD++ [x]) with|some (iU,D)=>some (iU,C++D)|none=>none)
  | none=>none
def iV:List Oper->List AV->List (Nat×Nat×List AV)
 | o::l,.own e row::m=>(match o.dst with|some d=>(d,e,row)::iV l m|none=>iV l m)
 | _::l,_::m=>iV l m
 | _,_=>[]
def CX:AS->List (Nat×Nat×List AV)->AS
 | s,[]=>s
 | s,(d,e,row)::l=>CX ⟨(d,.ref d)::s.F,(d,⟨e,true,false,row⟩)::s.H⟩ l
def lN (s:AS):List (Nat×Nat×List AV)->Bool
 | []=>true
 | (d,_,_)::l=>match look s.H d,Nat.ble d 999999999999 with|none,true=>lN s l|_,_=>false
def xO (P:Program) (n T:Nat) (Ks:List Nat) (ops:List Oper) (hs:List (Nat×Hint)) (s:AS):Option (AS×List Prop) :=
 match P.follows .mixedOrders,lk ops.toArray n,og ops.toArray T with
 | true,true,true=>(match pR P n s ((ops.take T).filterMap (·.dst)) ops hs Ks (ops.take T) 0 [] with
  | some (gD,C)=>(match lN s (iV (ops.take T) gD),jS P n ops hs (ops.drop T) T (CX ⟨iX (ops.take T) (gD.map mQ)++nc ((ops.take T).filterMap (·.dst)) s.F,s.H⟩ (iV (ops.take T) gD)) with
   | true,some (s',D)=>some (s',C++D)
   | _,_=>none)
  | none=>none)
 | _,_,_=>none
theorem rT {P:Program} {n:Nat} {ops:List Oper} {s:AS} {ds:List Nat} {hs:List (Nat×Hint)} {Ks:List Nat}:∀(l:List Oper) (i:Nat) (gD iU:List AV) (C:List Prop),pR P n s ds ops hs Ks l i gD=some (iU,C)->bu C->gD.length=i ->
  iU.length=i+l.length∧iU.take i=gD∧ ∀(j:Nat) (o:Oper),l[j]?=some o-> ∃x D,iU[i+j]?=some x∧bu D∧(xI P n (vt s ds ops ((iU.take (i+j)).map mQ) o) o (gl hs (i+j))=some (x,D)∨sk P ops (vt s ds ops ((iU.take (i+j)).map mQ) o) o (gl hs (i+j))=some (x,D))
 | [],i,gD,iU,C,he,hC,hl=>by
  cases he
  exact ⟨by simp [hl],by rw [←hl,List.take_length],fun j o h=>by simp at h⟩
 | o::l,i,gD,iU,C,he,hC,hl=>by
  simp only [pR] at he
  split at he
  ·rename_i x C1 h1
   split at he
   ·rename_i SA D h2
    cases he
    obtain ⟨iz,hD⟩:=bM.1 hC
    obtain ⟨e1,e2,e3⟩:=rT l (i+1) (gD++ [x]) iU D h2 hD (by simp [hl])
    have e4:iU.take i=gD:=by
     have:=congrArg (List.take i) e2
     rw [List.take_take,Nat.min_eq_left ah,←hl,List.take_left] at this
     rw [←hl];exact this
    have e5:iU[i]?=some x:=by
     have h3:(iU.take (i+1))[i]?=some x:=by rw [e2,List.getElem?_append_right ah,hl];simp
     exact bT _ _ _ _ h3
    refine ⟨by rw [e1,List.length_cons];omega,e4,fun j p hp=>?_⟩
    cases j with
    | zero =>
     simp at hp;subst hp
     refine ⟨x,C1,by simpa using e5,iz,?_⟩
     simp only [Nat.add_zero]
     rw [e4]
     split at h1
     ·exact .inl h1
     ·exact .inr h1
    | succ j =>
     obtain ⟨y,D',h5,h6,h7⟩:=e3 j p (by simpa using hp)
     rw [show i+1+j=i+(j+1) by omega] at h5 h7
     exact ⟨y,D',h5,h6,h7⟩
   ·cases he
  ·cases he
theorem j7 (s:AS):∀(L:List (Nat×Nat×List AV)),lN s L=true↔ ∀p∈L,look s.H p.1=none∧p.1<1000000000000
 | []=>by simp [lN]
 | (d,e,row)::L=>by
  simp only [lN]
  split
  ·rename_i h hb
   have hb:=Nat.le_of_ble_eq_true hb
   rw [j7 s L]
   constructor
   ·intro hL p hp
    rcases List.mem_cons.1 hp with rfl|hp
    ·exact ⟨h,by show d<_;omega⟩
    ·exact hL p hp
   ·intro hL p hp;exact hL p (by simp [hp])
  ·rename_i gu
   constructor
   ·intro hf;cases hf
   ·intro hL
    have:=hL (d,e,row) (by simp)
    exact (gu this.1 (by have:=this.2;simp at this;exact Nat.ble_eq_true_of_le ah)).elim
theorem vY:∀(l:List Oper) (m:List AV) (p:Nat×Nat×List AV),p∈iV l m->p.1∈l.filterMap (·.dst)
 | [],m,p,h=>by cases m<;>simp [iV] at h
 | o::l,[],p,h=>by simp [iV] at h
 | o::l,x::m,p,h=>by
  have step:p∈iV l m->p.1∈(o::l).filterMap (·.dst):=fun h=>by
   have:=vY l m p h
   rw [List.mem_filterMap] at this ⊢
   obtain ⟨q,h1,h2⟩:=this
   exact ⟨q,by simp [h1],h2⟩
  cases x with
  | own e row =>
   simp only [iV] at h
   split at h
   ·rename_i d hd
    rcases List.mem_cons.1 h with rfl|h
    ·rw [List.mem_filterMap];exact ⟨o,by simp,hd⟩
    ·exact step h
   ·exact step h
  | _=>exact step h
def fh (own:Nat->List Nat):List Oper->List AV->Nat->List Nat
 | o::l,.own _ _::m,i=>(match o.dst with|some _=>own i++fh own l m (i+1)|none=>fh own l m (i+1))
 | _::l,_::m,i=>fh own l m (i+1)
 | _,_,_=>[]
theorem nF (own:Nat->List Nat):∀(l:List Oper) (m:List AV) (i g:Nat),g∈fh own l m i-> ∃k,i≤k∧k<i+l.length∧g∈own k
 | [],m,i,g,h=>by cases m<;>simp [fh] at h
 | o::l,[],i,g,h=>by simp [fh] at h
 | o::l,x::m,i,g,h=>by
  have step:g∈fh own l m (i+1)-> ∃k,i≤k∧k<i+(o::l).length∧g∈own k:=fun h=>by
   obtain ⟨k,h1,h2,h3⟩:=nF own l m (i+1) g h
   exact ⟨k,ah,by simp only [List.length_cons];omega,h3⟩
  cases x with
  | own e row =>
   simp only [fh] at h
   split at h
   ·rcases List.mem_append.1 h with h|h
    ·exact ⟨i,ah,by simp only [List.length_cons];omega,h⟩
    ·exact step h
   ·exact step h
  | _=>exact step h
theorem rK (own:Nat->List Nat) (h1:∀k,(own k).Nodup) (h2:∀j k g,g∈own j->g∈own k->j=k):∀(l:List Oper) (m:List AV) (i:Nat),(fh own l m i).Nodup
 | [],m,i=>by cases m<;>simp [fh]
 | o::l,[],i=>by simp [fh]
 | o::l,x::m,i=>by
  have ih:=rK own h1 h2 l m (i+1)
  cases x with
  | own e row =>
   simp only [fh]
   split
   ·rw [List.nodup_append]
    refine ⟨h1 i,ih,fun g hg g' iW e=>?_⟩
    subst e
    obtain ⟨k,h3,-,h4⟩:=nF own l m (i+1) _ iW
    have:=h2 i k _ hg h4
    omega
   ·exact ih
  | _=>exact ih
section
variable {S0:bf} {w0 w:World} {n:Nat} {a:Act}
theorem ya (own:Nat->List Nat):∀(l:List Oper) (m:List AV) (i:Nat) (s:AS) (φ:Nat->Option Nat),aH S0 w0 n (fh own l m i) s a w φ ->
  (∀(j:Nat) o e row d,l[j]?=some o->m[j]?=some (.own e row)->o.dst=some d->gS (fun _=>False) w (a.tmps.getD d undef) (.own e row) (own (i+j))) ->
  (fh own l m i).Nodup->(∀g∈fh own l m i,(w0.heap.size≤g∨S0.X g)∧g<w.heap.size)->lN s (iV l m)=true->(l.filterMap (·.dst)).Nodup ->
  ∃ ck,aH S0 w0 n [] (CX s (iV l m)) a w ck
 | [],m,i,s,φ,h,_,_,_,_,_=>by cases m<;>exact ⟨φ,h⟩
 | o::l,[],i,s,φ,h,_,_,_,_,_=>⟨φ,h⟩
 | o::l,x::m,i,s,φ,h,hv,g_,mh,gv,M0=>by
  have MZ:(l.filterMap (·.dst)).Nodup:=List.Nodup.sublist ((List.sublist_cons_self o l).filterMap _) M0
  have HA:∀(j:Nat) o e row d,l[j]?=some o->m[j]?=some (.own e row)->o.dst=some d->gS (fun _=>False) w (a.tmps.getD d undef) (.own e row) (own (i+1+j)):=fun j p e row d h1 h2 h3=>by
   have:=hv (j+1) p e row d (by simpa using h1) (by simpa using h2) h3
   rwa [show i+(j+1)=i+1+j by omega] at this
  cases x with
  | own e row =>
   cases hd:o.dst with
   | none =>
    have e1:fh own (o::l) (.own e row::m) i=fh own l m (i+1):=by simp only [fh,hd]
    have e2:iV (o::l) (.own e row::m)=iV l m:=by simp only [iV,hd]
    rw [e1] at h g_ mh
    rw [e2] at gv ⊢
    exact ya own l m (i+1) s φ h HA g_ mh gv MZ
   | some d =>
    have e1:fh own (o::l) (.own e row::m) i=own i++fh own l m (i+1):=by simp only [fh,hd]
    have e2:iV (o::l) (.own e row::m)=(d,e,row)::iV l m:=by simp only [iV,hd]
    rw [e1] at h g_ mh
    rw [e2] at gv ⊢
    have MR:=(j7 s _).1 gv
    have hg:=hv 0 o e row d rfl rfl hd
    simp only [Nat.add_zero] at hg
    obtain ⟨iy,h1,h2,-⟩:=lZ (S0:=S0) (w0:=w0) (w:=w) (n:=n) (a:=a) s φ (own i) (fh own l m (i+1)) _ (.own e row) d h (hg.mono fun b hb=>hb.elim) g_ (fun g hg=>mh g (by simp [hg])) (fun j hj=>by
     simp [jf] at hj;subst hj;exact MR _ (List.mem_cons_self ..)) (by simp [jf])
    have h3:aH S0 w0 n (fh own l m (i+1)) ⟨(d,.ref d)::s.F,(d,⟨e,true,false,row⟩)::s.H⟩ a w iy:=by
     refine ⟨h1.jF,h1.jJ,h1.cM,fun j av hj=>?_,h1.rows,h1.only,h1.inj,h1.cL,h1.apart,h1.new⟩
     have hj:look ((d,AV.ref d)::s.F) j=some av:=hj
     rw [aB] at hj
     by_cases RV:d=j
     ·rw [if_pos RV] at hj;injection hj with hj;subst hj;subst RV
      exact h2
     ·rw [if_neg RV] at hj
      exact h1.ct j av hj
    refine ya own l m (i+1) _ iy h3 HA (List.nodup_append.1 g_).2.1 (fun g hg=>mh g (by simp [hg])) ?_ MZ
    rw [j7]
    intro p hp
    refine ⟨?_,(MR p (by simp [hp])).2⟩
    show look ((d,_)::s.H) p.1=none
    rw [aB]
    have cK:d≠p.1:=fun e=>by
     have:=vY l m p hp
     rw [List.filterMap_cons_some (by simpa using hd)] at M0
     exact (List.nodup_cons.1 M0).1 (by rw [e];exact this)
    rw [if_neg cK]
    exact (MR p (by simp [hp])).1
  | _=>exact ya own l m (i+1) s φ h HA g_ mh gv MZ
theorem gS.grow {w w':World} (hb:Below w.heap.size w w') {v:Value} {x:AV} {O:List Nat} (h:gS (fun _=>False) w v x O):gS (fun _=>False) w' v x O:=by
 cases h with
 | rep h=>exact .rep (h.mono fun b hb=>hb.elim)
 | nil e=>exact .nil e
 | own g l c e row cur te fr hg hf hl hc hm hs h =>
  have cW:g<w.heap.size:=(Array.getElem?_eq_some_iff.1 hg).1
  exact .own g l c e row cur te fr ((hb.block g cW).trans hg) hf hl hc hm hs fun j u x hu hx=>(h j u x hu hx).mono fun b hb=>hb.elim
 | box g row cur te fr hg hf hs h =>
  have cW:g<w.heap.size:=(Array.getElem?_eq_some_iff.1 hg).1
  exact .box g row cur te fr ((hb.block g cW).trans hg) hf hs fun j u x hu hx=>(h j u x hu hx).mono fun b hb=>hb.elim
theorem qk {I:Info} {S:Nat->Prop} {v:Value} {x:AV} (h:Den I S w v x):mQ x=x:=by
 cases x with
 | own e row=>cases h with|rep h=>cases h
 | box row=>cases h with|rep h=>cases h
 | _=>rfl
end
section
variable {P:Program} {ops:List Oper} {S0:bf} {w0:World} {Q:Exit->Act->World->Prop}
def sn (T:Nat) (own:Nat->List Nat):List Nat:=(List.range T).flatMap own
theorem kz {T g:Nat} {own:Nat->List Nat}:g∈sn T own↔ ∃k,k<T∧g∈own k:=by
 unfold sn
 rw [List.mem_flatMap]
 exact ⟨fun ⟨k,h1,h2⟩=>⟨k,List.mem_range.1 h1,h2⟩,fun ⟨k,h1,h2⟩=>⟨k,List.mem_range.2 h1,h2⟩⟩
def GV (own:Nat->List Nat) (i:Nat) (O:List Nat):Nat->List Nat:=fun k=>if k=i then O else own k
theorem Co {n T:Nat} {Ks:List Nat} {hs:List (Nat×Hint)} {s s':AS} {C:List Prop} (he:xO P n T Ks ops hs s=some (s',C)) (hC:bu C) {a:Act} {w:World} (fS:ib S0 w0 n s a w) (hQ:∀a' w',ib S0 w0 n s' a' w'->Q .normal a' w'):P.follows .mixedOrders=true∧wpAny P .any ops.toArray Q ops.toArray.size (Array.replicate ops.toArray.size false) a {w with drawn:=w.drawn+1}:=by
 unfold xO at he
 split at he
 ·rename_i hm hB hT
  split at he
  ·rename_i gD C1 B0
   split at he
   ·rename_i s2 D gv ot
    cases he
    obtain ⟨iz,hD⟩:=bM.1 hC
    obtain ⟨φ,lr⟩:=fS
    obtain ⟨hlen,-,ix⟩:=rT _ 0 [] gD C1 B0 iz rfl
    simp only [Nat.zero_add] at hlen ix
    obtain ⟨cW,g_,u9⟩:=fI hB
    unfold og at hT
    simp only [Bool.and_eq_true,decide_eq_true_eq] at hT
    obtain ⟨⟨⟨FX,KL⟩,KK⟩,KJ⟩:=hT
    have R5:T<ops.length:=by simpa using FX
    have R4:gD.length=T:=by rw [hlen,List.length_take];omega
    let F:(Nat->List Nat)->Nat->Value->World->Prop:=fun own k v w'=>w.heap.size≤w'.heap.size∧ ∀x,gD[k]?=some x->((∃e row,x= .own e row)∧gS (fun _=>False) w' v x (own k))∨Den (az s.H φ) (aJ S0 w' φ (sn T own)) w' v x
    let J:(Nat->List Nat)->World->Prop:=fun own w'=>(∀k,(own k).Nodup)∧(∀j k g,g∈own j->g∈own k->j=k)∧(∀k g,g∈own k->w.heap.size≤g∧g<w'.heap.size)
    let St:Nat->(Nat->List Nat)->World->(Nat->List Nat)->World->Prop:=fun i own w1 tN _=>(∀k,k≠i->tN k=own k)∧ ∀g∈tN i,w1.heap.size≤g
    have uk:∀i k v own tN w1 w2,i≠k->Below w1.heap.size w1 w2->St i own w1 tN w2->F own k v w1->F tN k v w2:=by
     intro i k v own tN w1 w2 LH hb ⟨SF,TS⟩ ⟨h1,h2⟩
     refine ⟨Nat.le_trans h1 hb.size,fun x hx=>?_⟩
     rcases h2 x hx with ⟨e,hg⟩|dz
     ·left;rw [SF k (Ne.symm LH)];exact ⟨e,hg.grow hb⟩
     ·right
      have uh:∀b,aJ S0 w1 φ (sn T own) b->b ∉ sn T tN:=fun b hS qO=>by
       obtain ⟨j,hj,Jt⟩:=kz.1 qO
       by_cases LG:j=i
       ·subst LG;have:=TS b Jt;have:=hS.1;omega
       ·rw [SF j LG] at Jt;exact hS.2.1 (kz.2 ⟨j,hj,Jt⟩)
      have gw:∀id e m g,az s.H φ id=some (e,m,some g)->aS w2 g=aS w1 g:=fun id e m g hi=>by
       obtain ⟨r,-,-,-,bY⟩:=aL hi
       have:=(lr.cL id g bY).2
       unfold aS;rw [hb.block g ah]
      exact dz.mono (fun _ _ h=>h) (fun b hS=>⟨⟨by have:=hS.1;have:=hb.size;omega,uh b hS,hS.2.2⟩,hb.block b hS.1⟩) gw
    have waiting:∀(O:List Nat) w',Below w.heap.size w w'->(∀g∈O,w.heap.size≤g)->aH S0 w0 n O s a w' φ:=by
     intro O w' hb hO
     have h1:=ny O [] s φ lr hO
     rw [List.append_nil] at h1
     exact h1.grow hb
    refine ⟨hm,yp (γ :=Nat->List Nat) FX KL KK KJ lr.jF hB F J St uk ?_ ?_ ops.toArray.size _ a _ (fun _=>[]) ⟨(Below.refl _ _).drew,by simp,?_,rfl,rfl,?_,?_,fun _ _=>rfl⟩ ⟨by simp,by simp,by simp⟩ (fun j _=>by simp only [List.size_toArray];exact getD_replicate_false _ _) (by simp)⟩
    ·
     intro k o vm ho own a' w' hb hJ Rj iY fb
     have qN:ops[k]?=some o:=by simpa using ho
     obtain ⟨x,Dk,hx,QE,dF⟩:=ix k o (by rw [List.getElem?_take,if_pos vm];exact qN)
     have kE:Below w.heap.size w w':=hb
     have R_:∀g∈sn T own,w.heap.size≤g:=fun g hg=>by
      obtain ⟨j,-,hj⟩:=kz.1 hg
      exact (hJ.2.2 j g hj).1
     have M7:∀g∈sn T own,g<w'.heap.size:=fun g hg=>by
      obtain ⟨j,-,hj⟩:=kz.1 hg
      exact (hJ.2.2 j g hj).2
     have hg:=waiting (sn T own) w' kE R_
     have Jq:aH S0 w0 n (sn T own) (vt s ((ops.take T).filterMap (·.dst)) ops ((gD.take k).map mQ) o) ⟨a'.tmps,S0.rV⟩ w' φ:=by
      refine ⟨Rj.trans lr.jF,rfl,hg.cM,fun i av hi=>?_,hg.rows,hg.only,hg.inj,hg.cL,hg.apart,hg.new⟩
      show Den (az s.H φ) _ _ _ _
      unfold vt at hi
      rw [bI] at hi
      cases H3:look (jc ops ((gD.take k).map mQ) (ba o)) i with
      | some y =>
       rw [H3] at hi
       simp at hi;subst hi
       obtain ⟨d,p,h1,h2,h3,h4⟩:=nH _ _ _ _ _ H3
       rcases iY d h1 with hF|⟨q,hq,hn⟩
       ·have jB:rA ops.toArray a' d=a'.tmps.getD i undef:=by
         unfold rA
         have:(ops.toArray[d]?).bind (·.dst)=some i:=by simp [h2,h3]
         rw [this]
        rw [jB] at hF
        rw [List.getElem?_map] at h4
        cases hz:(gD.take k)[d]? with
        | none=>rw [hz] at h4;cases h4
        | some z =>
         rw [hz] at h4;injection h4 with h4;subst h4
         rcases hF.2 z (bT _ _ _ _ hz) with ⟨⟨e,row,rfl⟩,-⟩|dz
         ·exact .dead _
         ·rw [qk dz];exact dz
       ·have gB:ops[d]?=some q:=by simpa using hq
        rw [h2] at gB;injection gB with gB;subst gB
        rw [h3] at hn;cases hn
      | none =>
       rw [H3] at hi
       simp at hi
       obtain ⟨h1,h2⟩:=fG _ _ _ _ hi
       have hk:=fb i (fun j p hj hp=>(kf ops T i).1 h2 j p hj (by simpa using hp))
       have oP:a'.tmps.getD i undef=a.tmps.getD i undef:=hk
       show Den _ _ _ (a'.tmps.getD i undef) av
       rw [oP]
       exact hg.ct i av h1
     have iF:gE P ops.toArray Q o a' w' fun v w2=>w'.heap.size≤w2.heap.size∧ ∃O',O'.Nodup∧(∀g∈O',w'.heap.size≤g∧g<w2.heap.size)∧(((∃e row,x= .own e row)∧gS (fun _=>False) w2 v x O')∨(O'= []∧Den (az s.H φ) (aJ S0 w2 φ (sn T own)) w2 v x)):=by
      rcases dF with dF|dF
      ·obtain ⟨Jo,hr⟩:=Fp (Q:=Q) (ops:=ops.toArray) dF QE Jq (b:=a') rfl
       unfold gE at hr ⊢
       split
       ·rename_i hw
        rw [if_pos hw] at hr
        exact Oper.wp_mono (fun b' w2 ⟨v,h1,h2,O',h3,h4,h5⟩=>⟨v,h1,h2,h2.size,O',h4,h5,.inl ⟨Jo,h3⟩⟩) hr
       ·rename_i hw
        rw [if_neg hw] at hr
        obtain ⟨O',h3,h4,h5⟩:=hr
        exact ⟨Nat.le_refl _,O',h4,h5,.inl ⟨Jo,h3⟩⟩
      ·have hr:=Iv (Q:=Q) (ops:=ops) dF QE Jq M7 (b:=a') rfl
       unfold gE at hr ⊢
       split
       ·rename_i hw
        rw [if_pos hw] at hr
        exact Oper.wp_mono (fun b' w2 ⟨v,h1,h2,h3,h4⟩=>⟨v,h1,h2,h3,[],by simp,by simp,.inr ⟨rfl,h4⟩⟩) hr
       ·rename_i hw
        rw [if_neg hw] at hr
        exact ⟨hr.1,[],by simp,by simp,.inr ⟨rfl,hr.2⟩⟩
     have fin:∀v w2,(w'.heap.size≤w2.heap.size∧ ∃O',O'.Nodup∧(∀g∈O',w'.heap.size≤g∧g<w2.heap.size)∧(((∃e row,x= .own e row)∧gS (fun _=>False) w2 v x O')∨(O'= []∧Den (az s.H φ) (aJ S0 w2 φ (sn T own)) w2 v x)))-> ∃tN,St k own w' tN w2∧J tN w2∧F tN k v w2:=by
      rintro v w2 ⟨dc,O',h4,h5,h6⟩
      have p1:∀j,j≠k->GV own k O' j=own j:=fun j hj=>by unfold GV;rw [if_neg hj]
      have p2:GV own k O' k=O':=by unfold GV;rw [if_pos rfl]
      refine ⟨GV own k O',⟨p1,fun g hg=>by rw [p2] at hg;exact (h5 g hg).1⟩,⟨fun j=>?_,fun i j g hi hj=>?_,fun j g hj=>?_⟩,Nat.le_trans kE.size dc,fun y hy=>?_⟩
      ·by_cases hj:j=k
       ·subst hj;rw [p2];exact h4
       ·rw [p1 j hj];exact hJ.1 j
      ·by_cases LH:i=k
       ·by_cases vn:j=k
        ·rw [LH,vn]
        ·subst LH
         rw [p2] at hi;rw [p1 j vn] at hj
         have:=(h5 g hi).1;have:=(hJ.2.2 j g hj).2;omega
       ·by_cases vn:j=k
        ·subst vn
         rw [p2] at hj;rw [p1 i LH] at hi
         have:=(h5 g hj).1;have:=(hJ.2.2 i g hi).2;omega
        ·rw [p1 i LH] at hi;rw [p1 j vn] at hj;exact hJ.2.1 i j g hi hj
      ·by_cases vn:j=k
       ·subst vn;rw [p2] at hj
        exact ⟨Nat.le_trans kE.size (h5 g hj).1,(h5 g hj).2⟩
       ·rw [p1 j vn] at hj
        exact ⟨(hJ.2.2 j g hj).1,Nat.lt_of_lt_of_le (hJ.2.2 j g hj).2 dc⟩
      ·rw [hx] at hy;injection hy with hy;subst hy
       rcases h6 with ⟨e1,e2⟩|⟨e1,e2⟩
       ·left;rw [p2];exact ⟨e1,e2⟩
       ·right
        subst e1
        refine e2.mono (fun _ _ h=>h) (fun b hS=>⟨⟨hS.1,fun hm=>?_,hS.2.2⟩,rfl⟩) (fun _ _ _ _ _=>rfl)
        obtain ⟨j,hj,Jt⟩:=kz.1 hm
        by_cases vn:j=k
        ·subst vn;rw [p2] at Jt;simp at Jt
        ·rw [p1 j vn] at Jt;exact hS.2.1 (kz.2 ⟨j,hj,Jt⟩)
     unfold gE at iF ⊢
     split
     ·rename_i hw
      rw [if_pos hw] at iF
      exact Oper.wp_mono (fun b' w2 ⟨v,h1,h2,h3⟩=>⟨v,h1,h2,fin v w2 h3⟩) iF
     ·rename_i hw
      rw [if_neg hw] at iF
      exact fin undef w' iF
    ·
     intro vs own w' hb hJ xr
     have kE:Below w.heap.size w w':=hb
     have BT:∀g∈fh own (ops.take T) gD 0,g∈sn T own:=fun g hg=>by
      obtain ⟨j,h1,h2,h3⟩:=nF own _ _ 0 g hg
      exact kz.2 ⟨j,by rw [List.length_take] at h2;omega,h3⟩
     have hOr:∀g∈fh own (ops.take T) gD 0,w.heap.size≤g∧g<w'.heap.size:=fun g hg=>by
      obtain ⟨j,h1,h2,h3⟩:=nF own _ _ 0 g hg
      exact hJ.2.2 j g h3
     have hg:=waiting (fh own (ops.take T) gD 0) w' kE (fun g hg=>(hOr g hg).1)
     have jC:=jx vs (ops.zipIdx.take T) a (by
      have h1:(ops.zipIdx.take T).filterMap (·.1.dst)=(ops.take T).filterMap (·.dst):=by
       conv=>rhs;rw [←List.zipIdx_map_fst 0 ops,←List.map_take]
       rw [List.filterMap_map];rfl
      rw [h1]
      exact List.Nodup.sublist ((List.take_sublist T ops).filterMap _) (by simpa using g_))
     have S5:∀(k:Nat) (o:Oper) (i:Nat),k<T->ops[k]?=some o->o.dst=some i->(dX (ops.zipIdx.take T) vs a).tmps.getD i undef=vs k:=by
      intro k o i vm ho hd
      have hv:=jC.2.2.1 (o,k) ((lJ ops T _).2 ⟨vm,ho⟩) i hd (by rw [lr.jF];exact u9 k o i (by simpa using ho) hd)
      simp [hv]
     show wpList P ops.toArray Q (ops.drop T) (dX (ops.zipIdx.take T) vs a) w'
     have hA:aH S0 w0 n (fh own (ops.take T) gD 0) ⟨iX (ops.take T) (gD.map mQ)++nc ((ops.take T).filterMap (·.dst)) s.F,s.H⟩ (dX (ops.zipIdx.take T) vs a) w' φ:=by
      refine ⟨jC.1.trans lr.jF,jC.2.1.trans lr.jJ,hg.cM,fun i av hi=>?_,hg.rows,hg.only,hg.inj,hg.cL,hg.apart,hg.new⟩
      show Den (az s.H φ) _ _ _ _
      have hi:look (iX (ops.take T) (gD.map mQ)++nc ((ops.take T).filterMap (·.dst)) s.F) i=some av:=hi
      rw [bI] at hi
      cases hh:look (iX (ops.take T) (gD.map mQ)) i with
      | some y =>
       rw [hh] at hi
       simp at hi;subst hi
       obtain ⟨k,o,h1,h2,h3⟩:=kC _ _ _ _ hh
       have vm:k<T:=by have:=(List.getElem?_eq_some_iff.1 h3).1;rw [List.length_map] at this;omega
       have ho:ops[k]?=some o:=bT _ _ _ _ h1
       rw [S5 k o i vm ho h2]
       rw [List.getElem?_map] at h3
       cases hz:gD[k]? with
       | none=>rw [hz] at h3;cases h3
       | some z =>
        rw [hz] at h3;injection h3 with h3;subst h3
        rcases (xr k vm).2 z hz with ⟨⟨e,row,rfl⟩,-⟩|dz
        ·exact .dead _
        ·rw [qk dz]
         exact dz.mono (fun _ _ h=>h) (fun b hS=>⟨⟨hS.1,fun hm=>hS.2.1 (BT b hm),hS.2.2⟩,rfl⟩) (fun _ _ _ _ _=>rfl)
      | none =>
       rw [hh] at hi
       simp at hi
       obtain ⟨h1,h2⟩:=fG _ _ _ _ hi
       have hv:=jC.2.2.2 i (fun p hp hd=>(kf ops T i).1 h2 p.2 p.1 ((lJ ops T p).1 hp).1 ((lJ ops T p).1 hp).2 hd)
       have:(dX (ops.zipIdx.take T) vs a).tmps.getD i undef=a.tmps.getD i undef:=by
        simp [hv]
       rw [this]
       exact hg.ct i av h1
     obtain ⟨ck,lh⟩:=ya own (ops.take T) gD 0 _ φ hA (fun j o e row d h1 h2 h3=>by
      have Qy:j<T:=by have:=(List.getElem?_eq_some_iff.1 h2).1;omega
      have ho:ops[j]?=some o:=bT _ _ _ _ h1
      rw [S5 j o d Qy ho h3,Nat.zero_add]
      rcases (xr j Qy).2 _ h2 with ⟨-,UM⟩|dz
      ·exact UM
      ·have:=qk dz;cases this) (rK own hJ.1 hJ.2.1 _ _ 0) (fun g hg=>⟨.inl (Nat.le_trans lr.cM.size (hOr g hg).1),(hOr g hg).2⟩) (by
       rw [j7] at gv ⊢
       exact gv) (List.Nodup.sublist ((List.take_sublist T ops).filterMap _) (by simpa using g_))
     exact jD (S0:=S0) (w0:=w0) _ _ _ _ _ ot hD _ _ ⟨ck,lh⟩ hQ
    ·intro k o hk;rw [getD_replicate_false] at hk;cases hk
    ·intro k o s hk;rw [getD_replicate_false] at hk;cases hk
    ·intro k o hk;rw [getD_replicate_false] at hk;cases hk
   ·cases he
  ·cases he
 ·cases he
def qX (P:Program) (n T:Nat) (Ks:List Nat) (hs:List (Nat×Hint)) (c:Code) (s:AS):Option (AS×List Prop) :=
 match c with
 | .region _ ⟨l⟩ true=>xO P n T Ks l hs s
 | _=>none
theorem a7.OC {n:Nat} {c:Code} {Q:Exit->AS->Prop} {s s':AS} {C:List Prop} (T:Nat) (Ks:List Nat) (hs:List (Nat×Hint)) (he:qX P n T Ks hs c s=some (s',C)) (hC:bu C) (h:Q .normal s'):a7 P n c Q s:=by
 intro S0 w0 a w fS
 unfold qX at he
 split at he
 ·exact Co (S0:=S0) (w0:=w0) he hC fS fun a' w' bU=>⟨s',h,bU.one⟩
 ·cases he
theorem a7.SL {n:Nat} {c:Code} {Q:Exit->AS->Prop} {s:AS} {C:List Prop} (T:Nat) (Ks:List Nat) (hs:List (Nat×Hint)) (he:oD (qX P n T Ks hs c s)=some C) (hC:bu C) (h:Q .normal (pg (qX P n T Ks hs c s))):a7 P n c Q s:=a7.OC T Ks hs (iH he) hC h
end
end Go.Proofs.YtjgbhhnghedgdaaGreatDoor
