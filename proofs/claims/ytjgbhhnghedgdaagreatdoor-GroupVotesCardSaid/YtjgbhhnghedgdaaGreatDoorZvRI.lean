import Derived.Test.YtjgbhhnghedgdaaGreatDoorZvRH
set_option linter.all false
namespace Go.Proofs.YtjgbhhnghedgdaaGreatDoor
open Go.RowKit
def fh (L:Nat->Bool) (k:Nat):Nat->Bool:=fun j=>if j=k then true else L j
structure R5 (ops:Array Oper) (listed:Array Bool):Prop where
 size:listed.size=ops.size
 closed:∀k o,listed.getD k false=true->ops[k]?=some o-> ∀d∈bl o,listed.getD d false=true
section
variable {P:Program} {ops:Array Oper} {Q:Exit->Act->World->Prop}
theorem nK {n T:Nat} (hT:T<ops.size) (KG:Region.sinkB .any ops T=true) (tI:Region.chainB .any ops T=true) (Qf:Region.seqB .any ops (ops.size-T) T ((List.range ops.size).map (decide<| · <T)).toArray=true) (hB:l7 ops n=true) (J:(Nat->Bool)->Act->World->Prop)
  (uc:∀k o (L:Nat->Bool) a' w',k<T->ops[k]?=some o->L k=false->(∀d∈bl o,L d=true)->(∀j p,L j=true->ops[j]?=some p-> ∀d∈bl p,L d=true)->(∀j,T≤j->L j=false)->J L a' w' ->
   (if Region.wanted o (yielded ops a'.tmps)=true then o.wp P a' w' (fun sJ fJ=>J (fh L k) sJ fJ) Q else J (fh L k) (a'.put o.dst undef) w'))
  (kA:∀(L:Nat->Bool) a' w',(∀k,k<T->L k=true)->(∀j,T≤j->L j=false)->J L a' w'->wpList P ops Q (ops.toList.drop T) a' w') :
  ∀(fuel:Nat) (listed:Array Bool) (a':Act) (w':World),R5 ops listed->J (fun k=>listed.getD k false) a' w'->(∀j,T≤j->listed.getD j false=false) ->
   (listed.toList.filter (· == false)).length=fuel->wpAny P .any ops Q fuel listed a' w':=by
 obtain ⟨cW,iI,wM⟩:=gl hB
 have kS:∀(listed:Array Bool),R5 ops listed-> ∀k,k<T->listed.getD k false=false-> ∃i,i<T∧i∈Region.ready .any ops listed:=by
  intro listed I k
  induction k using Nat.strongRecOn with
  | _ k ih =>
   intro hk hl
   have iY:k<listed.size:=by rw [I.size];omega
   have w8:k<ops.size:=ag
   have pf:ops[k]?=some ops[k]:=Array.getElem?_eq_getElem w8
   by_cases gD:∀d∈bl ops[k],listed.getD d false=true
   ·refine ⟨k,hk,?_⟩
    rw [mem_ready]
    refine ⟨?_,ops[k],pf,fun e he hb=>gD e.on ?_⟩
    ·simp [iY] at hl ⊢;exact hl
    ·unfold bl
     exact List.mem_map.2 ⟨e,List.mem_filter.2 ⟨by simpa using he,hb⟩,rfl⟩
   ·have:∃d,d∈bl ops[k]∧listed.getD d false=false:=by
     refine Classical.byContradiction fun gr=>gD fun d hd=>?_
     cases hx:listed.getD d false with
     | true=>rfl
     | false=>exact absurd ⟨d,hd,hx⟩ gr
    obtain ⟨d,hd,hx⟩:=this
    exact ih d (cW k _ pf d hd) (by have:=cW k _ pf d hd;omega) hx
 have rest:∀(fuel:Nat) (listed:Array Bool) (a':Act) (w':World),R5 ops listed->J (fun k=>listed.getD k false) a' w'->(∀j,T≤j->listed.getD j false=false)->(listed.toList.filter (· == false)).length=fuel->(∀k,k<T->listed.getD k false=true)->wpAny P .any ops Q fuel listed a' w':=by
  intro fuel listed a' w' I hJ tail hc all
  have om:listed=((List.range ops.size).map (decide<| · <T)).toArray:=by
   apply Array.ext_getElem?
   intro x
   by_cases hx:x<ops.size
   ·have Hf:x<listed.size:=by rw [I.size];exact hx
    have hr:((List.range ops.size).map (decide<| · <T)).toArray[x]?=some (decide (x<T)):=by simp [hx]
    rw [hr]
    by_cases BB:x<T
    ·have:=all x BB;simp [Hf] at this ⊢;rw [this,decide_eq_true BB]
    ·have:=tail x ag;simp [Hf] at this ⊢;rw [this,decide_eq_false BB]
   ·rw [Array.getElem?_eq_none (by rw [I.size];omega),Array.getElem?_eq_none (by simp;omega)]
  have hlen:fuel=(ops.toList.drop T).length:=by
   rw [←hc,om]
   simp only [List.length_drop,Array.length_toList,List.filter_map,List.length_map]
   have key:∀n,T≤n->((List.range n).filter ((fun x=>x == false) ∘ (decide<| · <T))).length=n-T:=by
    intro n hn
    induction n with
    | zero=>simp
    | succ n ih =>
     rw [List.range_succ,List.filter_append,List.length_append]
     by_cases Qx:T≤n
     ·rw [ih Qx]
      have:((fun x=>x == false) ∘ (decide<| · <T)) n=true:=by simp;omega
      rw [List.filter_cons_of_pos this];simp;omega
     ·obtain rfl:T=n+1:=ag
      have h1:(List.range n).filter ((fun x=>x == false) ∘ (decide<| · <n+1))= []:=by
       rw [List.filter_eq_nil_iff];intro x hx;have:=List.mem_range.1 hx;simp;omega
      have h2:[n].filter ((fun x=>x == false) ∘ (decide<| · <n+1))= []:=by
       rw [List.filter_eq_nil_iff];intro x hx;simp at hx;subst hx;simp
      rw [h1,h2];simp
   exact key ops.size ag
  rw [hlen]
  refine wpAny_of_seq (ops.toList.drop T) T listed a' w' (fun j=>by rw [List.getElem?_drop];simp) ?_ (kA _ a' w' all tail hJ)
  rw [om]
  simpa using Qf
 intro fuel
 induction fuel with
 | zero =>
  intro listed a' w' I hJ tail hc
  refine rest 0 listed a' w' I hJ tail hc fun k hk=>?_
  cases hx:listed.getD k false with
  | true=>rfl
  | false =>
   exfalso
   have iY:k<listed.size:=by rw [I.size];omega
   have:false∈listed.toList.filter (· == false):=by
    refine List.mem_filter.2 ⟨?_,rfl⟩
    have h1:listed.toList[k]?=some false:=by simp [iY] at hx ⊢;exact hx
    exact List.mem_of_getElem? h1
   have:=List.length_pos_of_mem this
   omega
 | succ fuel ih =>
  intro listed a' w' I hJ tail hc
  by_cases hex:∀k,k<T->listed.getD k false=true
  ·exact rest (fuel+1) listed a' w' I hJ tail hc hex
  have Qa:∃k,k<T∧listed.getD k false=false:=by
   refine Classical.byContradiction fun gr=>hex fun k hk=>?_
   cases hx:listed.getD k false with
   | true=>rfl
   | false=>exact absurd ⟨k,hk,hx⟩ gr
  obtain ⟨k0,zl,IX⟩:=Qa
  have QZ:HeadInv .any ops T listed:=⟨I.size,fun j oj hj hl e he hb=>I.closed j oj hl hj e.on (by
    unfold bl
    exact List.mem_map.2 ⟨e,List.mem_filter.2 ⟨by simpa using he,hb⟩,rfl⟩),fun t ht Qe=>getD_in (by rw [I.size];exact Qe) (tail t ht)⟩
  have Jg:listed.getD k0 true=false:=getD_in (by rw [I.size];omega) IX
  refine ⟨fun hr=>(by
   obtain ⟨i,_,hi⟩:=kS listed I k0 zl IX
   rw [hr] at hi;cases hi),fun i hi=>?_⟩
  have QE:i<T:=Classical.byContradiction fun h=>tail_waits KG tI hT QZ _ k0 rfl zl Jg i ag hi
  obtain ⟨h0,o,ho,gD⟩:=mem_ready.1 hi
  have Hk:i<listed.size:=by rw [I.size];exact (Array.getElem?_eq_some_iff.1 ho).1
  have Pq:listed.getD i false=false:=by simp [Hk] at h0 ⊢;exact h0
  have js:∀d∈bl o,listed.getD d false=true:=by
   intro d hd
   unfold bl at hd
   obtain ⟨e,he,rfl⟩:=List.mem_map.1 hd
   obtain ⟨ML,LJ⟩:=List.mem_filter.1 he
   exact gD e (by simpa using ML) LJ
  have next:R5 ops (listed.setIfInBounds i true):=by
   refine ⟨by simpa using I.size,fun k p hk hp d hd=>?_⟩
   by_cases tH:i=k
   ·subst tH
    rw [ho] at hp;injection hp with hp;subst hp
    exact getD_set_true (js d hd)
   ·rw [getD_set_ne false tH] at hk
    exact getD_set_true (I.closed k p hk hp d hd)
  have ea:(fun k=>(listed.setIfInBounds i true).getD k false)=fh (fun k=>listed.getD k false) i:=by
   funext k
   unfold fh
   by_cases tH:k=i
   ·subst tH;rw [if_pos rfl];simp [Hk]
   ·rw [if_neg tH,getD_set_ne false (Ne.symm tH)]
  have oe:∀j,T≤j->(listed.setIfInBounds i true).getD j false=false:=fun j hj=>by rw [getD_set_ne false ag];exact tail j hj
  have oi:((listed.setIfInBounds i true).toList.filter (· == false)).length=fuel:=by
   have QA:((listed.setIfInBounds i true).toList.filter (· == false)).length+1=(listed.toList.filter (· == false)).length:=by
    rw [Array.toList_setIfInBounds]
    have jx:listed.toList[i]?=some false:=by simp [Hk] at h0 ⊢;exact h0
    exact p7 _ i jx
   omega
  have i_:=uc i o (fun k=>listed.getD k false) a' w' QE ho Pq js (fun j p hj hp d hd=>I.closed j p hj hp d hd) tail hJ
  rw [←ea] at i_
  unfold wpOp
  rw [ho]
  simp only
  by_cases hw:Region.wanted o (yielded ops a'.tmps)=true
  ·rw [if_pos hw] at i_ ⊢
   left
   exact Oper.wp_mono (fun sJ fJ h=>ih _ _ _ next h oe oi) i_
  ·rw [if_neg hw] at i_ ⊢
   exact ih _ _ _ next i_ oe oi
end
def dY (ops:List Oper) (col:List AV) (L:Nat->Bool):Nat->List (Nat×AV)
 | 0=>[]
 | k+1=>match L k,ops[k]?,col[k]? with
  | true,some o,some x=>(match o.dst with|some i=>(i,x)::dY ops col L k|none=>dY ops col L k)
  | _,_,_=>dY ops col L k
theorem kZ (ops:List Oper) (col:List AV) (L:Nat->Bool):∀(T i:Nat) (x:AV),look (dY ops col L T) i=some x-> ∃k o,k<T∧L k=true∧ops[k]?=some o∧o.dst=some i∧col[k]?=some x
 | 0,i,x,h=>by cases h
 | k+1,i,x,h=>by
  have step:look (dY ops col L k) i=some x-> ∃k' o,k'<k+1∧L k'=true∧ops[k']?=some o∧o.dst=some i∧col[k']?=some x:=fun h=>by
   obtain ⟨k',o,h1,h2⟩:=kZ ops col L k i x h
   exact ⟨k',o,ag,h2⟩
  simp only [dY] at h
  split at h
  ·rename_i o y hL ho hy
   split at h
   ·rename_i j hj
    rw [aD] at h
    by_cases e:j=i
    ·rw [if_pos e] at h;injection h with h;subst h;subst e
     exact ⟨k,o,ag,hL,ho,hj,hy⟩
    ·rw [if_neg e] at h;exact step h
   ·exact step h
  ·exact step h
theorem gI {ops:List Oper} (iI:(ops.filterMap (·.dst)).Nodup) (col:List AV) (L:Nat->Bool):∀(T k i:Nat) (o:Oper) (x:AV),k<T->L k=true->ops[k]?=some o->o.dst=some i->col[k]?=some x->look (dY ops col L T) i=some x
 | 0,k,i,o,x,h,_,_,_,_=>by omega
 | m+1,k,i,o,x,hk,hL,ho,hd,hx=>by
  by_cases RJ:k=m
  ·subst RJ
   simp only [dY,hL,ho,hx,hd,aD,if_pos]
  ·have ih:=gI iI col L m k i o x ag hL ho hd hx
   simp only [dY]
   split
   ·rename_i p y _ hp _
    split
    ·rename_i j hj
     rw [aD]
     have cS:j≠i:=fun e=>by
      subst e
      exact RJ (o8 (ops:=ops.toArray) (by simpa using iI) (by simpa using ho) (by simpa using hp) hd hj)
     rw [if_neg cS];exact ih
    ·exact ih
   ·exact ih
theorem jv {ops:List Oper} {col:List AV} {L:Nat->Bool} {T i:Nat} (h:∀k o,k<T->ops[k]?=some o->o.dst≠some i):look (dY ops col L T) i=none:=by
 cases hl:look (dY ops col L T) i with
 | none=>rfl
 | some x =>
  obtain ⟨k,o,h1,-,h3,h4,-⟩:=kZ ops col L T i x hl
  exact absurd h4 (h k o h1 h3)
theorem aI.sub {S0:bn} {w0 w:World} {n:Nat} {O:List Nat} {F F':List (Nat×AV)} {H:List (Nat×Row)} {a:Act} {φ:Nat->Option Nat} (h:aI S0 w0 n O ⟨F,H⟩ a w φ) (hF:∀i x,look F' i=some x->look F i=some x∨x= .dead):aI S0 w0 n O ⟨F',H⟩ a w φ:=by
 refine ⟨h.j8,h.ke,h.da,fun i x hx=>?_,h.rows,h.only,h.inj,h.cY,h.apart,h.new⟩
 rcases hF i x hx with h1|h1
 ·exact h.cC i x h1
 ·rw [h1];exact .dead _
section
variable {P:Program} {ops:List Oper} {S0:bn} {w0:World} {Q:Exit->Act->World->Prop} {n T:Nat} {col:List AV} {kept:List (Nat×AV)} {H:List (Nat×Row)} {L:Nat->Bool} {k:Nat} {o:Oper}
theorem Br (iI:(ops.filterMap (·.dst)).Nodup) (Gt:∀d∈bl o,L d=true∧d<T) (fK:∀i x,look kept i=some x-> ∀j p,j<T->ops[j]?=some p->p.dst≠some i) (i:Nat) (x:AV) (h:look (jB ops col (bl o)++kept) i=some x):look (dY ops col L T++kept) i=some x:=by
 rw [bL] at h ⊢
 cases hd:look (jB ops col (bl o)) i with
 | some y =>
  rw [hd] at h
  simp at h;subst h
  obtain ⟨d,p,h1,h2,h3,h4⟩:=oQ _ _ _ _ _ hd
  rw [gI iI col L T d i p y (Gt d h1).2 (Gt d h1).1 h2 h3 h4];rfl
 | none =>
  rw [hd] at h
  simp at h
  rw [jv fun j p hj hp=>fK i x h j p hj hp]
  simpa using h
theorem uL {h:Hint} {x:AV} {C:List Prop} {a:Act} {w:World} (iI:(ops.filterMap (·.dst)).Nodup) (wM:∀(k:Nat) (o:Oper) (s:Nat),ops[k]?=some o->o.dst=some s->s<n)
  (hk:k<T) (ho:ops[k]?=some o) (Gt:∀d∈bl o,L d=true∧d<T) (fK:∀i x,look kept i=some x-> ∀j p,j<T->ops[j]?=some p->p.dst≠some i)
  (eE:tN P ops ⟨jB ops col (bl o)++kept,H⟩ o h=some (x,C)) (hC:bx C) (hx:col[k]?=some x) (hs:ie S0 w0 n ⟨dY ops col L T++kept,H⟩ a w) :
  if Region.wanted o (yielded ops.toArray a.tmps)=true then o.wp P a w (fun a' w'=>ie S0 w0 n ⟨dY ops col (fh L k) T++kept,H⟩ a' w') Q else ie S0 w0 n ⟨dY ops col (fh L k) T++kept,H⟩ (a.put o.dst undef) w:=by
 obtain ⟨φ,hs⟩:=hs
 have Di:=hs.sub (F':=jB ops col (bl o)++kept) (fun i y hy=>.inl (Br iI Gt fK i y hy))
 have i_:=Fu (Q:=Q) eE hC Di (b:=a) rfl
 have fin:∀v w',Below w.heap.size w w'->Den (az H φ) (aP S0 w' φ []) w' v x->ie S0 w0 n ⟨dY ops col (fh L k) T++kept,H⟩ (a.put o.dst v) w':=by
  intro v w' hb hd
  have hg:=hs.grow hb
  refine ⟨φ,(uG ..).trans hg.j8,(pY ..).trans hg.ke,hg.da,fun i y hy=>?_,hg.rows,hg.only,hg.inj,hg.cY,hg.apart,hg.new⟩
  have hy:look (dY ops col (fh L k) T++kept) i=some y:=hy
  have same:o.dst≠some i->(a.put o.dst v).tmps.getD i undef=a.tmps.getD i undef:=fun cS=>by
   cases U0:o.dst with
   | none=>rfl
   | some j =>
    have cW:j<a.tmps.size:=by rw [hg.j8];exact wM k o j ho U0
    rw [qu a j i v cW,if_neg (fun e=>cS (by rw [U0,e]))]
  rw [bL] at hy
  cases hl:look (dY ops col (fh L k) T) i with
  | some z =>
   rw [hl] at hy
   simp at hy;subst hy
   obtain ⟨j,p,h1,h2,h3,h4,h5⟩:=kZ _ _ _ _ _ _ hl
   by_cases w_:j=k
   ·subst w_
    rw [ho] at h3;injection h3 with h3;subst h3
    rw [hx] at h5;injection h5 with h5;subst h5
    have cW:i<a.tmps.size:=by rw [hg.j8];exact wM j o i ho h4
    rw [h4,qu a i i v cW,if_pos rfl]
    exact hd
   ·have RU:L j=true:=by unfold fh at h2;rw [if_neg w_] at h2;exact h2
    have cS:o.dst≠some i:=fun e=>w_ (o8 (ops:=ops.toArray) (by simpa using iI) (by simpa using h3) (by simpa using ho) h4 e)
    rw [same cS]
    refine hg.cC i z ?_
    show look (dY ops col L T++kept) i=some z
    rw [bL,gI iI col L T j i p z h1 RU h3 h4 h5];rfl
  | none =>
   rw [hl] at hy
   simp at hy
   have cS:o.dst≠some i:=fK i y hy k o hk ho
   rw [same cS]
   refine hg.cC i y ?_
   show look (dY ops col L T++kept) i=some y
   rw [bL,jv fun j p hj hp=>fK i y hy j p hj hp]
   simpa using hy
 unfold h_ at i_
 split
 ·rename_i hw
  rw [if_pos hw] at i_
  exact Oper.wp_mono (fun a' w' ⟨v,h1,h2,h3,h4⟩=>by subst h1;exact fin v w' h2 h4) i_
 ·rename_i hw
  rw [if_neg hw] at i_
  exact fin undef w (Below.refl _ _) i_.2
end
def Kn (d:Nat):AV->AV->AV
 | .ref id,x=>jY d (jY id x)
 | .pre id _,x=>jY d (jY id x)
 | _,x=>jY d x
def Rk (d:Nat) (X:AV) (F:List (Nat×AV)):List (Nat×AV):=(d,.ref d)::cR (eD (Kn d X) F) d
theorem mu {α:Type} (f g:α->α):∀(l:List (Nat×α)),eD f (eD g l)=eD (fun x=>f (g x)) l
 | []=>rfl
 | (k,x)::l=>by simp only [eD,mu f g l]
theorem HO (P:Program) (F F':List (Nat×AV)) (H:List (Nat×Row)) (xt:TypeId) (z:Nat) (x:AV):rJ P ⟨F',H⟩ xt z x=rJ P ⟨F,H⟩ xt z x:=by
 cases x<;>rfl
theorem Km {P:Program} {n:Nat} {F F':List (Nat×AV)} {H:List (Nat×Row)} {d t xt:Nat} {X Y:AV} {h:Hint} {q:AS} {C:List Prop} (he:ll P n ⟨F,H⟩ d t xt X Y h=some (q,C)):ll P n ⟨F',H⟩ d t xt X Y h=some (⟨Rk d X F',q.H⟩,C):=by
 unfold ll at he ⊢
 split at he
 ·rename_i el hu
  split at he
  ·rename_i i hi
   split at he
   ·rename_i zero z b hz dv xS
    split at he
    ·rename_i cells s1 row tE l5 gq
     split at he
     ·rename_i C' s' nw ea
      cases he
      have QM:∃O3,qX ⟨F',H⟩ (z+1) X=some (cells,O3)∧O3.H=s1.H∧eD (jY d) O3.F=eD (Kn d X) F':=by
       unfold qX at l5 ⊢
       split at l5
       ·cases l5;exact ⟨_,rfl,rfl,rfl⟩
       ·split at l5
        ·rename_i e' _ OJ hl
         split at l5
         ·rename_i hb
          cases l5
          refine ⟨ck _ ⟨F',H⟩,?_,rfl,?_⟩
          ·have r7:look (⟨F',H⟩:AS).H _=_:=hl
           simp only [r7,hb]
          ·exact mu _ _ _
         ·cases l5
        ·cases l5
       ·split at l5
        ·rename_i e' _ OJ hl
         split at l5
         ·rename_i hb
          cases l5
          refine ⟨ck _ ⟨F',H⟩,?_,rfl,?_⟩
          ·have r7:look (⟨F',H⟩:AS).H _=_:=hl
           simp only [r7,hb]
          ·exact mu _ _ _
         ·cases l5
        ·cases l5
       ·split at l5
        ·rename_i hb
         cases l5
         exact ⟨⟨F',H⟩,rfl,rfl,rfl⟩
        ·cases l5
       ·cases l5
      obtain ⟨O3,Hn,Av,Wn⟩:=QM
      rw [HO P F F'] at *
      simp only [tE,Hn,gq,nw]
      unfold fO at ea ⊢
      simp only at ea ⊢
      split at ea
      ·cases ea
       have e1:(ck d O3).H=(ck d s1).H:=by unfold ck;rw [Av]
       have e2:(ck d O3).F=eD (Kn d X) F':=Wn
       simp only [lT,e1,e2,Rk]
      ·cases ea
     ·cases he
    ·cases he
   ·cases he
  ·cases he
 ·cases he
section
variable {P:Program} {ops:List Oper} {S0:bn} {w0:World} {Q:Exit->Act->World->Prop} {n T:Nat} {col col':List AV} {kept:List (Nat×AV)} {H H':List (Nat×Row)} {L:Nat->Bool} {k:Nat} {o:Oper}
theorem y_ {f:AV->AV} {F:List (Nat×AV)} {d i:Nat} (h:d≠i):look (cR (eD f F) d) i=(look F i).map f:=by rw [bH,if_neg h,cy]
def vh (F:List (Nat×AV)):Operand->Bool
 | .tmp i=>(look F i).isSome
 | _=>true
theorem mZ {F F':List (Nat×AV)} (hF:∀i x,look F i=some x->look F' i=some x) {y:Operand} (h:vh F y=true):bq ⟨F',H⟩ y=bq ⟨F,H⟩ y:=by
 cases y with
 | tmp i =>
  have h:(look F i).isSome=true:=h
  cases hl:look F i with
  | none=>rw [hl] at h;cases h
  | some x =>
   show ka _ i=ka _ i
   unfold ka
   rw [show look (⟨F',H⟩:AS).F i=some x from hF i x hl,show look (⟨F,H⟩:AS).F i=some x from hl]
 | _=>rfl
end
def PD:List Nat->List Nat->List Nat
 | [],m=>m
 | x::l,m=>match m.any (Nat.beq x) with|true=>PD l m|false=>PD l (x::m)
theorem y2:∀(l m:List Nat) (x:Nat),x∈PD l m->x∈l∨x∈m
 | [],m,x,h=>.inr h
 | y::l,m,x,h=>by
  simp only [PD] at h
  split at h
  ·rcases y2 l m x h with h|h
   ·exact .inl (by simp [h])
   ·exact .inr h
  ·rcases y2 l (y::m) x h with h|h
   ·exact .inl (by simp [h])
   ·rcases List.mem_cons.1 h with h|h
    ·exact .inl (by simp [h])
    ·exact .inr h
def nP (R:List (List Nat)):List Nat->List Nat
 | []=>[]
 | d::l=>PD (d::R.getD d []) (nP R l)
theorem vn (R:List (List Nat)):∀(l:List Nat) (x:Nat),x∈nP R l-> ∃d∈l,x=d∨x∈R.getD d []
 | [],x,h=>by simp [nP] at h
 | d::l,x,h=>by
  rcases y2 _ _ x h with h|h
  ·exact ⟨d,by simp,List.mem_cons.1 h⟩
  ·obtain ⟨e,h1,h2⟩:=vn R l x h
   exact ⟨e,by simp [h1],h2⟩
def mX:List Oper->List (List Nat)->List (List Nat)
 | [],R=>R
 | o::l,R=>mX l (R++ [nP R (bl o)])
def uu (ops:List Oper) (R:List (List Nat)):Prop:=∀(k:Nat) (o:Oper),ops[k]?=some o-> ∀(L:Nat->Bool),(∀j p,L j=true->ops[j]?=some p-> ∀d∈bl p,L d=true)->(∀d∈bl o,L d=true)-> ∀j∈R.getD k [],L j=true
theorem rN (ops:List Oper):∀(l:List Oper) (R:List (List Nat)),uu ops R->(∀j o,l[j]?=some o->ops[R.length+j]?=some o)->(∀(k:Nat) (o:Oper),ops[k]?=some o-> ∀d∈bl o,d<k)->uu ops (mX l R)
 | [],R,h,_,_=>h
 | o::l,R,h,hl,cW=>by
  refine rN ops l _ ?_ (fun j p hp=>?_) cW
  ·intro k p hp L hc hd j hj
   by_cases hk:k<R.length
   ·have:(R++ [nP R (bl o)]).getD k []=R.getD k []:=by
     rw [List.getD_eq_getElem?_getD,List.getD_eq_getElem?_getD,List.getElem?_append_left hk]
    rw [this] at hj
    exact h k p hp L hc hd j hj
   ·by_cases w8:k=R.length
    ·subst w8
     have e:(R++ [nP R (bl o)]).getD R.length []=nP R (bl o):=by
      rw [List.getD_eq_getElem?_getD,List.getElem?_append_right (Nat.le_refl _)];simp
     rw [e] at hj
     have ho:ops[R.length]?=some o:=by have:=hl 0 o rfl;simpa using this
     rw [ho] at hp;injection hp with hp;subst hp
     obtain ⟨d,h1,h2⟩:=vn R _ j hj
     rcases h2 with h2|h2
     ·subst h2;exact hd j h1
     ·cases RH:ops[d]? with
      | none =>
       exfalso
       have:=cW R.length o ho d h1
       have h3:=(List.getElem?_eq_some_iff.1 ho).1
       rw [List.getElem?_eq_getElem ag] at RH;cases RH
      | some q=>exact h d q RH L hc (fun d' Gu=>hc d q (hd d h1) RH d' Gu) j h2
    ·have e:(R++ [nP R (bl o)]).getD k []= []:=by
      rw [List.getD_eq_getElem?_getD,List.getElem?_eq_none (by simp;omega)];rfl
     rw [e] at hj;cases hj
  ·rw [List.length_append]
   have:=hl (j+1) p (by simpa using hp)
   simp only [List.length_cons,List.length_nil]
   rwa [show R.length+(j+1)=R.length+(0+1)+j by omega] at this
def hit (l m:List Nat):Bool:=l.any fun x=>m.any (Nat.beq x)
theorem any_beq {m:List Nat} {x:Nat}:m.any (Nat.beq x)=true↔x∈m:=by
 rw [List.any_eq_true]
 exact ⟨fun ⟨y,h1,h2⟩=>by rw [Nat.eq_of_beq_eq_true h2];exact h1,fun h=>⟨x,h,Nat.beq_refl x⟩⟩
theorem oU {l m:List Nat}:hit l m=true↔ ∃x,x∈l∧x∈m:=by
 unfold hit
 rw [List.any_eq_true]
 exact ⟨fun ⟨x,h1,h2⟩=>⟨x,h1,any_beq.1 h2⟩,fun ⟨x,h1,h2⟩=>⟨x,h1,any_beq.2 h2⟩⟩
structure oE where
 col:List AV
 kept:List (Nat×AV)
 H:List (Nat×Row)
def rh (P:Program) (ops:List Oper) (hs:List (Nat×Hint)) (R:List (List Nat)) (done rest last:List Nat) (first:Bool) (old:List AV) (kept:List (Nat×AV)) (H:List (Nat×Row)) (o:Oper) (k:Nat) (col:List AV):Option (AV×List Prop) :=
 match rest.any (Nat.beq k),hit (R.getD k []) rest with
 | false,false=>(match done.any (Nat.beq k),done.any (fun W=>(R.getD W []).any (Nat.beq k)) with
  | false,false=>(match tN P ops ⟨jB ops col (bl o)++kept,H⟩ o (gL hs k) with
   | some (x,C)=>(match first,hit (R.getD k []) last with
    | false,false=>some (x,(old.getD k .dead=x)::C)
    | _,_=>some (x,C))
   | none=>none)
  | _,_=>some (old.getD k .dead,[]))
 | _,_=>some (.dead,[])
def Ai (P:Program) (ops:List Oper) (hs:List (Nat×Hint)) (R:List (List Nat)) (done rest last:List Nat) (first:Bool) (old:List AV) (kept:List (Nat×AV)) (H:List (Nat×Row)):List Oper->Nat->List AV->Option (List AV×List Prop)
 | [],_,col=>some (col,[])
 | o::l,k,col=>match rh P ops hs R done rest last first old kept H o k col with
  | some (x,C)=>(match Ai P ops hs R done rest last first old kept H l (k+1) (col++ [x]) with|some (col',D)=>some (col',C++D)|none=>none)
  | none=>none
theorem jO {P:Program} {ops:List Oper} {hs:List (Nat×Hint)} {R:List (List Nat)} {done rest last:List Nat} {first:Bool} {old:List AV} {kept:List (Nat×AV)} {H:List (Nat×Row)}:∀(l:List Oper) (i:Nat) (col col':List AV) (C:List Prop),Ai P ops hs R done rest last first old kept H l i col=some (col',C)->bx C->col.length=i ->
  col'.length=i+l.length∧col'.take i=col∧ ∀(j:Nat) (o:Oper),l[j]?=some o-> ∃x D,col'[i+j]?=some x∧bx D∧rh P ops hs R done rest last first old kept H o (i+j) (col'.take (i+j))=some (x,D)
 | [],i,col,col',C,he,hC,hl=>by
  cases he
  exact ⟨by simp [hl],by rw [←hl,List.take_length],fun j o h=>by simp at h⟩
 | o::l,i,col,col',C,he,hC,hl=>by
  simp only [Ai] at he
  split at he
  ·rename_i x C1 h1
   split at he
   ·rename_i W8 D h2
    cases he
    obtain ⟨i3,hD⟩:=bO.1 hC
    obtain ⟨e1,e2,e3⟩:=jO l (i+1) (col++ [x]) col' D h2 hD (by simp [hl])
    have e4:col'.take i=col:=by
     have:=congrArg (List.take i) e2
     rw [List.take_take,Nat.min_eq_left ag,←hl,List.take_left] at this
     rw [←hl];exact this
    have e5:col'[i]?=some x:=by
     have h3:(col'.take (i+1))[i]?=some x:=by rw [e2,List.getElem?_append_right ag,hl];simp
     exact bZ _ _ _ _ h3
    refine ⟨by rw [e1,List.length_cons];omega,e4,fun j p hp=>?_⟩
    cases j with
    | zero =>
     simp at hp;subst hp
     exact ⟨x,C1,by simpa using e5,i3,by simp only [Nat.add_zero];rw [e4];exact h1⟩
    | succ j =>
     obtain ⟨y,D',h5,h6,h7⟩:=e3 j p (by simpa using hp)
     rw [show i+1+j=i+(j+1) by omega] at h5 h7
     exact ⟨y,D',h5,h6,h7⟩
   ·cases he
  ·cases he
def iF:List Nat->AV->AV
 | [],x=>x
 | i::l,x=>iF l (jY i x)
theorem jc:∀(l:List Nat) (F F':List (Nat×AV)) (H:List (Nat×Row)),(aR ⟨F,H⟩ l).F=eD (iF l) F∧(aR ⟨F,H⟩ l).H=(aR ⟨F',H⟩ l).H
 | [],F,F',H=>⟨by
   show F=eD (fun x=>x) F
   induction F with
   | nil=>rfl
   | cons p F ih=>obtain ⟨k,x⟩:=p;simp only [eD,←ih],rfl⟩
 | i::l,F,F',H=>by
  obtain ⟨h1,h2⟩:=jc l (eD (jY i) F) (eD (jY i) F') (eD (bE i) (cR H i))
  refine ⟨?_,h2⟩
  show (aR ⟨eD (jY i) F,eD (bE i) (cR H i)⟩ l).F=_
  rw [h1,mu];rfl
def nZ (F:List (Nat×AV)):List Operand->Bool
 | []=>true
 | x::l=>match vh F x with|true=>nZ F l|false=>false
def pE (s:AS) (x y:Operand):Bool :=
 match bq s x with
 | .addr id _=>(match look s.H id with
  | some r=>(match r.pure,pd (bq s y) with
   | false,_=>true
   | true,[]=>true
   | _,_=>false)
  | none=>false)
 | _=>false
def Ps (P:Program) (n:Nat) (s:AS) (o:Oper) (h:Hint):Option ((AV->AV)×AV×List (Nat×Row)×List Prop) :=
 match o.guard,o.op,o.dst with
 | none,.call ⟨.builtin .append,⟨[x,y]⟩,⟨[t,xt]⟩⟩,some d=>(match vh s.F x,vh s.F y,ll P n s d t xt (bq s x) (bq s y) h with
  | true,true,some (q,C)=>some (Kn d (bq s x),.ref d,q.H,C)
  | _,_,_=>none)
 | none,.alloc t,some d=>(match oZ P n s d t h with
  | some (q,C)=>some (jY d,.addr d 0,q.H,C)
  | none=>none)
 | none,.call ⟨.value (.func f),xs,_⟩,some d=>(match h.ln,h.av,nZ s.F xs.toList,((xs.toList.map (bq s)).flatMap pd).filter fun i=> !(Bq i (h.ln.map (·.1))) with
  | _::_,some r,true,[]=>(match oY P n s (some d) (.value (.func f)) xs.toList h with
   | some (q,C)=>some (fun x=>iF ((br d r).2.map (·.1)) (iF (fz h.ln) x),(br d r).1,q.H,C)
   | none=>none)
  | [],some r,true,I=>(match h.b || I.isEmpty,su P n s (some d) (.value (.func f)) xs.toList h with
   | true,some (q,C)=>some (iF ((br d r).2.map (·.1)),(br d r).1,q.H,C)
   | _,_=>none)
  | _,_,_,_=>none)
 | none,.store t x y,none=>(match vh s.F x,vh s.F y,pE s x y,lh P s t x y h with
  | true,true,true,some (q,C)=>some (fun x=>x,.dead,q.H,C)
  | _,_,_,_=>none)
 | none,.buildSlice t len ⟨parts⟩,some d=>(match nZ s.F (parts.map (·.2)),parts.flatMap (fun p=>pd (bq s p.2)) with
  | true,[]=>(match wg P n s d t len parts h with
   | some (q,C)=>some (jY d,.ref d,q.H,C)
   | none=>none)
  | _,_=>none)
 | _,_,_=>none
def wY (d:Option Nat) (X:AV) (F:List (Nat×AV)):List (Nat×AV):=match d with|some d=>(d,X)::cR F d|none=>F
theorem EV:∀(F:List (Nat×AV)),eD (fun x=>x) F=F
 | []=>rfl
 | (k,x)::F=>by simp only [eD,EV F]
theorem CF {P:Program} {F F':List (Nat×AV)} {H:List (Nat×Row)} {t:TypeId} {x y:Operand} {h:Hint} {q:AS} {C:List Prop} (dJ:pE ⟨F,H⟩ x y=true) (ex:bq ⟨F',H⟩ x=bq ⟨F,H⟩ x) (ey:bq ⟨F',H⟩ y=bq ⟨F,H⟩ y) (he:lh P ⟨F,H⟩ t x y h=some (q,C)):lh P ⟨F',H⟩ t x y h=some (⟨F',q.H⟩,C):=by
 unfold lh at he ⊢
 unfold pE at dJ
 rw [ex,ey]
 split at dJ
 ·rename_i id off hx
  split at dJ
  ·rename_i r hr
   have hr:look H id=some r:=hr
   cases hz:eH P t with
   | none=>simp only [hx,hr,hz] at he;cases he
   | some z =>
    simp only [hx,hr,hz] at he ⊢
    split at dJ
    ·rename_i hp
     rw [hp] at he ⊢
     simp only at he ⊢
     split at he
     ·rename_i l hl
      split at he
      ·rename_i h1 h2
       cases he
       rfl
      ·cases he
     ·cases he
    ·rename_i hp hi
     rw [hp,hi] at he ⊢
     simp only [gf,hr,hx,ex,ey] at he ⊢
     split at he
     ·rename_i r1 l pe C5 Ql hl hid
      cases Ql;cases hid
      split at he
      ·rename_i h1 h2 h3 h4
       cases he
       rfl
      ·cases he
     ·cases he
    ·cases dJ
  ·cases dJ
 ·cases dJ
theorem vg {F F':List (Nat×AV)} {H:List (Nat×Row)} (hF:∀i x,look F i=some x->look F' i=some x):∀ {l:List Operand},nZ F l=true->l.map (bq ⟨F',H⟩)=l.map (bq ⟨F,H⟩)
 | [],_=>rfl
 | x::l,h=>by
  simp only [nZ] at h
  split at h
  ·rename_i hx
   rw [List.map_cons,List.map_cons,mZ (H:=H) hF hx,vg hF h]
  ·cases h
theorem m7 {F F':List (Nat×AV)} {H:List (Nat×Row)} {z:Nat} (hF:∀i x,look F i=some x->look F' i=some x):∀(l:List (Nat×Operand)) (i:Nat),nZ F (l.map (·.2))=true->fA ⟨F',H⟩ z i l=fA ⟨F,H⟩ z i l∧l.flatMap (fun p=>pd (bq ⟨F',H⟩ p.2))=l.flatMap (fun p=>pd (bq ⟨F,H⟩ p.2))
 | [],_,_=>⟨rfl,rfl⟩
 | (j,x)::l,i,h=>by
  simp only [List.map_cons,nZ] at h
  split at h
  ·rename_i hx
   obtain ⟨h1,h2⟩:=m7 (H:=H) (z:=z) hF l (i+1) h
   have ex:=mZ (H:=H) hF hx
   refine ⟨?_,?_⟩
   ·simp only [fA,ex,h1]
   ·simp only [List.flatMap_cons,ex,h2]
  ·cases h
theorem IA {P:Program} {n d t len:Nat} {F F':List (Nat×AV)} {H:List (Nat×Row)} {l:List (Nat×Operand)} {h:Hint} {q:AS} {C:List Prop} (hF:∀i x,look F i=some x->look F' i=some x) (ho:nZ F (l.map (·.2))=true) (hi:l.flatMap (fun p=>pd (bq ⟨F,H⟩ p.2))= []) (he:wg P n ⟨F,H⟩ d t len l h=some (q,C)) :
  wg P n ⟨F',H⟩ d t len l h=some (⟨(d,.ref d)::cR (eD (jY d) F') d,q.H⟩,C):=by
 have hc:∀z,fA ⟨F',H⟩ z 0 l=fA ⟨F,H⟩ z 0 l:=fun z=>(m7 hF l 0 ho).1
 have jx:=(m7 (z:=0) (H:=H) hF l 0 ho).2
 rw [hi] at jx
 unfold wg at he ⊢
 rw [hi] at he
 rw [jx]
 simp only [gf] at he ⊢
 split at he
 ·rename_i el hu
  split at he
  ·rename_i z zero s1 hz hzero gG
   cases gG
   try simp only [hz,hzero,hc]
   split at he
   ·rename_i cells h1 h2 h3
    try simp only [h1,h2,h3]
    split at he
    ·rename_i h4
     try simp only [h4]
     split at he
     ·rename_i row Oe
      try simp only [Oe]
      split at he
      ·rename_i s' hp bY
       cases he
       unfold fO at bY ⊢
       try simp only [hp] at bY ⊢
       split at bY
       ·cases bY
        rfl
       ·cases bY
      ·cases he
     ·rename_i Oe
      split at he
      ·rename_i s' hp bY
       cases he
       unfold fO at bY ⊢
       try simp only [hp] at bY ⊢
       split at bY
       ·cases bY
        rfl
       ·cases bY
      ·cases he
    ·cases he
   ·cases he
  ·cases he
 ·cases he
theorem JD {P:Program} {n:Nat} {F:List (Nat×AV)} {H H':List (Nat×Row)} {o:Oper} {h:Hint} {Tr:AV->AV} {X:AV} {C:List Prop} (eE:Ps P n ⟨F,H⟩ o h=some (Tr,X,H',C)) :
  o.guard=none∧ ∀F',(∀i x,look F i=some x->look F' i=some x)->mK P n ⟨F',H⟩ o ⟨wY o.dst X (eD Tr F'),H'⟩ C:=by
 unfold Ps at eE
 split at eE
 ·rename_i x y t xt d hg uc hd
  split at eE
  ·rename_i q C' h1 h2 h3
   cases eE
   refine ⟨hg,fun F' hF=>?_⟩
   rw [hd]
   simp only [wY]
   have QK:=Km (F':=F') h3
   have ex:=mZ (H:=H) hF h1
   have ey:=mZ (H:=H) hF h2
   rw [←ey,←ex] at QK
   have:=tp (n:=n) (s:=⟨F',H⟩) uc hd QK
   rw [ex] at this
   exact this
  ·cases eE
 ·rename_i t d hg uc hd
  split at eE
  ·rename_i q C' h1
   cases eE
   refine ⟨hg,fun F' hF=>?_⟩
   rw [hd]
   simp only [wY]
   have h2:oZ P n ⟨F',H⟩ d t h=some (⟨(d,.addr d 0)::cR (eD (jY d) F') d,q.H⟩,C):=by
    unfold oZ at h1 ⊢
    split at h1
    ·split at h1
     ·split at h1
      ·rename_i s' bY
       cases h1
       unfold fO at bY ⊢
       simp only at bY ⊢
       split at bY
       ·cases bY;rfl
       ·cases bY
      ·cases h1
     ·split at h1
      ·rename_i s' bY
       cases h1
       unfold fO at bY ⊢
       simp only at bY ⊢
       split at bY
       ·cases bY;rfl
       ·cases bY
      ·cases h1
    ·cases h1
   exact wo (s:=⟨F',H⟩) uc hd h2
  ·cases eE
 ·rename_i f xs ts d hg uc hd
  split at eE
  ·rename_i p l r Lz Oe I9 LC
   split at eE
   ·rename_i q C' h1
    cases eE
    refine ⟨hg,fun F' hF=>?_⟩
    rw [hd]
    simp only [wY]
    have eo:=vg (H:=H) hF I9
    have h2:oY P n ⟨F',H⟩ (some d) (.value (.func f)) xs.toList h=some (⟨(d,(br d r).1)::cR (eD (fun x=>iF ((br d r).2.map (·.1)) (iF (fz h.ln) x)) F') d,q.H⟩,C):=by
     unfold oY at h1 ⊢
     rw [eo]
     simp only [Oe,callee] at h1 ⊢
     rw [LC] at h1 ⊢
     simp only [gf] at h1 ⊢
     split at h1
     ·rename_i s1 hE gG
      cases gG
      split at h1
      ·rename_i Hl Hb C2 g1 g2 g3 g4
       have WZ:gK ⟨F',H⟩ h.ln h.ln=some Hl:=by
        have key:∀(ρ l:List (Nat×Nat)),gK ⟨F',H⟩ ρ l=gK ⟨F,H⟩ ρ l:=by
         intro ρ l
         induction l with
         | nil=>rfl
         | cons p l ih=>obtain ⟨c,k⟩:=p;simp only [gK,ih]
        rw [key];exact g1
       have WY:nM ⟨F',H⟩ h.ho h.ln=some C2:=by
        have key:∀(l:List (Nat×Nat)),nM ⟨F',H⟩ h.ho l=nM ⟨F,H⟩ h.ho l:=by
         intro l
         induction l with
         | nil=>rfl
         | cons p l ih=>obtain ⟨c,k⟩:=p;simp only [nM,ih]
        rw [key];exact g4
       rw [hE]
       simp only
       rw [WZ,g2,g3,WY]
       simp only
       have em:(xs.toList.map fun x=>nU h.ln (bq ⟨F',H⟩ x))=xs.toList.map fun x=>nU h.ln (bq ⟨F,H⟩ x):=by
        have:=congrArg (List.map (nU h.ln)) eo
        rwa [List.map_map,List.map_map] at this
       rw [em]
       have eB:∀F0,gB ⟨F0,H⟩ h.ln Hb=⟨eD (iF (fz h.ln)) F0,Hb++pW (aR ⟨F,H⟩ (fz h.ln)).H (h.ln.map (·.1))⟩:=fun F0=>by
        unfold gB
        rw [(jc (fz h.ln) F0 F H).1,(jc (fz h.ln) F0 F H).2]
       rw [eB] at h1 ⊢
       split at h1
       ·rename_i s' tF ea
        cases h1
        have eR:=fun F0=>jc ((br d r).2.map (·.1)) F0 (eD (iF (fz h.ln)) F) (Hb++pW (aR ⟨F,H⟩ (fz h.ln)).H (h.ln.map (·.1)))
        rw [tF,(eR (eD (iF (fz h.ln)) F')).1,(eR (eD (iF (fz h.ln)) F')).2]
        unfold fO at ea ⊢
        simp only at ea ⊢
        split at ea
        ·cases ea
         simp only [lT,mu]
        ·cases ea
       ·cases h1
      ·cases h1
     ·cases h1
    have NN:o.op= .call ⟨.value (.func f),xs,ts⟩:=uc
    rw [←hd] at h2
    exact wm (s:=⟨F',H⟩) NN h2
   ·cases eE
  ·rename_i x4 r Lz Oe I9
   split at eE
   ·rename_i q C' hb h1
    cases eE
    refine ⟨hg,fun F' hF=>?_⟩
    rw [hd]
    simp only [wY]
    have eo:=vg (H:=H) hF I9
    have eV:∀(l:List AV),j9 ⟨F',H⟩ l=j9 ⟨F,H⟩ l:=by
     intro l
     have e0:∀x,jS ⟨F',H⟩ x=jS ⟨F,H⟩ x:=fun x=>rfl
     have eL:∀(m:List AV),pj ⟨F',H⟩ m=pj ⟨F,H⟩ m:=by
      intro m
      induction m with
      | nil=>rfl
      | cons x m ih=>simp only [pj,ih,e0]
     have e1:∀x,view ⟨F',H⟩ x=view ⟨F,H⟩ x:=by
      intro x
      unfold view
      split
      ·rw [eL]
      ·rfl
     induction l with
     | nil=>rfl
     | cons x l ih=>simp only [j9,ih,e1]
    have eI:h.b=false->(xs.toList.map (bq ⟨F,H⟩)).flatMap pd= []:=fun e=>by
     rw [e,Lz] at hb
     have h0:((xs.toList.map (bq ⟨F,H⟩)).flatMap pd).isEmpty=true:=by
      have e9:∀l:List Nat,l.filter (fun i=> !(Bq i (([]:List (Nat×Nat)).map (·.1))))=l:=fun l=>List.filter_eq_self.2 fun _ _=>rfl
      rw [e9] at hb
      exact hb
     exact List.isEmpty_iff.1 h0
    have h2:su P n ⟨F',H⟩ (some d) (.value (.func f)) xs.toList h=some (⟨(d,(br d r).1)::cR (eD (iF ((br d r).2.map (·.1))) F') d,q.H⟩,C):=by
     have eP:∀(F0:List (Nat×AV)) (s':AS),fO n ⟨(aR ⟨F,H⟩ ((br d r).2.map (·.1))).F,(br d r).2++(aR ⟨F,H⟩ ((br d r).2.map (·.1))).H⟩ (some d) (br d r).1=some s'->fO n ⟨(aR ⟨F',H⟩ ((br d r).2.map (·.1))).F,(br d r).2++(aR ⟨F',H⟩ ((br d r).2.map (·.1))).H⟩ (some d) (br d r).1=some ⟨(d,(br d r).1)::cR (eD (iF ((br d r).2.map (·.1))) F') d,s'.H⟩:=fun F0 s' ea=>by
      have eR:=fun F0=>jc ((br d r).2.map (·.1)) F0 F H
      rw [(eR F').1,(eR F').2]
      unfold fO at ea ⊢
      simp only at ea ⊢
      split at ea
      ·cases ea
       simp only [lT]
      ·cases ea
     unfold su at h1 ⊢
     rw [eo]
     cases r_:h.b with
     | true =>
      simp only [Oe,callee,r_] at h1 ⊢
      rw [eV]
      split at h1
      ·rename_i hE
       split at h1
       ·rename_i vs C2 d0 hv wN xQ
        cases xQ
        split at h1
        ·rename_i s' tF ea
         cases h1
         rw [tF,eP F _ ea]
        ·cases h1
       ·rename_i xQ
        cases xQ
       ·cases h1
      ·cases h1
     | false =>
      simp only [Oe,callee,r_,eI r_,gf] at h1 ⊢
      split at h1
      ·rename_i hE
       split at h1
       ·rename_i d0 w6 xQ
        cases xQ
        split at h1
        ·rename_i s' tF ea
         cases h1
         rw [eo,w6]
         simp only
         rw [tF,eP F _ ea]
        ·cases h1
       ·rename_i xQ
        cases xQ
       ·cases h1
      ·cases h1
    have NN:o.op= .call ⟨.value (.func f),xs,ts⟩:=uc
    rw [←hd] at h2
    exact xZ (s:=⟨F',H⟩) NN h2
   ·cases eE
  ·cases eE
 ·rename_i t x y hg uc hd
  split at eE
  ·rename_i q C' h1 h2 h3 h4
   cases eE
   refine ⟨hg,fun F' hF=>?_⟩
   rw [hd]
   simp only [wY,EV]
   have h5:=CF (F':=F') h3 (mZ (H:=H) hF h1) (mZ (H:=H) hF h2) h4
   exact tj (s:=⟨F',H⟩) uc hd h5
  ·cases eE
 ·rename_i t len parts d hg uc hd
  split at eE
  ·rename_i h1 h2
   split at eE
   ·rename_i q C' h3
    cases eE
    refine ⟨hg,fun F' hF=>?_⟩
    rw [hd]
    exact B_ (s:=⟨F',H⟩) uc hd (IA hF h1 h2 h3)
   ·cases eE
  ·cases eE
 ·cases eE
def zx (P:Program) (ops:List Oper) (n:Nat) (s:AS) (o:Oper) (h:Hint):Option ((AV->AV)×AV×List (Nat×Row)×List Prop) :=
 match o.guard with
 | none=>Ps P n s o h
 | some (j,want)=>(match ops[j]? with
  | some p=>(match p.dst with
   | some d=>(match ka s d,h.g == want,vh s.F (.tmp d),Ps P n s {o with guard:=none} h with
    | .val (.bool b),true,true,some (Tr,X,H',C)=>some (Tr,X,H',(b=h.g)::C)
    | _,_,_,_=>none)
   | none=>none)
  | none=>none)
theorem LZ {P:Program} {ops:List Oper} {n:Nat} {F:List (Nat×AV)} {H H':List (Nat×Row)} {o:Oper} {h:Hint} {Tr:AV->AV} {X:AV} {C:List Prop} (eE:zx P ops n ⟨F,H⟩ o h=some (Tr,X,H',C)) (hC:bx C) {F':List (Nat×AV)} (hF:∀i x,look F i=some x->look F' i=some x) {S0:bn} {w0 w:World} {a:Act} (hs:ie S0 w0 n ⟨F',H⟩ a w) :
  Region.wanted o (yielded ops.toArray a.tmps)=true∧mK P n ⟨F',H⟩ o ⟨wY o.dst X (eD Tr F'),H'⟩ []:=by
 unfold zx at eE
 split at eE
 ·rename_i hg
  obtain ⟨-,Fa⟩:=JD eE
  refine ⟨by unfold Region.wanted;rw [hg],fun _=>Fa F' hF hC⟩
 ·rename_i j want hg
  split at eE
  ·rename_i p hp
   split at eE
   ·rename_i d hd
    split at eE
    ·rename_i b R4 X' X5 C' r_ hw Wj he
     cases eE
     obtain ⟨Gv,hC⟩:=hC
     obtain ⟨-,Fa⟩:=JD he
     refine ⟨?_,fun _=>Fa F' hF hC⟩
     obtain ⟨φ,hs⟩:=hs
     have ht:=hs.get d
     have e:ka ⟨F',H⟩ d=ka ⟨F,H⟩ d:=mZ (H:=H) hF Wj
     rw [e,r_] at ht
     have hy:=mP (ops:=ops) hp hd (qZ ht)
     unfold Region.wanted;rw [hg];simp only [hy,Gv]
     have:h.g=want:=by simpa using hw
     rw [this];simp
    ·cases eE
   ·cases eE
  ·cases eE
theorem xJ {od:Option Nat} {i:Nat} {X:AV} {Tr:AV->AV} {F:List (Nat×AV)} (h:od≠some i):look (wY od X (eD Tr F)) i=(look F i).map Tr:=by
 cases od with
 | none=>exact cy _ _ _
 | some d =>
  have cS:d≠i:=fun e=>h (by rw [e])
  simp only [wY]
  rw [aD,if_neg cS,y_ cS]
section
variable {P:Program} {ops:List Oper} {S0:bn} {w0:World} {Q:Exit->Act->World->Prop} {n T:Nat} {col col':List AV} {kept:List (Nat×AV)} {H H':List (Nat×Row)} {L:Nat->Bool} {k:Nat} {o:Oper}
theorem xo {h:Hint} {Tr:AV->AV} {X:AV} {C:List Prop} {a:Act} {w:World} (iI:(ops.filterMap (·.dst)).Nodup)
  (hk:k<T) (ho:ops[k]?=some o) (Gt:∀d∈bl o,L d=true∧d<T) (fK:∀i x,look kept i=some x-> ∀j p,j<T->ops[j]?=some p->p.dst≠some i)
  (eE:zx P ops n ⟨jB ops col (bl o)++kept,H⟩ o h=some (Tr,X,H',C)) (hC:bx C)
  (xa:∀j z,j<T->j≠k->L j=true->col'[j]?=some z->col[j]?.map Tr=some z∨z= .dead) (QQ:col'[k]?=some X)
  (hs:ie S0 w0 n ⟨dY ops col L T++kept,H⟩ a w) :
  if Region.wanted o (yielded ops.toArray a.tmps)=true then o.wp P a w (fun a' w'=>ie S0 w0 n ⟨dY ops col' (fh L k) T++eD Tr kept,H'⟩ a' w') Q else ie S0 w0 n ⟨dY ops col' (fh L k) T++eD Tr kept,H'⟩ (a.put o.dst undef) w:=by
 have hF:=Br (T:=T) iI Gt fK (col:=col)
 obtain ⟨hw,ok⟩:=LZ eE hC hF hs
 rw [if_pos hw]
 refine Oper.wp_mono ?_ (ok trivial S0 w0 a w Q hs)
 rintro a' w' ⟨φ,bY⟩
 refine ⟨φ,aI.sub bY fun i z hz=>?_⟩
 rw [bL] at hz
 cases hl:look (dY ops col' (fh L k) T) i with
 | some z' =>
  rw [hl] at hz
  simp at hz;subst hz
  obtain ⟨j,p,h1,h2,h3,h4,h5⟩:=kZ _ _ _ _ _ _ hl
  by_cases w_:j=k
  ·subst w_
   rw [ho] at h3;injection h3 with h3;subst h3
   rw [QQ] at h5;injection h5 with h5;subst h5
   left
   rw [h4];simp only [wY];rw [aD,if_pos rfl]
  ·have RU:L j=true:=by unfold fh at h2;rw [if_neg w_] at h2;exact h2
   have cS:o.dst≠some i:=fun e=>w_ (o8 (ops:=ops.toArray) (by simpa using iI) (by simpa using h3) (by simpa using ho) h4 e)
   rcases xa j z' h1 w_ RU h5 with hc|hc
   ·left
    rw [xJ cS,bL]
    cases TD:col[j]? with
    | none=>rw [TD] at hc;cases hc
    | some y' =>
     rw [TD] at hc
     rw [gI iI col L T j i p y' h1 RU h3 h4 TD]
     simpa using hc
   ·exact .inr hc
 | none =>
  rw [hl] at hz
  simp at hz
  rw [cy] at hz
  cases tH:look kept i with
  | none=>rw [tH] at hz;cases hz
  | some y' =>
   rw [tH] at hz
   have cS:o.dst≠some i:=fun e=>fK i y' tH k o hk ho e
   left
   rw [xJ cS,bL,jv fun j p hj hp=>fK i y' tH j p hj hp,tH]
   simpa using hz
end
theorem sx (ops:List Oper) (col:List AV) (k:Nat):∀(l:List Nat),(∀d∈l,d<k)->jB ops (col.take k) l=jB ops col l
 | [],_=>rfl
 | d::l,h=>by
  have hd:(col.take k)[d]?=col[d]?:=by rw [List.getElem?_take,if_pos (h d (by simp))]
  simp only [jB,hd,sx ops col k l fun e he=>h e (by simp [he])]
instance:Inhabited oE:=⟨⟨[],[],[]⟩⟩
def ot (P:Program) (n T:Nat) (ops:List Oper) (hs:List (Nat×Hint)) (R:List (List Nat)):List Nat->List Nat->List Nat->Bool->List AV->List (Nat×AV)->List (Nat×Row)->Option (List oE×List Prop)
 | [],done,last,first,old,kept,H=>(match Ai P ops hs R done [] last first old kept H (ops.take T) 0 [] with
  | some (col,C)=>some ([⟨col,kept,H⟩],C)
  | none=>none)
 | W::rest,done,last,first,old,kept,H=>(match Ai P ops hs R done (W::rest) last first old kept H (ops.take T) 0 [],ops[W]? with
  | some (col,C),some o=>(match zx P ops n ⟨jB ops col (bl o)++kept,H⟩ o (gL hs W) with
   | some (Tr,x,H',D)=>(match ot P n T ops hs R rest (done++ [W]) [W] false ((col.map Tr).set W x) (eD Tr kept) H' with
    | some (l,E)=>some (⟨col,kept,H⟩::l,C++(D++E))
    | none=>none)
   | none=>none)
  | _,_=>none)
def Ky (P:Program) (T:Nat) (ops:List Oper) (hs:List (Nat×Hint)) (R:List (List Nat)) (rest done last:List Nat) (first:Bool) (old:List AV) (st:oE):Prop :=
 ∃C,Ai P ops hs R done rest last first old st.kept st.H (ops.take T) 0 []=some (st.col,C)∧bx C
theorem xp {P:Program} {n T:Nat} {ops:List Oper} {hs:List (Nat×Hint)} {R:List (List Nat)}:∀(rest done last:List Nat) (first:Bool) (old:List AV) (kept:List (Nat×AV)) (H:List (Nat×Row)) (l:List oE) (E:List Prop),
  ot P n T ops hs R rest done last first old kept H=some (l,E)->bx E ->
  (l.getD 0 default).kept=kept∧(l.getD 0 default).H=H∧Ky P T ops hs R rest done last first old (l.getD 0 default) ∧
  ∀(i W:Nat),rest[i]?=some W-> ∃o Tr x D,ops[W]?=some o∧zx P ops n ⟨jB ops (l.getD i default).col (bl o)++(l.getD i default).kept,(l.getD i default).H⟩ o (gL hs W)=some (Tr,x,(l.getD (i+1) default).H,D)∧bx D ∧
   (l.getD (i+1) default).kept=eD Tr (l.getD i default).kept∧Ky P T ops hs R (rest.drop (i+1)) (done++rest.take (i+1)) [W] false (((l.getD i default).col.map Tr).set W x) (l.getD (i+1) default)
 | [],done,last,first,old,kept,H,l,E,he,hE=>by
  simp only [ot] at he
  split at he
  ·rename_i col C hc
   cases he
   exact ⟨rfl,rfl,⟨_,hc,hE⟩,fun i W h=>by simp at h⟩
  ·cases he
 | W::rest,done,last,first,old,kept,H,l,E,he,hE=>by
  simp only [ot] at he
  split at he
  ·rename_i col C o hc ho
   split at he
   ·rename_i Tr x H' D hw
    split at he
    ·rename_i l' E' NM
     cases he
     obtain ⟨hC,TZ⟩:=bO.1 hE
     obtain ⟨hD,TY⟩:=bO.1 TZ
     obtain ⟨h1,h2,h3,h4⟩:=xp rest _ _ _ _ _ _ _ _ NM TY
     refine ⟨rfl,rfl,⟨_,hc,hC⟩,fun i W' hi=>?_⟩
     cases i with
     | zero =>
      simp at hi;subst hi
      exact ⟨o,Tr,x,D,ho,by rw [←h2] at hw;exact hw,hD,h1,by simpa using h3⟩
     | succ i =>
      obtain ⟨o',R4,x',D',k1,k2,k3,k4,k5⟩:=h4 i W' (by simpa using hi)
      refine ⟨o',R4,x',D',k1,k2,k3,k4,?_⟩
      have e:done++(W::rest).take (i+1+1)=done++ [W]++rest.take (i+1):=by simp
      rw [e]
      exact k5
    ·cases he
   ·cases he
  ·cases he
def wE (R:List (List Nat)):List Nat->Bool
 | []=>true
 | [_]=>true
 | a::b::l=>match (R.getD b []).any (Nat.beq a) with|true=>wE R (b::l)|false=>false
theorem sy (R:List (List Nat)):∀(l:List Nat),wE R l=true-> ∀(i a b:Nat),l[i]?=some a->l[i+1]?=some b->a∈R.getD b []
 | [],_,i,a,b,h,_=>by simp at h
 | [x],_,i,a,b,h,h2=>by simp at h2
 | x::y::l,hc,i,a,b,h,h2=>by
  simp only [wE] at hc
  split at hc
  ·rename_i hy
   cases i with
   | zero=>simp at h h2;subst h;subst h2;exact any_beq.1 hy
   | succ i=>exact sy R (y::l) hc i a b (by simpa using h) (by simpa using h2)
  ·cases hc
def x9 (T:Nat):List Nat->Bool
 | []=>true
 | a::l=>match Nat.blt a T with|true=>x9 T l|false=>false
theorem rn (T:Nat):∀(l:List Nat),x9 T l=true-> ∀a∈l,a<T
 | [],_,a,h=>by cases h
 | x::l,hc,a,h=>by
  simp only [x9] at hc
  split at hc
  ·rename_i hx
   rcases List.mem_cons.1 h with rfl|h
   ·simpa [Nat.blt_eq] using hx
   ·exact rn T l hc a h
  ·cases hc
def zZ (P:Program) (n T:Nat) (Ws:List Nat) (ops:List Oper) (hs:List (Nat×Hint)) (s:AS):Option (AS×List Prop) :=
 match P.follows .mixedOrders,l7 ops.toArray n,po ops.toArray T,wE (mX (ops.take T) []) Ws,x9 T Ws,nodupB Ws with
 | true,true,true,true,true,true=>(match ot P n T ops hs (mX (ops.take T) []) Ws [] [] true [] (oa ((ops.take T).filterMap (·.dst)) s.F) s.H with
  | some (l,C)=>(match kp P n ops hs (ops.drop T) T ⟨jr (ops.take T) (l.getD Ws.length default).col++(l.getD Ws.length default).kept,(l.getD Ws.length default).H⟩ with
   | some (s',D)=>some (s',C++D)
   | none=>none)
  | none=>none)
 | _,_,_,_,_,_=>none
theorem mo:∀ {l:List Nat},l.Nodup-> ∀ {i j x:Nat},l[i]?=some x->l[j]?=some x->i=j
 | [],_,i,j,x,h,_=>by simp at h
 | y::l,hn,i,j,x,h1,h2=>by
  rw [List.nodup_cons] at hn
  cases i with
  | zero =>
   cases j with
   | zero=>rfl
   | succ j =>
    simp at h1 h2;subst h1
    exact absurd (List.mem_of_getElem? h2) hn.1
  | succ i =>
   cases j with
   | zero =>
    simp at h1 h2;subst h2
    exact absurd (List.mem_of_getElem? h1) hn.1
   | succ j=>exact congrArg (· +1) (mo hn.2 (i:=i) (j:=j) (x:=x) (by simpa using h1) (by simpa using h2))
theorem nQ (ops:List Oper) (col:List AV) (L:Nat->Bool) (hL:∀k,L k=false):∀T,dY ops col L T= []
 | 0=>rfl
 | k+1=>by simp only [dY,hL k,nQ ops col L hL k]
theorem kB {col:List AV} {Tr:AV->AV} {W:Nat} {x:AV} {q:Nat} (hq:q≠W) {z:AV} (h:((col.map Tr).set W x).getD q .dead=z):col[q]?.map Tr=some z∨z= .dead:=by
 rw [List.getD_eq_getElem?_getD,List.getElem?_set_ne (Ne.symm hq),List.getElem?_map] at h
 cases hc:col[q]? with
 | none=>rw [hc] at h;exact .inr h.symm
 | some y=>rw [hc] at h;left;simpa using h
section
variable {P:Program} {ops:List Oper} {S0:bn} {w0:World} {Q:Exit->Act->World->Prop}
theorem DJ {n T:Nat} {Ws:List Nat} {hs:List (Nat×Hint)} {s s':AS} {C:List Prop} (he:zZ P n T Ws ops hs s=some (s',C)) (hC:bx C) {a:Act} {w:World} (gw:ie S0 w0 n s a w) (hQ:∀a' w',ie S0 w0 n s' a' w'->Q .normal a' w'):P.follows .mixedOrders=true∧wpAny P .any ops.toArray Q ops.toArray.size (Array.replicate ops.toArray.size false) a {w with drawn:=w.drawn+1}:=by
 unfold zZ at he
 split at he
 ·rename_i hm hB hT tI NQ Lx
  split at he
  ·rename_i l C1 dJ
   split at he
   ·rename_i s2 D pB
    cases he
    obtain ⟨i3,hD⟩:=bO.1 hC
    obtain ⟨ue,iI,wM⟩:=gl hB
    have zk:(ops.filterMap (·.dst)).Nodup:=by simpa using iI
    unfold po at hT
    simp only [Bool.and_eq_true,decide_eq_true_eq] at hT
    obtain ⟨⟨⟨Hq,LQ⟩,LP⟩,LO⟩:=hT
    have TI:T<ops.length:=by simpa using Hq
    have Dn:∀(k:Nat) (o:Oper),ops[k]?=some o-> ∀d∈bl o,d<k:=fun k o h=>ue k o (by simpa using h)
    have NS:∀(k:Nat) (o:Oper) (s:Nat),ops[k]?=some o->o.dst=some s->s<n:=fun k o s h=>wM k o s (by simpa using h)
    generalize TM:mX (ops.take T) []=R at dJ tI
    have hR:uu ops R:=by
     rw [←TM]
     refine rN ops (ops.take T) [] (fun k o _ L _ _ j hj=>by simp at hj) (fun j o h=>?_) Dn
     simpa using bZ _ _ _ _ h
    obtain ⟨zl,Q0,MN,qI⟩:=xp _ _ _ _ _ _ _ _ _ dJ i3
    have NQ:=rn T Ws NQ
    have Lx:=gT Lx
    generalize NJ:(fun i=>l.getD i default)=st at *
    have Rs:∀i,l.getD i default=st i:=fun i=>by rw [←NJ]
    simp only [Rs] at zl Q0 MN qI pB
    have fK:∀i,i≤Ws.length-> ∀(k:Nat) (x:AV),look (st i).kept k=some x-> ∀(j:Nat) (p:Oper),j<T->ops[j]?=some p->p.dst≠some k:=by
     intro i
     induction i with
     | zero =>
      intro _ k x hx j p hj hp
      rw [zl] at hx
      exact (kJ ops T k).1 (gj _ _ _ _ hx).2 j p hj hp
     | succ i ih =>
      intro hi k x hx
      obtain ⟨o,Tr,X,D',-,-,-,k4,-⟩:=qI i (Ws[i]' ag) (List.getElem?_eq_getElem ag)
      rw [k4,cy] at hx
      cases hl:look (st i).kept k with
      | none=>rw [hl] at hx;cases hx
      | some y=>exact ih ag k y hl
    have xa:∀i,i≤Ws.length-> ∃last first old,Ky P T ops hs R (Ws.drop i) (Ws.take i) last first old (st i):=by
     intro i hi
     cases i with
     | zero=>exact ⟨_,_,_,by simpa using MN⟩
     | succ i =>
      obtain ⟨o,Tr,X,D',-,-,-,-,k5⟩:=qI i (Ws[i]' ag) (List.getElem?_eq_getElem ag)
      exact ⟨_,_,_,by simpa using k5⟩
    let J:(Nat->Bool)->Act->World->Prop:=fun L a' w'=>∃i,i≤Ws.length∧(∀(j W:Nat),Ws[j]?=some W->(L W=true↔j<i))∧ie S0 w0 n ⟨dY ops (st i).col L T++(st i).kept,(st i).H⟩ a' w'
    obtain ⟨φ,km⟩:=gw
    refine ⟨hm,nK (n:=n) Hq LQ LP LO hB J ?_ ?_ ops.toArray.size _ a _ ⟨by simp,fun k o hk=>?_⟩ ?_ (fun j _=>by rw [getD_replicate_false]) (by simp)⟩
    ·intro k o L a' w' hk ho BR js zn ua ⟨i,hi,hW,gw⟩
     have rZ:ops[k]?=some o:=by simpa using ho
     have fi:∀(j:Nat) (p:Oper),L j=true->ops[j]?=some p-> ∀d∈bl p,L d=true:=fun j p hj hp=>zn j p hj (by simpa using hp)
     have pT:∀j∈R.getD k [],L j=true:=hR k o rZ L fi js
     have qK:∀q,L q=true-> ∀j∈R.getD q [],L j=true:=fun q hq j hj=>by
      cases I8:ops[q]? with
      | some p=>exact hR q p I8 L fi (fun d hd=>fi q p hq I8 d hd) j hj
      | none =>
       exfalso
       have h1:ops.length≤q:=List.getElem?_eq_none_iff.1 I8
       have:=ua q ag
       rw [hq] at this;cases this
     have QP:∀d∈bl o,L d=true∧d<T:=fun d hd=>⟨js d hd,by have:=Dn k o rZ d hd;omega⟩
     have vD:∀i',i≤i'-> ∀q,(∀j∈R.getD q [],L j=true)->hit (R.getD q []) (Ws.drop i')=false:=by
      intro i' jx q hq
      cases hh:hit (R.getD q []) (Ws.drop i') with
      | false=>rfl
      | true =>
       exfalso
       obtain ⟨x,h1,h2⟩:=oU.1 hh
       obtain ⟨j,hj⟩:=List.mem_iff_getElem?.1 h2
       rw [List.getElem?_drop] at hj
       have:=(hW _ x hj).1 (hq x h1)
       omega
     by_cases LB:k∈Ws
     ·obtain ⟨j,hj⟩:=List.mem_iff_getElem?.1 LB
      have NR:j<Ws.length:=(List.getElem?_eq_some_iff.1 hj).1
      have MI:¬j<i:=fun h=>by have:=(hW j k hj).2 h;rw [BR] at this;cases this
      have e:j=i:=by
       rcases Nat.lt_or_ge i j with h|h
       ·obtain ⟨j',rfl⟩:∃j',j=j'+1:=⟨j-1,ag⟩
        have Lr:Ws[j']?=some (Ws[j']' ag):=List.getElem?_eq_getElem ag
        have h1:=pT _ (sy R Ws tI j' _ k Lr hj)
        have:=(hW j' _ Lr).1 h1
        omega
       ·omega
      subst e
      obtain ⟨o',Tr,x,D',k1,k2,k3,k4,Cc,k5,k6⟩:=qI j k hj
      rw [rZ] at k1;cases k1
      simp only [List.nil_append] at k5
      obtain ⟨c1,c2,c3⟩:=jO _ 0 [] _ _ k5 k6 rfl
      simp only [Nat.zero_add] at c1 c3
      have TJ:(ops.take T).length=T:=by rw [List.length_take];omega
      have Pc:k ∉ Ws.drop (j+1):=fun hm=>by
       obtain ⟨j2,Cv⟩:=List.mem_iff_getElem?.1 hm
       rw [List.getElem?_drop] at Cv
       have:=mo Lx hj Cv
       omega
      have Tc:k∈Ws.take (j+1):=List.mem_iff_getElem?.2 ⟨j,by rw [List.getElem?_take,if_pos ag];exact hj⟩
      have hold:((((st j).col.map Tr).set k x).getD k .dead)=x:=by
       obtain ⟨last,first,old,Cd,xR,LS⟩:=xa j hi
       obtain ⟨d1,-,-⟩:=jO _ 0 [] _ _ xR LS rfl
       rw [Nat.zero_add,TJ] at d1
       rw [List.getD_eq_getElem?_getD,List.getElem?_set_self (by rw [List.length_map];omega)];rfl
      have jg:=xo (P:=P) (S0:=S0) (w0:=w0) (Q:=Q) (n:=n) (T:=T) (col':=(st (j+1)).col) (L:=L) (a:=a') (w:=w') zk hk rZ QP (fK j hi) k2 k3 (by
       intro q z hq Qn TT hz
       have I8:(ops.take T)[q]?=some (ops[q]' ag):=by rw [List.getElem?_take,if_pos hq];exact List.getElem?_eq_getElem ag
       obtain ⟨x',D2,e1,e2,e3⟩:=c3 q _ I8
       rw [e1] at hz;injection hz with hz;subst hz
       unfold rh at e3
       split at e3
       ·split at e3
        ·split at e3
         ·rename_i xx CC eE
          split at e3
          ·cases e3
           exact kB Qn e2.1
          ·rename_i gr
           exfalso
           cases hh:hit (R.getD q []) [k] with
           | false=>exact gr rfl hh
           | true =>
            obtain ⟨y,h1,h2⟩:=oU.1 hh
            have:y=k:=by simpa using h2
            subst this
            have:=qK q TT y h1
            rw [BR] at this;cases this
         ·cases e3
        ·cases e3
         exact kB Qn rfl
       ·cases e3
        exact .inr rfl) (by
       have Fa:(ops.take T)[k]?=some o:=by rw [List.getElem?_take,if_pos hk];exact rZ
       obtain ⟨x',D2,e1,e2,e3⟩:=c3 k _ Fa
       rw [e1]
       unfold rh at e3
       have r1:(Ws.drop (j+1)).any (Nat.beq k)=false:=by
        cases hh:(Ws.drop (j+1)).any (Nat.beq k) with
        | false=>rfl
        | true=>exact absurd (any_beq.1 hh) Pc
       have r2:=vD (j+1) ag k pT
       have r3:(Ws.take (j+1)).any (Nat.beq k)=true:=any_beq.2 Tc
       rw [r1,r2,r3] at e3
       simp only at e3
       injection e3 with e3;injection e3 with e3 _
       rw [←e3,hold]) gw
      have fin:∀sJ fJ,ie S0 w0 n ⟨dY ops (st (j+1)).col (fh L k) T++eD Tr (st j).kept,(st (j+1)).H⟩ sJ fJ->J (fh L k) sJ fJ:=by
       intro sJ fJ h
       refine ⟨j+1,ag,fun j2 W2 h2=>?_,by rw [k4];exact h⟩
       by_cases e:W2=k
       ·subst e
        have:=mo Lx hj h2
        unfold fh;rw [if_pos rfl];simp;omega
       ·unfold fh;rw [if_neg e,hW j2 W2 h2]
        have:j2≠j:=fun e2=>by subst e2;rw [hj] at h2;cases h2;exact e rfl
        omega
      split
      ·rename_i hw
       rw [if_pos hw] at jg
       exact Oper.wp_mono fin jg
      ·rename_i hw
       rw [if_neg hw] at jg
       exact fin _ _ jg
     ·obtain ⟨last,first,old,Cc,k5,k6⟩:=xa i hi
      obtain ⟨c1,c2,c3⟩:=jO _ 0 [] _ _ k5 k6 rfl
      simp only [Nat.zero_add] at c1 c3
      have Fa:(ops.take T)[k]?=some o:=by rw [List.getElem?_take,if_pos hk];exact rZ
      obtain ⟨x',D2,e1,e2,e3⟩:=c3 k _ Fa
      unfold rh at e3
      have r1:(Ws.drop i).any (Nat.beq k)=false:=by
       cases hh:(Ws.drop i).any (Nat.beq k) with
       | false=>rfl
       | true=>exact absurd (List.mem_of_mem_drop (any_beq.1 hh)) LB
      have r2:=vD i (Nat.le_refl _) k pT
      have r3:(Ws.take i).any (Nat.beq k)=false:=by
       cases hh:(Ws.take i).any (Nat.beq k) with
       | false=>rfl
       | true=>exact absurd (List.mem_of_mem_take (any_beq.1 hh)) LB
      have r4:(Ws.take i).any (fun W=>(R.getD W []).any (Nat.beq k))=false:=by
       cases hh:(Ws.take i).any (fun W=>(R.getD W []).any (Nat.beq k)) with
       | false=>rfl
       | true =>
        exfalso
        obtain ⟨W,h1,h2⟩:=List.any_eq_true.1 hh
        obtain ⟨j,hj⟩:=List.mem_iff_getElem?.1 h1
        rw [List.getElem?_take] at hj
        split at hj
        ·rename_i MI
         have:=qK W ((hW j W hj).2 MI) k (any_beq.1 h2)
         rw [BR] at this;cases this
        ·cases hj
      rw [r1,r2,r3,r4] at e3
      simp only at e3
      have eE:∃C',tN P ops ⟨jB ops ((st i).col.take k) (bl o)++(st i).kept,(st i).H⟩ o (gL hs k)=some (x',C')∧bx C':=by
       split at e3
       ·rename_i xx CC eE
        split at e3
        ·cases e3;exact ⟨_,eE,e2.2⟩
        ·cases e3;exact ⟨_,eE,e2⟩
       ·cases e3
      obtain ⟨C',eE,Q3⟩:=eE
      rw [sx ops _ k _ (Dn k o rZ)] at eE
      have jg:=uL (P:=P) (S0:=S0) (w0:=w0) (Q:=Q) (n:=n) (T:=T) (L:=L) (a:=a') (w:=w') zk NS hk rZ QP (fK i hi) eE Q3 e1 gw
      have fin:∀sJ fJ,ie S0 w0 n ⟨dY ops (st i).col (fh L k) T++(st i).kept,(st i).H⟩ sJ fJ->J (fh L k) sJ fJ:=by
       intro sJ fJ h
       refine ⟨i,hi,fun j2 W2 h2=>?_,h⟩
       have e:W2≠k:=fun e=>by subst e;exact LB (List.mem_of_getElem? h2)
       unfold fh;rw [if_neg e];exact hW j2 W2 h2
      split
      ·rename_i hw
       rw [if_pos hw] at jg
       exact Oper.wp_mono fin jg
      ·rename_i hw
       rw [if_neg hw] at jg
       exact fin _ _ jg
    ·intro L a' w' gD ua ⟨i,hi,hW,b_,gw⟩
     have e:i=Ws.length:=by
      rcases Nat.lt_or_ge i Ws.length with h|h
      ·have Lr:Ws[i]?=some (Ws[i]'h):=List.getElem?_eq_getElem h
       have:=(hW i _ Lr).1 (gD _ (NQ _ (List.getElem_mem h)))
       omega
      ·omega
     subst e
     have kA:=j0 (S0:=S0) (w0:=w0) (Q:=Q) _ _ _ _ _ pB hD a' w' ⟨b_,aI.sub gw fun i x hx=>.inl ?_⟩ hQ
     ·simpa using kA
     ·rw [bL] at hx ⊢
      cases hh:look (jr (ops.take T) (st Ws.length).col) i with
      | some y =>
       rw [hh] at hx
       simp at hx;subst hx
       obtain ⟨k,o,h1,h2,h3⟩:=k8 _ _ _ _ hh
       have w7:k<T:=by have:=(List.getElem?_eq_some_iff.1 h1).1;rw [List.length_take] at this;omega
       rw [gI zk _ L T k i o y w7 (gD k w7) (bZ _ _ _ _ h1) h2 h3];rfl
      | none =>
       rw [hh] at hx
       simp at hx
       rw [jv fun j p hj hp=>fK _ (Nat.le_refl _) i x hx j p hj hp]
       simpa using hx
    ·rw [getD_replicate_false] at hk;cases hk
    ·refine ⟨0,ag,fun j W _=>by show (Array.replicate ops.toArray.size false).getD W false=true↔_;rw [getD_replicate_false];simp,φ,?_⟩
     rw [nQ _ _ _ (fun k=>getD_replicate_false _ _)]
     have hg:aI S0 w0 n [] s a w.drew φ:=km.grow ((Below.refl _ _).drew)
     rw [Q0,zl]
     exact aI.sub (F:=s.F) hg fun i x hx=>.inl (gj _ _ _ _ (by simpa using hx)).1
   ·cases he
  ·cases he
 ·cases he
def sj (P:Program) (n T:Nat) (Ws:List Nat) (hs:List (Nat×Hint)) (c:Code) (s:AS):Option (AS×List Prop) :=
 match c with
 | .region _ ⟨l⟩ true=>zZ P n T Ws l hs s
 | _=>none
theorem bg.PJ {n:Nat} {c:Code} {Q:Exit->AS->Prop} {s s':AS} {C:List Prop} (T:Nat) (Ws:List Nat) (hs:List (Nat×Hint)) (he:sj P n T Ws hs c s=some (s',C)) (hC:bx C) (h:Q .normal s'):bg P n c Q s:=by
 intro S0 w0 a w gw
 unfold sj at he
 split at he
 ·exact DJ (S0:=S0) (w0:=w0) he hC gw fun a' w' bY=>⟨s',h,bY.one⟩
 ·cases he
theorem bg.Uq {n:Nat} {c:Code} {Q:Exit->AS->Prop} {s:AS} {C:List Prop} (T:Nat) (Ks:List Nat) (hs:List (Nat×Hint)) (he:pI (sj P n T Ks hs c s)=some C) (hC:bx C) (h:Q .normal (ql (sj P n T Ks hs c s))):bg P n c Q s:=bg.PJ T Ks hs (jd he) hC h
end
end Go.Proofs.YtjgbhhnghedgdaaGreatDoor
