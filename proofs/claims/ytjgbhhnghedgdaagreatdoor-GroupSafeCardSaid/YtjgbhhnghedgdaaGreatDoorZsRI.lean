import Derived.Test.YtjgbhhnghedgdaaGreatDoorZsRH
set_option linter.all false
namespace Go.Proofs.YtjgbhhnghedgdaaGreatDoor
open Go.RowKit
def eg (L:Nat->Bool) (k:Nat):Nat->Bool:=fun j=>if j=k then true else L j
structure QM (ops:Array Oper) (listed:Array Bool):Prop where
 size:listed.size=ops.size
 closed:∀k o,listed.getD k false=true->ops[k]?=some o-> ∀d∈ba o,listed.getD d false=true
section
variable {P:Program} {ops:Array Oper} {Q:Exit->Act->World->Prop}
theorem mP {n T:Nat} (hT:T<ops.size) (Jq:Region.sinkB .any ops T=true) (A_:Region.chainB .any ops T=true) (O6:Region.seqB .any ops (ops.size-T) T ((List.range ops.size).map (decide<| · <T)).toArray=true) (hB:lk ops n=true) (J:(Nat->Bool)->Act->World->Prop)
  (u7:∀k o (L:Nat->Bool) a' w',k<T->ops[k]?=some o->L k=false->(∀d∈ba o,L d=true)->(∀j p,L j=true->ops[j]?=some p-> ∀d∈ba p,L d=true)->(∀j,T≤j->L j=false)->J L a' w' ->
   (if Region.wanted o (yielded ops a'.tmps)=true then o.wp P a' w' (fun ru fa=>J (eg L k) ru fa) Q else J (eg L k) (a'.put o.dst undef) w'))
  (lh:∀(L:Nat->Bool) a' w',(∀k,k<T->L k=true)->(∀j,T≤j->L j=false)->J L a' w'->wpList P ops Q (ops.toList.drop T) a' w') :
  ∀(fuel:Nat) (listed:Array Bool) (a':Act) (w':World),QM ops listed->J (fun k=>listed.getD k false) a' w'->(∀j,T≤j->listed.getD j false=false) ->
   (listed.toList.filter (· == false)).length=fuel->wpAny P .any ops Q fuel listed a' w':=by
 obtain ⟨cW,g_,u9⟩:=fI hB
 have ks:∀(listed:Array Bool),QM ops listed-> ∀k,k<T->listed.getD k false=false-> ∃i,i<T∧i∈Region.ready .any ops listed:=by
  intro listed I k
  induction k using Nat.strongRecOn with
  | _ k ih =>
   intro hk hl
   have iw:k<listed.size:=by rw [I.size];omega
   have xp:k<ops.size:=ah
   have oP:ops[k]?=some ops[k]:=Array.getElem?_eq_getElem xp
   by_cases f_:∀d∈ba ops[k],listed.getD d false=true
   ·refine ⟨k,hk,?_⟩
    rw [mem_ready]
    refine ⟨?_,ops[k],oP,fun e he hb=>f_ e.on ?_⟩
    ·simp [iw] at hl ⊢;exact hl
    ·unfold ba
     exact List.mem_map.2 ⟨e,List.mem_filter.2 ⟨by simpa using he,hb⟩,rfl⟩
   ·have:∃d,d∈ba ops[k]∧listed.getD d false=false:=by
     refine Classical.byContradiction fun gu=>f_ fun d hd=>?_
     cases hx:listed.getD d false with
     | true=>rfl
     | false=>exact absurd ⟨d,hd,hx⟩ gu
    obtain ⟨d,hd,hx⟩:=this
    exact ih d (cW k _ oP d hd) (by have:=cW k _ oP d hd;omega) hx
 have rest:∀(fuel:Nat) (listed:Array Bool) (a':Act) (w':World),QM ops listed->J (fun k=>listed.getD k false) a' w'->(∀j,T≤j->listed.getD j false=false)->(listed.toList.filter (· == false)).length=fuel->(∀k,k<T->listed.getD k false=true)->wpAny P .any ops Q fuel listed a' w':=by
  intro fuel listed a' w' I hJ tail hc all
  have nn:listed=((List.range ops.size).map (decide<| · <T)).toArray:=by
   apply Array.ext_getElem?
   intro x
   by_cases hx:x<ops.size
   ·have FP:x<listed.size:=by rw [I.size];exact hx
    have hr:((List.range ops.size).map (decide<| · <T)).toArray[x]?=some (decide (x<T)):=by simp [hx]
    rw [hr]
    by_cases z7:x<T
    ·have:=all x z7;simp [FP] at this ⊢;rw [this,decide_eq_true z7]
    ·have:=tail x ah;simp [FP] at this ⊢;rw [this,decide_eq_false z7]
   ·rw [Array.getElem?_eq_none (by rw [I.size];omega),Array.getElem?_eq_none (by simp;omega)]
  have hlen:fuel=(ops.toList.drop T).length:=by
   rw [←hc,nn]
   simp only [List.length_drop,Array.length_toList,List.filter_map,List.length_map]
   have key:∀n,T≤n->((List.range n).filter ((fun x=>x == false) ∘ (decide<| · <T))).length=n-T:=by
    intro n hn
    induction n with
    | zero=>simp
    | succ n ih =>
     rw [List.range_succ,List.filter_append,List.length_append]
     by_cases Pl:T≤n
     ·rw [ih Pl]
      have:((fun x=>x == false) ∘ (decide<| · <T)) n=true:=by simp;omega
      rw [List.filter_cons_of_pos this];simp;omega
     ·obtain rfl:T=n+1:=ah
      have h1:(List.range n).filter ((fun x=>x == false) ∘ (decide<| · <n+1))= []:=by
       rw [List.filter_eq_nil_iff];intro x hx;have:=List.mem_range.1 hx;simp;omega
      have h2:[n].filter ((fun x=>x == false) ∘ (decide<| · <n+1))= []:=by
       rw [List.filter_eq_nil_iff];intro x hx;simp at hx;subst hx;simp
      rw [h1,h2];simp
   exact key ops.size ah
  rw [hlen]
  refine wpAny_of_seq (ops.toList.drop T) T listed a' w' (fun j=>by rw [List.getElem?_drop];simp) ?_ (lh _ a' w' all tail hJ)
  rw [nn]
  simpa using O6
 intro fuel
 induction fuel with
 | zero =>
  intro listed a' w' I hJ tail hc
  refine rest 0 listed a' w' I hJ tail hc fun k hk=>?_
  cases hx:listed.getD k false with
  | true=>rfl
  | false =>
   exfalso
   have iw:k<listed.size:=by rw [I.size];omega
   have:false∈listed.toList.filter (· == false):=by
    refine List.mem_filter.2 ⟨?_,rfl⟩
    have h1:listed.toList[k]?=some false:=by simp [iw] at hx ⊢;exact hx
    exact List.mem_of_getElem? h1
   have:=List.length_pos_of_mem this
   omega
 | succ fuel ih =>
  intro listed a' w' I hJ tail hc
  by_cases hex:∀k,k<T->listed.getD k false=true
  ·exact rest (fuel+1) listed a' w' I hJ tail hc hex
  have OY:∃k,k<T∧listed.getD k false=false:=by
   refine Classical.byContradiction fun gu=>hex fun k hk=>?_
   cases hx:listed.getD k false with
   | true=>rfl
   | false=>exact absurd ⟨k,hk,hx⟩ gu
  obtain ⟨k0,xq,Hy⟩:=OY
  have PH:HeadInv .any ops T listed:=⟨I.size,fun j oj hj hl e he hb=>I.closed j oj hl hj e.on (by
    unfold ba
    exact List.mem_map.2 ⟨e,List.mem_filter.2 ⟨by simpa using he,hb⟩,rfl⟩),fun t ht O5=>getD_in (by rw [I.size];exact O5) (tail t ht)⟩
  have HW:listed.getD k0 true=false:=getD_in (by rw [I.size];omega) Hy
  refine ⟨fun hr=>(by
   obtain ⟨i,_,hi⟩:=ks listed I k0 xq Hy
   rw [hr] at hi;cases hi),fun i hi=>?_⟩
  have Pq:i<T:=Classical.byContradiction fun h=>tail_waits Jq A_ hT PH _ k0 rfl xq HW i ah hi
  obtain ⟨h0,o,ho,f_⟩:=mem_ready.1 hi
  have HX:i<listed.size:=by rw [I.size];exact (Array.getElem?_eq_some_iff.1 ho).1
  have Oi:listed.getD i false=false:=by simp [HX] at h0 ⊢;exact h0
  have iY:∀d∈ba o,listed.getD d false=true:=by
   intro d hd
   unfold ba at hd
   obtain ⟨e,he,rfl⟩:=List.mem_map.1 hd
   obtain ⟨LK,KC⟩:=List.mem_filter.1 he
   exact f_ e (by simpa using LK) KC
  have next:QM ops (listed.setIfInBounds i true):=by
   refine ⟨by simpa using I.size,fun k p hk hp d hd=>?_⟩
   by_cases sg:i=k
   ·subst sg
    rw [ho] at hp;injection hp with hp;subst hp
    exact getD_set_true (iY d hd)
   ·rw [getD_set_ne false sg] at hk
    exact getD_set_true (I.closed k p hk hp d hd)
  have dL:(fun k=>(listed.setIfInBounds i true).getD k false)=eg (fun k=>listed.getD k false) i:=by
   funext k
   unfold eg
   by_cases sg:k=i
   ·subst sg;rw [if_pos rfl];simp [HX]
   ·rw [if_neg sg,getD_set_ne false (Ne.symm sg)]
  have nh:∀j,T≤j->(listed.setIfInBounds i true).getD j false=false:=fun j hj=>by rw [getD_set_ne false ah];exact tail j hj
  have nm:((listed.setIfInBounds i true).toList.filter (· == false)).length=fuel:=by
   have Pn:((listed.setIfInBounds i true).toList.filter (· == false)).length+1=(listed.toList.filter (· == false)).length:=by
    rw [Array.toList_setIfInBounds]
    have i6:listed.toList[i]?=some false:=by simp [HX] at h0 ⊢;exact h0
    exact oV _ i i6
   omega
  have iF:=u7 i o (fun k=>listed.getD k false) a' w' Pq ho Oi iY (fun j p hj hp d hd=>I.closed j p hj hp d hd) tail hJ
  rw [←dL] at iF
  unfold wpOp
  rw [ho]
  simp only
  by_cases hw:Region.wanted o (yielded ops a'.tmps)=true
  ·rw [if_pos hw] at iF ⊢
   left
   exact Oper.wp_mono (fun ru fa h=>ih _ _ _ next h nh nm) iF
  ·rw [if_neg hw] at iF ⊢
   exact ih _ _ _ next iF nh nm
end
def dp (ops:List Oper) (col:List AV) (L:Nat->Bool):Nat->List (Nat×AV)
 | 0=>[]
 | k+1=>match L k,ops[k]?,col[k]? with
  | true,some o,some x=>(match o.dst with|some i=>(i,x)::dp ops col L k|none=>dp ops col L k)
  | _,_,_=>dp ops col L k
theorem kA (ops:List Oper) (col:List AV) (L:Nat->Bool):∀(T i:Nat) (x:AV),look (dp ops col L T) i=some x-> ∃k o,k<T∧L k=true∧ops[k]?=some o∧o.dst=some i∧col[k]?=some x
 | 0,i,x,h=>by cases h
 | k+1,i,x,h=>by
  have step:look (dp ops col L k) i=some x-> ∃k' o,k'<k+1∧L k'=true∧ops[k']?=some o∧o.dst=some i∧col[k']?=some x:=fun h=>by
   obtain ⟨k',o,h1,h2⟩:=kA ops col L k i x h
   exact ⟨k',o,ah,h2⟩
  simp only [dp] at h
  split at h
  ·rename_i o y hL ho hy
   split at h
   ·rename_i j hj
    rw [aB] at h
    by_cases e:j=i
    ·rw [if_pos e] at h;injection h with h;subst h;subst e
     exact ⟨k,o,ah,hL,ho,hj,hy⟩
    ·rw [if_neg e] at h;exact step h
   ·exact step h
  ·exact step h
theorem gi {ops:List Oper} (g_:(ops.filterMap (·.dst)).Nodup) (col:List AV) (L:Nat->Bool):∀(T k i:Nat) (o:Oper) (x:AV),k<T->L k=true->ops[k]?=some o->o.dst=some i->col[k]?=some x->look (dp ops col L T) i=some x
 | 0,k,i,o,x,h,_,_,_,_=>by omega
 | m+1,k,i,o,x,hk,hL,ho,hd,hx=>by
  by_cases Qx:k=m
  ·subst Qx
   simp only [dp,hL,ho,hx,hd,aB,if_pos]
  ·have ih:=gi g_ col L m k i o x ah hL ho hd hx
   simp only [dp]
   split
   ·rename_i p y _ hp _
    split
    ·rename_i j hj
     rw [aB]
     have cK:j≠i:=fun e=>by
      subst e
      exact Qx (nQ (ops:=ops.toArray) (by simpa using g_) (by simpa using ho) (by simpa using hp) hd hj)
     rw [if_neg cK];exact ih
    ·exact ih
   ·exact ih
theorem i4 {ops:List Oper} {col:List AV} {L:Nat->Bool} {T i:Nat} (h:∀k o,k<T->ops[k]?=some o->o.dst≠some i):look (dp ops col L T) i=none:=by
 cases hl:look (dp ops col L T) i with
 | none=>rfl
 | some x =>
  obtain ⟨k,o,h1,-,h3,h4,-⟩:=kA ops col L T i x hl
  exact absurd h4 (h k o h1 h3)
theorem aH.sub {S0:bf} {w0 w:World} {n:Nat} {O:List Nat} {F F':List (Nat×AV)} {H:List (Nat×Row)} {a:Act} {φ:Nat->Option Nat} (h:aH S0 w0 n O ⟨F,H⟩ a w φ) (hF:∀i x,look F' i=some x->look F i=some x∨x= .dead):aH S0 w0 n O ⟨F',H⟩ a w φ:=by
 refine ⟨h.jF,h.jJ,h.cM,fun i x hx=>?_,h.rows,h.only,h.inj,h.cL,h.apart,h.new⟩
 rcases hF i x hx with h1|h1
 ·exact h.ct i x h1
 ·rw [h1];exact .dead _
section
variable {P:Program} {ops:List Oper} {S0:bf} {w0:World} {Q:Exit->Act->World->Prop} {n T:Nat} {col:List AV} {kept:List (Nat×AV)} {H:List (Nat×Row)} {L:Nat->Bool} {k:Nat} {o:Oper}
theorem zC (g_:(ops.filterMap (·.dst)).Nodup) (E_:∀d∈ba o,L d=true∧d<T) (fb:∀i x,look kept i=some x-> ∀j p,j<T->ops[j]?=some p->p.dst≠some i) (i:Nat) (x:AV) (h:look (jc ops col (ba o)++kept) i=some x):look (dp ops col L T++kept) i=some x:=by
 rw [bI] at h ⊢
 cases hd:look (jc ops col (ba o)) i with
 | some y =>
  rw [hd] at h
  simp at h;subst h
  obtain ⟨d,p,h1,h2,h3,h4⟩:=nH _ _ _ _ _ hd
  rw [gi g_ col L T d i p y (E_ d h1).2 (E_ d h1).1 h2 h3 h4];rfl
 | none =>
  rw [hd] at h
  simp at h
  rw [i4 fun j p hj hp=>fb i x h j p hj hp]
  simpa using h
theorem tr {h:Hint} {x:AV} {C:List Prop} {a:Act} {w:World} (g_:(ops.filterMap (·.dst)).Nodup) (u9:∀(k:Nat) (o:Oper) (s:Nat),ops[k]?=some o->o.dst=some s->s<n)
  (hk:k<T) (ho:ops[k]?=some o) (E_:∀d∈ba o,L d=true∧d<T) (fb:∀i x,look kept i=some x-> ∀j p,j<T->ops[j]?=some p->p.dst≠some i)
  (dF:sk P ops ⟨jc ops col (ba o)++kept,H⟩ o h=some (x,C)) (hC:bu C) (hx:col[k]?=some x) (hs:ib S0 w0 n ⟨dp ops col L T++kept,H⟩ a w) :
  if Region.wanted o (yielded ops.toArray a.tmps)=true then o.wp P a w (fun a' w'=>ib S0 w0 n ⟨dp ops col (eg L k) T++kept,H⟩ a' w') Q else ib S0 w0 n ⟨dp ops col (eg L k) T++kept,H⟩ (a.put o.dst undef) w:=by
 obtain ⟨φ,hs⟩:=hs
 have BV:=hs.sub (F':=jc ops col (ba o)++kept) (fun i y hy=>.inl (zC g_ E_ fb i y hy))
 have iF:=Ea (Q:=Q) dF hC BV (b:=a) rfl
 have fin:∀v w',Below w.heap.size w w'->Den (az H φ) (aJ S0 w' φ []) w' v x->ib S0 w0 n ⟨dp ops col (eg L k) T++kept,H⟩ (a.put o.dst v) w':=by
  intro v w' hb hd
  have hg:=hs.grow hb
  refine ⟨φ,(tj ..).trans hg.jF,(oT ..).trans hg.jJ,hg.cM,fun i y hy=>?_,hg.rows,hg.only,hg.inj,hg.cL,hg.apart,hg.new⟩
  have hy:look (dp ops col (eg L k) T++kept) i=some y:=hy
  have same:o.dst≠some i->(a.put o.dst v).tmps.getD i undef=a.tmps.getD i undef:=fun cK=>by
   cases To:o.dst with
   | none=>rfl
   | some j =>
    have cW:j<a.tmps.size:=by rw [hg.jF];exact u9 k o j ho To
    rw [pn a j i v cW,if_neg (fun e=>cK (by rw [To,e]))]
  rw [bI] at hy
  cases hl:look (dp ops col (eg L k) T) i with
  | some z =>
   rw [hl] at hy
   simp at hy;subst hy
   obtain ⟨j,p,h1,h2,h3,h4,h5⟩:=kA _ _ _ _ _ _ hl
   by_cases vn:j=k
   ·subst vn
    rw [ho] at h3;injection h3 with h3;subst h3
    rw [hx] at h5;injection h5 with h5;subst h5
    have cW:i<a.tmps.size:=by rw [hg.jF];exact u9 j o i ho h4
    rw [h4,pn a i i v cW,if_pos rfl]
    exact hd
   ·have QC:L j=true:=by unfold eg at h2;rw [if_neg vn] at h2;exact h2
    have cK:o.dst≠some i:=fun e=>vn (nQ (ops:=ops.toArray) (by simpa using g_) (by simpa using h3) (by simpa using ho) h4 e)
    rw [same cK]
    refine hg.ct i z ?_
    show look (dp ops col L T++kept) i=some z
    rw [bI,gi g_ col L T j i p z h1 QC h3 h4 h5];rfl
  | none =>
   rw [hl] at hy
   simp at hy
   have cK:o.dst≠some i:=fb i y hy k o hk ho
   rw [same cK]
   refine hg.ct i y ?_
   show look (dp ops col L T++kept) i=some y
   rw [bI,i4 fun j p hj hp=>fb i y hy j p hj hp]
   simpa using hy
 unfold gE at iF
 split
 ·rename_i hw
  rw [if_pos hw] at iF
  exact Oper.wp_mono (fun a' w' ⟨v,h1,h2,h3,h4⟩=>by subst h1;exact fin v w' h2 h4) iF
 ·rename_i hw
  rw [if_neg hw] at iF
  exact fin undef w (Below.refl _ _) iF.2
end
def Ja (d:Nat):AV->AV->AV
 | .ref id,x=>jA d (jA id x)
 | .pre id _,x=>jA d (jA id x)
 | _,x=>jA d x
def P3 (d:Nat) (X:AV) (F:List (Nat×AV)):List (Nat×AV):=(d,.ref d)::cF (dE (Ja d X) F) d
theorem lK {α:Type} (f g:α->α):∀(l:List (Nat×α)),dE f (dE g l)=dE (fun x=>f (g x)) l
 | []=>rfl
 | (k,x)::l=>by simp only [dE,lK f g l]
theorem Gm (P:Program) (F F':List (Nat×AV)) (H:List (Nat×Row)) (xt:TypeId) (z:Nat) (x:AV):qq P ⟨F',H⟩ xt z x=qq P ⟨F,H⟩ xt z x:=by
 cases x<;>rfl
theorem I_ {P:Program} {n:Nat} {F F':List (Nat×AV)} {H:List (Nat×Row)} {d t xt:Nat} {X Y:AV} {h:Hint} {q:AS} {C:List Prop} (he:kK P n ⟨F,H⟩ d t xt X Y h=some (q,C)):kK P n ⟨F',H⟩ d t xt X Y h=some (⟨P3 d X F',q.H⟩,C):=by
 unfold kK at he ⊢
 split at he
 ·rename_i el hu
  split at he
  ·rename_i i hi
   split at he
   ·rename_i zero z b hz dc xw
    split at he
    ·rename_i cells s1 row uf lj gk
     split at he
     ·rename_i C' s' pJ dL
      cases he
      have Px:∃NP,pV ⟨F',H⟩ (z+1) X=some (cells,NP)∧NP.H=s1.H∧dE (jA d) NP.F=dE (Ja d X) F':=by
       unfold pV at lj ⊢
       split at lj
       ·cases lj;exact ⟨_,rfl,rfl,rfl⟩
       ·split at lj
        ·rename_i e' _ Ny hl
         split at lj
         ·rename_i hb
          cases lj
          refine ⟨bX _ ⟨F',H⟩,?_,rfl,?_⟩
          ·have qP:look (⟨F',H⟩:AS).H _=_:=hl
           simp only [qP,hb]
          ·exact lK _ _ _
         ·cases lj
        ·cases lj
       ·split at lj
        ·rename_i e' _ Ny hl
         split at lj
         ·rename_i hb
          cases lj
          refine ⟨bX _ ⟨F',H⟩,?_,rfl,?_⟩
          ·have qP:look (⟨F',H⟩:AS).H _=_:=hl
           simp only [qP,hb]
          ·exact lK _ _ _
         ·cases lj
        ·cases lj
       ·split at lj
        ·rename_i hb
         cases lj
         exact ⟨⟨F',H⟩,rfl,rfl,rfl⟩
        ·cases lj
       ·cases lj
      obtain ⟨NP,FW,yk,UW⟩:=Px
      rw [Gm P F F'] at *
      simp only [uf,FW,gk,pJ]
      unfold fZ at dL ⊢
      simp only at dL ⊢
      split at dL
      ·cases dL
       have e1:(bX d NP).H=(bX d s1).H:=by unfold bX;rw [yk]
       have e2:(bX d NP).F=dE (Ja d X) F':=UW
       simp only [k9,e1,e2,P3]
      ·cases dL
     ·cases he
    ·cases he
   ·cases he
  ·cases he
 ·cases he
section
variable {P:Program} {ops:List Oper} {S0:bf} {w0:World} {Q:Exit->Act->World->Prop} {n T:Nat} {col col':List AV} {kept:List (Nat×AV)} {H H':List (Nat×Row)} {L:Nat->Bool} {k:Nat} {o:Oper}
theorem xh {f:AV->AV} {F:List (Nat×AV)} {d i:Nat} (h:d≠i):look (cF (dE f F) d) i=(look F i).map f:=by rw [bC,if_neg h,b7]
def tQ (F:List (Nat×AV)):Operand->Bool
 | .tmp i=>(look F i).isSome
 | _=>true
theorem l8 {F F':List (Nat×AV)} (hF:∀i x,look F i=some x->look F' i=some x) {y:Operand} (h:tQ F y=true):bj ⟨F',H⟩ y=bj ⟨F,H⟩ y:=by
 cases y with
 | tmp i =>
  have h:(look F i).isSome=true:=h
  cases hl:look F i with
  | none=>rw [hl] at h;cases h
  | some x =>
   show jI _ i=jI _ i
   unfold jI
   rw [show look (⟨F',H⟩:AS).F i=some x from hF i x hl,show look (⟨F,H⟩:AS).F i=some x from hl]
 | _=>rfl
end
def Ow:List Nat->List Nat->List Nat
 | [],m=>m
 | x::l,m=>match m.any (Nat.beq x) with|true=>Ow l m|false=>Ow l (x::m)
theorem xe:∀(l m:List Nat) (x:Nat),x∈Ow l m->x∈l∨x∈m
 | [],m,x,h=>.inr h
 | y::l,m,x,h=>by
  simp only [Ow] at h
  split at h
  ·rcases xe l m x h with h|h
   ·exact .inl (by simp [h])
   ·exact .inr h
  ·rcases xe l (y::m) x h with h|h
   ·exact .inl (by simp [h])
   ·rcases List.mem_cons.1 h with h|h
    ·exact .inl (by simp [h])
    ·exact .inr h
def mR (R:List (List Nat)):List Nat->List Nat
 | []=>[]
 | d::l=>Ow (d::R.getD d []) (mR R l)
theorem tV (R:List (List Nat)):∀(l:List Nat) (x:Nat),x∈mR R l-> ∃d∈l,x=d∨x∈R.getD d []
 | [],x,h=>by simp [mR] at h
 | d::l,x,h=>by
  rcases xe _ _ x h with h|h
  ·exact ⟨d,by simp,List.mem_cons.1 h⟩
  ·obtain ⟨e,h1,h2⟩:=tV R l x h
   exact ⟨e,by simp [h1],h2⟩
def l5:List Oper->List (List Nat)->List (List Nat)
 | [],R=>R
 | o::l,R=>l5 l (R++ [mR R (ba o)])
def sV (ops:List Oper) (R:List (List Nat)):Prop:=∀(k:Nat) (o:Oper),ops[k]?=some o-> ∀(L:Nat->Bool),(∀j p,L j=true->ops[j]?=some p-> ∀d∈ba p,L d=true)->(∀d∈ba o,L d=true)-> ∀j∈R.getD k [],L j=true
theorem qy (ops:List Oper):∀(l:List Oper) (R:List (List Nat)),sV ops R->(∀j o,l[j]?=some o->ops[R.length+j]?=some o)->(∀(k:Nat) (o:Oper),ops[k]?=some o-> ∀d∈ba o,d<k)->sV ops (l5 l R)
 | [],R,h,_,_=>h
 | o::l,R,h,hl,cW=>by
  refine qy ops l _ ?_ (fun j p hp=>?_) cW
  ·intro k p hp L hc hd j hj
   by_cases hk:k<R.length
   ·have:(R++ [mR R (ba o)]).getD k []=R.getD k []:=by
     rw [List.getD_eq_getElem?_getD,List.getD_eq_getElem?_getD,List.getElem?_append_left hk]
    rw [this] at hj
    exact h k p hp L hc hd j hj
   ·by_cases xp:k=R.length
    ·subst xp
     have e:(R++ [mR R (ba o)]).getD R.length []=mR R (ba o):=by
      rw [List.getD_eq_getElem?_getD,List.getElem?_append_right (Nat.le_refl _)];simp
     rw [e] at hj
     have ho:ops[R.length]?=some o:=by have:=hl 0 o rfl;simpa using this
     rw [ho] at hp;injection hp with hp;subst hp
     obtain ⟨d,h1,h2⟩:=tV R _ j hj
     rcases h2 with h2|h2
     ·subst h2;exact hd j h1
     ·cases Qu:ops[d]? with
      | none =>
       exfalso
       have:=cW R.length o ho d h1
       have h3:=(List.getElem?_eq_some_iff.1 ho).1
       rw [List.getElem?_eq_getElem ah] at Qu;cases Qu
      | some q=>exact h d q Qu L hc (fun d' Fa=>hc d q (hd d h1) Qu d' Fa) j h2
    ·have e:(R++ [mR R (ba o)]).getD k []= []:=by
      rw [List.getD_eq_getElem?_getD,List.getElem?_eq_none (by simp;omega)];rfl
     rw [e] at hj;cases hj
  ·rw [List.length_append]
   have:=hl (j+1) p (by simpa using hp)
   simp only [List.length_cons,List.length_nil]
   rwa [show R.length+(j+1)=R.length+(0+1)+j by omega] at this
def hit (l m:List Nat):Bool:=l.any fun x=>m.any (Nat.beq x)
theorem any_beq {m:List Nat} {x:Nat}:m.any (Nat.beq x)=true↔x∈m:=by
 rw [List.any_eq_true]
 exact ⟨fun ⟨y,h1,h2⟩=>by rw [Nat.eq_of_beq_eq_true h2];exact h1,fun h=>⟨x,h,Nat.beq_refl x⟩⟩
theorem nJ {l m:List Nat}:hit l m=true↔ ∃x,x∈l∧x∈m:=by
 unfold hit
 rw [List.any_eq_true]
 exact ⟨fun ⟨x,h1,h2⟩=>⟨x,h1,any_beq.1 h2⟩,fun ⟨x,h1,h2⟩=>⟨x,h1,any_beq.2 h2⟩⟩
structure nz where
 col:List AV
 kept:List (Nat×AV)
 H:List (Nat×Row)
def qa (P:Program) (ops:List Oper) (hs:List (Nat×Hint)) (R:List (List Nat)) (done rest last:List Nat) (first:Bool) (old:List AV) (kept:List (Nat×AV)) (H:List (Nat×Row)) (o:Oper) (k:Nat) (col:List AV):Option (AV×List Prop) :=
 match rest.any (Nat.beq k),hit (R.getD k []) rest with
 | false,false=>(match done.any (Nat.beq k),done.any (fun W=>(R.getD W []).any (Nat.beq k)) with
  | false,false=>(match sk P ops ⟨jc ops col (ba o)++kept,H⟩ o (gl hs k) with
   | some (x,C)=>(match first,hit (R.getD k []) last with
    | false,false=>some (x,(old.getD k .dead=x)::C)
    | _,_=>some (x,C))
   | none=>none)
  | _,_=>some (old.getD k .dead,[]))
 | _,_=>some (.dead,[])
def xZ (P:Program) (ops:List Oper) (hs:List (Nat×Hint)) (R:List (List Nat)) (done rest last:List Nat) (first:Bool) (old:List AV) (kept:List (Nat×AV)) (H:List (Nat×Row)):List Oper->Nat->List AV->Option (List AV×List Prop)
 | [],_,col=>some (col,[])
 | o::l,k,col=>match qa P ops hs R done rest last first old kept H o k col with
  | some (x,C)=>(match xZ P ops hs R done rest last first old kept H l (k+1) (col++ [x]) with|some (col',D)=>some (col',C++D)|none=>none)
  | none=>none
theorem jo {P:Program} {ops:List Oper} {hs:List (Nat×Hint)} {R:List (List Nat)} {done rest last:List Nat} {first:Bool} {old:List AV} {kept:List (Nat×AV)} {H:List (Nat×Row)}:∀(l:List Oper) (i:Nat) (col col':List AV) (C:List Prop),xZ P ops hs R done rest last first old kept H l i col=some (col',C)->bu C->col.length=i ->
  col'.length=i+l.length∧col'.take i=col∧ ∀(j:Nat) (o:Oper),l[j]?=some o-> ∃x D,col'[i+j]?=some x∧bu D∧qa P ops hs R done rest last first old kept H o (i+j) (col'.take (i+j))=some (x,D)
 | [],i,col,col',C,he,hC,hl=>by
  cases he
  exact ⟨by simp [hl],by rw [←hl,List.take_length],fun j o h=>by simp at h⟩
 | o::l,i,col,col',C,he,hC,hl=>by
  simp only [xZ] at he
  split at he
  ·rename_i x C1 h1
   split at he
   ·rename_i VC D h2
    cases he
    obtain ⟨iz,hD⟩:=bM.1 hC
    obtain ⟨e1,e2,e3⟩:=jo l (i+1) (col++ [x]) col' D h2 hD (by simp [hl])
    have e4:col'.take i=col:=by
     have:=congrArg (List.take i) e2
     rw [List.take_take,Nat.min_eq_left ah,←hl,List.take_left] at this
     rw [←hl];exact this
    have e5:col'[i]?=some x:=by
     have h3:(col'.take (i+1))[i]?=some x:=by rw [e2,List.getElem?_append_right ah,hl];simp
     exact bT _ _ _ _ h3
    refine ⟨by rw [e1,List.length_cons];omega,e4,fun j p hp=>?_⟩
    cases j with
    | zero =>
     simp at hp;subst hp
     exact ⟨x,C1,by simpa using e5,iz,by simp only [Nat.add_zero];rw [e4];exact h1⟩
    | succ j =>
     obtain ⟨y,D',h5,h6,h7⟩:=e3 j p (by simpa using hp)
     rw [show i+1+j=i+(j+1) by omega] at h5 h7
     exact ⟨y,D',h5,h6,h7⟩
   ·cases he
  ·cases he
def gY:List Nat->AV->AV
 | [],x=>x
 | i::l,x=>gY l (jA i x)
theorem iG:∀(l:List Nat) (F F':List (Nat×AV)) (H:List (Nat×Row)),(aR ⟨F,H⟩ l).F=dE (gY l) F∧(aR ⟨F,H⟩ l).H=(aR ⟨F',H⟩ l).H
 | [],F,F',H=>⟨by
   show F=dE (fun x=>x) F
   induction F with
   | nil=>rfl
   | cons p F ih=>obtain ⟨k,x⟩:=p;simp only [dE,←ih],rfl⟩
 | i::l,F,F',H=>by
  obtain ⟨h1,h2⟩:=iG l (dE (jA i) F) (dE (jA i) F') (dE (dr i) (cF H i))
  refine ⟨?_,h2⟩
  show (aR ⟨dE (jA i) F,dE (dr i) (cF H i)⟩ l).F=_
  rw [h1,lK];rfl
def m6 (F:List (Nat×AV)):List Operand->Bool
 | []=>true
 | x::l=>match tQ F x with|true=>m6 F l|false=>false
def oy (s:AS) (x y:Operand):Bool :=
 match bj s x with
 | .addr id _=>(match look s.H id with
  | some r=>(match r.pure,n0 (bj s y) with
   | false,_=>true
   | true,[]=>true
   | _,_=>false)
  | none=>false)
 | _=>false
def Ok (P:Program) (n:Nat) (s:AS) (o:Oper) (h:Hint):Option ((AV->AV)×AV×List (Nat×Row)×List Prop) :=
 match o.guard,o.op,o.dst with
 | none,.call ⟨.builtin .append,⟨[x,y]⟩,⟨[t,xt]⟩⟩,some d=>(match tQ s.F x,tQ s.F y,kK P n s d t xt (bj s x) (bj s y) h with
  | true,true,some (q,C)=>some (Ja d (bj s x),.ref d,q.H,C)
  | _,_,_=>none)
 | none,.alloc t,some d=>(match nO P n s d t h with
  | some (q,C)=>some (jA d,.addr d 0,q.H,C)
  | none=>none)
 | none,.call ⟨.value (.func f),xs,_⟩,some d=>(match h.ln,h.av,m6 s.F xs.toList,((xs.toList.map (bj s)).flatMap n0).filter fun i=> !(zz i (h.ln.map (·.1))) with
  | _::_,some r,true,[]=>(match nN P n s (some d) (.value (.func f)) xs.toList h with
   | some (q,C)=>some (fun x=>gY ((bG d r).2.map (·.1)) (gY (eQ h.ln) x),(bG d r).1,q.H,C)
   | none=>none)
  | [],some r,true,I=>(match h.b || I.isEmpty,q8 P n s (some d) (.value (.func f)) xs.toList h with
   | true,some (q,C)=>some (gY ((bG d r).2.map (·.1)),(bG d r).1,q.H,C)
   | _,_=>none)
  | _,_,_,_=>none)
 | none,.store t x y,none=>(match tQ s.F x,tQ s.F y,oy s x y,kH P s t x y h with
  | true,true,true,some (q,C)=>some (fun x=>x,.dead,q.H,C)
  | _,_,_,_=>none)
 | none,.buildSlice t len ⟨parts⟩,some d=>(match m6 s.F (parts.map (·.2)),parts.flatMap (fun p=>n0 (bj s p.2)) with
  | true,[]=>(match uJ P n s d t len parts h with
   | some (q,C)=>some (jA d,.ref d,q.H,C)
   | none=>none)
  | _,_=>none)
 | _,_,_=>none
def vk (d:Option Nat) (X:AV) (F:List (Nat×AV)):List (Nat×AV):=match d with|some d=>(d,X)::cF F d|none=>F
theorem DE:∀(F:List (Nat×AV)),dE (fun x=>x) F=F
 | []=>rfl
 | (k,x)::F=>by simp only [dE,DE F]
theorem Bi {P:Program} {F F':List (Nat×AV)} {H:List (Nat×Row)} {t:TypeId} {x y:Operand} {h:Hint} {q:AS} {C:List Prop} (dI:oy ⟨F,H⟩ x y=true) (ex:bj ⟨F',H⟩ x=bj ⟨F,H⟩ x) (ey:bj ⟨F',H⟩ y=bj ⟨F,H⟩ y) (he:kH P ⟨F,H⟩ t x y h=some (q,C)):kH P ⟨F',H⟩ t x y h=some (⟨F',q.H⟩,C):=by
 unfold kH at he ⊢
 unfold oy at dI
 rw [ex,ey]
 split at dI
 ·rename_i id off hx
  split at dI
  ·rename_i r hr
   have hr:look H id=some r:=hr
   cases hz:dN P t with
   | none=>simp only [hx,hr,hz] at he;cases he
   | some z =>
    simp only [hx,hr,hz] at he ⊢
    split at dI
    ·rename_i hp
     rw [hp] at he ⊢
     simp only at he ⊢
     split at he
     ·rename_i l hl
      split at he
      ·rename_i h1 h2
       cases he
       rfl
      ·cases he
     ·cases he
    ·rename_i hp hi
     rw [hp,hi] at he ⊢
     simp only [fB,hr,hx,ex,ey] at he ⊢
     split at he
     ·rename_i r1 l oM BI Pa hl hid
      cases Pa;cases hid
      split at he
      ·rename_i h1 h2 h3 h4
       cases he
       rfl
      ·cases he
     ·cases he
    ·cases dI
  ·cases dI
 ·cases dI
theorem tP {F F':List (Nat×AV)} {H:List (Nat×Row)} (hF:∀i x,look F i=some x->look F' i=some x):∀ {l:List Operand},m6 F l=true->l.map (bj ⟨F',H⟩)=l.map (bj ⟨F,H⟩)
 | [],_=>rfl
 | x::l,h=>by
  simp only [m6] at h
  split at h
  ·rename_i hx
   rw [List.map_cons,List.map_cons,l8 (H:=H) hF hx,tP hF h]
  ·cases h
theorem mc {F F':List (Nat×AV)} {H:List (Nat×Row)} {z:Nat} (hF:∀i x,look F i=some x->look F' i=some x):∀(l:List (Nat×Operand)) (i:Nat),m6 F (l.map (·.2))=true->fN ⟨F',H⟩ z i l=fN ⟨F,H⟩ z i l∧l.flatMap (fun p=>n0 (bj ⟨F',H⟩ p.2))=l.flatMap (fun p=>n0 (bj ⟨F,H⟩ p.2))
 | [],_,_=>⟨rfl,rfl⟩
 | (j,x)::l,i,h=>by
  simp only [List.map_cons,m6] at h
  split at h
  ·rename_i hx
   obtain ⟨h1,h2⟩:=mc (H:=H) (z:=z) hF l (i+1) h
   have ex:=l8 (H:=H) hF hx
   refine ⟨?_,?_⟩
   ·simp only [fN,ex,h1]
   ·simp only [List.flatMap_cons,ex,h2]
  ·cases h
theorem Hg {P:Program} {n d t len:Nat} {F F':List (Nat×AV)} {H:List (Nat×Row)} {l:List (Nat×Operand)} {h:Hint} {q:AS} {C:List Prop} (hF:∀i x,look F i=some x->look F' i=some x) (ho:m6 F (l.map (·.2))=true) (hi:l.flatMap (fun p=>n0 (bj ⟨F,H⟩ p.2))= []) (he:uJ P n ⟨F,H⟩ d t len l h=some (q,C)) :
  uJ P n ⟨F',H⟩ d t len l h=some (⟨(d,.ref d)::cF (dE (jA d) F') d,q.H⟩,C):=by
 have hc:∀z,fN ⟨F',H⟩ z 0 l=fN ⟨F,H⟩ z 0 l:=fun z=>(mc hF l 0 ho).1
 have i6:=(mc (z:=0) (H:=H) hF l 0 ho).2
 rw [hi] at i6
 unfold uJ at he ⊢
 rw [hi] at he
 rw [i6]
 simp only [fB] at he ⊢
 split at he
 ·rename_i el hu
  split at he
  ·rename_i z zero s1 hz hzero gI
   cases gI
   try simp only [hz,hzero,hc]
   split at he
   ·rename_i cells h1 h2 h3
    try simp only [h1,h2,h3]
    split at he
    ·rename_i h4
     try simp only [h4]
     split at he
     ·rename_i row M4
      try simp only [M4]
      split at he
      ·rename_i s' hp bU
       cases he
       unfold fZ at bU ⊢
       try simp only [hp] at bU ⊢
       split at bU
       ·cases bU
        rfl
       ·cases bU
      ·cases he
     ·rename_i M4
      split at he
      ·rename_i s' hp bU
       cases he
       unfold fZ at bU ⊢
       try simp only [hp] at bU ⊢
       split at bU
       ·cases bU
        rfl
       ·cases bU
      ·cases he
    ·cases he
   ·cases he
  ·cases he
 ·cases he
theorem Ik {P:Program} {n:Nat} {F:List (Nat×AV)} {H H':List (Nat×Row)} {o:Oper} {h:Hint} {Tr:AV->AV} {X:AV} {C:List Prop} (dF:Ok P n ⟨F,H⟩ o h=some (Tr,X,H',C)) :
  o.guard=none∧ ∀F',(∀i x,look F i=some x->look F' i=some x)->lV P n ⟨F',H⟩ o ⟨vk o.dst X (dE Tr F'),H'⟩ C:=by
 unfold Ok at dF
 split at dF
 ·rename_i x y t xt d hg u7 hd
  split at dF
  ·rename_i q C' h1 h2 h3
   cases dF
   refine ⟨hg,fun F' hF=>?_⟩
   rw [hd]
   simp only [vk]
   have Pw:=I_ (F':=F') h3
   have ex:=l8 (H:=H) hF h1
   have ey:=l8 (H:=H) hF h2
   rw [←ey,←ex] at Pw
   have:=rU (n:=n) (s:=⟨F',H⟩) u7 hd Pw
   rw [ex] at this
   exact this
  ·cases dF
 ·rename_i t d hg u7 hd
  split at dF
  ·rename_i q C' h1
   cases dF
   refine ⟨hg,fun F' hF=>?_⟩
   rw [hd]
   simp only [vk]
   have h2:nO P n ⟨F',H⟩ d t h=some (⟨(d,.addr d 0)::cF (dE (jA d) F') d,q.H⟩,C):=by
    unfold nO at h1 ⊢
    split at h1
    ·split at h1
     ·split at h1
      ·rename_i s' bU
       cases h1
       unfold fZ at bU ⊢
       simp only at bU ⊢
       split at bU
       ·cases bU;rfl
       ·cases bU
      ·cases h1
     ·split at h1
      ·rename_i s' bU
       cases h1
       unfold fZ at bU ⊢
       simp only at bU ⊢
       split at bU
       ·cases bU;rfl
       ·cases bU
      ·cases h1
    ·cases h1
   exact uO (s:=⟨F',H⟩) u7 hd h2
  ·cases dF
 ·rename_i f xs ts d hg u7 hd
  split at dF
  ·rename_i p l r Kw M4 HN Ky
   split at dF
   ·rename_i q C' h1
    cases dF
    refine ⟨hg,fun F' hF=>?_⟩
    rw [hd]
    simp only [vk]
    have eo:=tP (H:=H) hF HN
    have h2:nN P n ⟨F',H⟩ (some d) (.value (.func f)) xs.toList h=some (⟨(d,(bG d r).1)::cF (dE (fun x=>gY ((bG d r).2.map (·.1)) (gY (eQ h.ln) x)) F') d,q.H⟩,C):=by
     unfold nN at h1 ⊢
     rw [eo]
     simp only [M4,callee] at h1 ⊢
     rw [Ky] at h1 ⊢
     simp only [fB] at h1 ⊢
     split at h1
     ·rename_i s1 hE gI
      cases gI
      split at h1
      ·rename_i Hl Hb C2 g1 g2 g3 g4
       have Vw:iJ ⟨F',H⟩ h.ln h.ln=some Hl:=by
        have key:∀(ρ l:List (Nat×Nat)),iJ ⟨F',H⟩ ρ l=iJ ⟨F,H⟩ ρ l:=by
         intro ρ l
         induction l with
         | nil=>rfl
         | cons p l ih=>obtain ⟨c,k⟩:=p;simp only [iJ,ih]
        rw [key];exact g1
       have Vv:pa ⟨F',H⟩ h.ho h.ln=some C2:=by
        have key:∀(l:List (Nat×Nat)),pa ⟨F',H⟩ h.ho l=pa ⟨F,H⟩ h.ho l:=by
         intro l
         induction l with
         | nil=>rfl
         | cons p l ih=>obtain ⟨c,k⟩:=p;simp only [pa,ih]
        rw [key];exact g4
       rw [hE]
       simp only
       rw [Vw,g2,g3,Vv]
       simp only
       have em:(xs.toList.map fun x=>rD h.ln (bj ⟨F',H⟩ x))=xs.toList.map fun x=>rD h.ln (bj ⟨F,H⟩ x):=by
        have:=congrArg (List.map (rD h.ln)) eo
        rwa [List.map_map,List.map_map] at this
       rw [em]
       have eB:∀F0,iZ ⟨F0,H⟩ h.ln Hb=⟨dE (gY (eQ h.ln)) F0,Hb++oR (aR ⟨F,H⟩ (eQ h.ln)).H (h.ln.map (·.1))⟩:=fun F0=>by
        unfold iZ
        rw [(iG (eQ h.ln) F0 F H).1,(iG (eQ h.ln) F0 F H).2]
       rw [eB] at h1 ⊢
       split at h1
       ·rename_i s' wh dL
        cases h1
        have eR:=fun F0=>iG ((bG d r).2.map (·.1)) F0 (dE (gY (eQ h.ln)) F) (Hb++oR (aR ⟨F,H⟩ (eQ h.ln)).H (h.ln.map (·.1)))
        rw [wh,(eR (dE (gY (eQ h.ln)) F')).1,(eR (dE (gY (eQ h.ln)) F')).2]
        unfold fZ at dL ⊢
        simp only at dL ⊢
        split at dL
        ·cases dL
         simp only [k9,lK]
        ·cases dL
       ·cases h1
      ·cases h1
     ·cases h1
    have MJ:o.op= .call ⟨.value (.func f),xs,ts⟩:=u7
    rw [←hd] at h2
    exact uN (s:=⟨F',H⟩) MJ h2
   ·cases dF
  ·rename_i x4 r Kw M4 HN
   split at dF
   ·rename_i q C' hb h1
    cases dF
    refine ⟨hg,fun F' hF=>?_⟩
    rw [hd]
    simp only [vk]
    have eo:=tP (H:=H) hF HN
    have eV:∀(l:List AV),jG ⟨F',H⟩ l=jG ⟨F,H⟩ l:=by
     intro l
     have e0:∀x,ju ⟨F',H⟩ x=ju ⟨F,H⟩ x:=fun x=>rfl
     have eL:∀(m:List AV),oc ⟨F',H⟩ m=oc ⟨F,H⟩ m:=by
      intro m
      induction m with
      | nil=>rfl
      | cons x m ih=>simp only [oc,ih,e0]
     have e1:∀x,view ⟨F',H⟩ x=view ⟨F,H⟩ x:=by
      intro x
      unfold view
      split
      ·rw [eL]
      ·rfl
     induction l with
     | nil=>rfl
     | cons x l ih=>simp only [jG,ih,e1]
    have eI:h.b=false->(xs.toList.map (bj ⟨F,H⟩)).flatMap n0= []:=fun e=>by
     rw [e,Kw] at hb
     have h0:((xs.toList.map (bj ⟨F,H⟩)).flatMap n0).isEmpty=true:=by
      have e9:∀l:List Nat,l.filter (fun i=> !(zz i (([]:List (Nat×Nat)).map (·.1))))=l:=fun l=>List.filter_eq_self.2 fun _ _=>rfl
      rw [e9] at hb
      exact hb
     exact List.isEmpty_iff.1 h0
    have h2:q8 P n ⟨F',H⟩ (some d) (.value (.func f)) xs.toList h=some (⟨(d,(bG d r).1)::cF (dE (gY ((bG d r).2.map (·.1))) F') d,q.H⟩,C):=by
     have eP:∀(F0:List (Nat×AV)) (s':AS),fZ n ⟨(aR ⟨F,H⟩ ((bG d r).2.map (·.1))).F,(bG d r).2++(aR ⟨F,H⟩ ((bG d r).2.map (·.1))).H⟩ (some d) (bG d r).1=some s'->fZ n ⟨(aR ⟨F',H⟩ ((bG d r).2.map (·.1))).F,(bG d r).2++(aR ⟨F',H⟩ ((bG d r).2.map (·.1))).H⟩ (some d) (bG d r).1=some ⟨(d,(bG d r).1)::cF (dE (gY ((bG d r).2.map (·.1))) F') d,s'.H⟩:=fun F0 s' dL=>by
      have eR:=fun F0=>iG ((bG d r).2.map (·.1)) F0 F H
      rw [(eR F').1,(eR F').2]
      unfold fZ at dL ⊢
      simp only at dL ⊢
      split at dL
      ·cases dL
       simp only [k9]
      ·cases dL
     unfold q8 at h1 ⊢
     rw [eo]
     cases qR:h.b with
     | true =>
      simp only [M4,callee,qR] at h1 ⊢
      rw [eV]
      split at h1
      ·rename_i hE
       split at h1
       ·rename_i vs C2 d0 hv vo wj
        cases wj
        split at h1
        ·rename_i s' wh dL
         cases h1
         rw [wh,eP F _ dL]
        ·cases h1
       ·rename_i wj
        cases wj
       ·cases h1
      ·cases h1
     | false =>
      simp only [M4,callee,qR,eI qR,fB] at h1 ⊢
      split at h1
      ·rename_i hE
       split at h1
       ·rename_i d0 vl wj
        cases wj
        split at h1
        ·rename_i s' wh dL
         cases h1
         rw [eo,vl]
         simp only
         rw [wh,eP F _ dL]
        ·cases h1
       ·rename_i wj
        cases wj
       ·cases h1
      ·cases h1
    have MJ:o.op= .call ⟨.value (.func f),xs,ts⟩:=u7
    rw [←hd] at h2
    exact wB (s:=⟨F',H⟩) MJ h2
   ·cases dF
  ·cases dF
 ·rename_i t x y hg u7 hd
  split at dF
  ·rename_i q C' h1 h2 h3 h4
   cases dF
   refine ⟨hg,fun F' hF=>?_⟩
   rw [hd]
   simp only [vk,DE]
   have h5:=Bi (F':=F') h3 (l8 (H:=H) hF h1) (l8 (H:=H) hF h2) h4
   exact rR (s:=⟨F',H⟩) u7 hd h5
  ·cases dF
 ·rename_i t len parts d hg u7 hd
  split at dF
  ·rename_i h1 h2
   split at dF
   ·rename_i q C' h3
    cases dF
    refine ⟨hg,fun F' hF=>?_⟩
    rw [hd]
    exact AJ (s:=⟨F',H⟩) u7 hd (Hg hF h1 h2 h3)
   ·cases dF
  ·cases dF
 ·cases dF
def xD (P:Program) (ops:List Oper) (n:Nat) (s:AS) (o:Oper) (h:Hint):Option ((AV->AV)×AV×List (Nat×Row)×List Prop) :=
 match o.guard with
 | none=>Ok P n s o h
 | some (j,want)=>(match ops[j]? with
  | some p=>(match p.dst with
   | some d=>(match jI s d,h.g == want,tQ s.F (.tmp d),Ok P n s {o with guard:=none} h with
    | .val (.bool b),true,true,some (Tr,X,H',C)=>some (Tr,X,H',(b=h.g)::C)
    | _,_,_,_=>none)
   | none=>none)
  | none=>none)
theorem KS {P:Program} {ops:List Oper} {n:Nat} {F:List (Nat×AV)} {H H':List (Nat×Row)} {o:Oper} {h:Hint} {Tr:AV->AV} {X:AV} {C:List Prop} (dF:xD P ops n ⟨F,H⟩ o h=some (Tr,X,H',C)) (hC:bu C) {F':List (Nat×AV)} (hF:∀i x,look F i=some x->look F' i=some x) {S0:bf} {w0 w:World} {a:Act} (hs:ib S0 w0 n ⟨F',H⟩ a w) :
  Region.wanted o (yielded ops.toArray a.tmps)=true∧lV P n ⟨F',H⟩ o ⟨vk o.dst X (dE Tr F'),H'⟩ []:=by
 unfold xD at dF
 split at dF
 ·rename_i hg
  obtain ⟨-,DQ⟩:=Ik dF
  refine ⟨by unfold Region.wanted;rw [hg],fun _=>DQ F' hF hC⟩
 ·rename_i j want hg
  split at dF
  ·rename_i p hp
   split at dF
   ·rename_i d hd
    split at dF
    ·rename_i b QL X' Wm C' qR hw US he
     cases dF
     obtain ⟨Aj,hC⟩:=hC
     obtain ⟨-,DQ⟩:=Ik he
     refine ⟨?_,fun _=>DQ F' hF hC⟩
     obtain ⟨φ,hs⟩:=hs
     have ht:=hs.get d
     have e:jI ⟨F',H⟩ d=jI ⟨F,H⟩ d:=l8 (H:=H) hF US
     rw [e,qR] at ht
     have hy:=lX (ops:=ops) hp hd (pY ht)
     unfold Region.wanted;rw [hg];simp only [hy,Aj]
     have:h.g=want:=by simpa using hw
     rw [this];simp
    ·cases dF
   ·cases dF
  ·cases dF
theorem v8 {od:Option Nat} {i:Nat} {X:AV} {Tr:AV->AV} {F:List (Nat×AV)} (h:od≠some i):look (vk od X (dE Tr F)) i=(look F i).map Tr:=by
 cases od with
 | none=>exact b7 _ _ _
 | some d =>
  have cK:d≠i:=fun e=>h (by rw [e])
  simp only [vk]
  rw [aB,if_neg cK,xh cK]
section
variable {P:Program} {ops:List Oper} {S0:bf} {w0:World} {Q:Exit->Act->World->Prop} {n T:Nat} {col col':List AV} {kept:List (Nat×AV)} {H H':List (Nat×Row)} {L:Nat->Bool} {k:Nat} {o:Oper}
theorem vH {h:Hint} {Tr:AV->AV} {X:AV} {C:List Prop} {a:Act} {w:World} (g_:(ops.filterMap (·.dst)).Nodup)
  (hk:k<T) (ho:ops[k]?=some o) (E_:∀d∈ba o,L d=true∧d<T) (fb:∀i x,look kept i=some x-> ∀j p,j<T->ops[j]?=some p->p.dst≠some i)
  (dF:xD P ops n ⟨jc ops col (ba o)++kept,H⟩ o h=some (Tr,X,H',C)) (hC:bu C)
  (vp:∀j z,j<T->j≠k->L j=true->col'[j]?=some z->col[j]?.map Tr=some z∨z= .dead) (PB:col'[k]?=some X)
  (hs:ib S0 w0 n ⟨dp ops col L T++kept,H⟩ a w) :
  if Region.wanted o (yielded ops.toArray a.tmps)=true then o.wp P a w (fun a' w'=>ib S0 w0 n ⟨dp ops col' (eg L k) T++dE Tr kept,H'⟩ a' w') Q else ib S0 w0 n ⟨dp ops col' (eg L k) T++dE Tr kept,H'⟩ (a.put o.dst undef) w:=by
 have hF:=zC (T:=T) g_ E_ fb (col:=col)
 obtain ⟨hw,ok⟩:=KS dF hC hF hs
 rw [if_pos hw]
 refine Oper.wp_mono ?_ (ok trivial S0 w0 a w Q hs)
 rintro a' w' ⟨φ,bU⟩
 refine ⟨φ,aH.sub bU fun i z hz=>?_⟩
 rw [bI] at hz
 cases hl:look (dp ops col' (eg L k) T) i with
 | some z' =>
  rw [hl] at hz
  simp at hz;subst hz
  obtain ⟨j,p,h1,h2,h3,h4,h5⟩:=kA _ _ _ _ _ _ hl
  by_cases vn:j=k
  ·subst vn
   rw [ho] at h3;injection h3 with h3;subst h3
   rw [PB] at h5;injection h5 with h5;subst h5
   left
   rw [h4];simp only [vk];rw [aB,if_pos rfl]
  ·have QC:L j=true:=by unfold eg at h2;rw [if_neg vn] at h2;exact h2
   have cK:o.dst≠some i:=fun e=>vn (nQ (ops:=ops.toArray) (by simpa using g_) (by simpa using h3) (by simpa using ho) h4 e)
   rcases vp j z' h1 vn QC h5 with hc|hc
   ·left
    rw [v8 cK,bI]
    cases R1:col[j]? with
    | none=>rw [R1] at hc;cases hc
    | some y' =>
     rw [R1] at hc
     rw [gi g_ col L T j i p y' h1 QC h3 h4 R1]
     simpa using hc
   ·exact .inr hc
 | none =>
  rw [hl] at hz
  simp at hz
  rw [b7] at hz
  cases sg:look kept i with
  | none=>rw [sg] at hz;cases hz
  | some y' =>
   rw [sg] at hz
   have cK:o.dst≠some i:=fun e=>fb i y' sg k o hk ho e
   left
   rw [v8 cK,bI,i4 fun j p hj hp=>fb i y' sg j p hj hp,sg]
   simpa using hz
end
theorem rb (ops:List Oper) (col:List AV) (k:Nat):∀(l:List Nat),(∀d∈l,d<k)->jc ops (col.take k) l=jc ops col l
 | [],_=>rfl
 | d::l,h=>by
  have hd:(col.take k)[d]?=col[d]?:=by rw [List.getElem?_take,if_pos (h d (by simp))]
  simp only [jc,hd,rb ops col k l fun e he=>h e (by simp [he])]
instance:Inhabited nz:=⟨⟨[],[],[]⟩⟩
def nr (P:Program) (n T:Nat) (ops:List Oper) (hs:List (Nat×Hint)) (R:List (List Nat)):List Nat->List Nat->List Nat->Bool->List AV->List (Nat×AV)->List (Nat×Row)->Option (List nz×List Prop)
 | [],done,last,first,old,kept,H=>(match xZ P ops hs R done [] last first old kept H (ops.take T) 0 [] with
  | some (col,C)=>some ([⟨col,kept,H⟩],C)
  | none=>none)
 | W::rest,done,last,first,old,kept,H=>(match xZ P ops hs R done (W::rest) last first old kept H (ops.take T) 0 [],ops[W]? with
  | some (col,C),some o=>(match xD P ops n ⟨jc ops col (ba o)++kept,H⟩ o (gl hs W) with
   | some (Tr,x,H',D)=>(match nr P n T ops hs R rest (done++ [W]) [W] false ((col.map Tr).set W x) (dE Tr kept) H' with
    | some (l,E)=>some (⟨col,kept,H⟩::l,C++(D++E))
    | none=>none)
   | none=>none)
  | _,_=>none)
def Jj (P:Program) (T:Nat) (ops:List Oper) (hs:List (Nat×Hint)) (R:List (List Nat)) (rest done last:List Nat) (first:Bool) (old:List AV) (st:nz):Prop :=
 ∃C,xZ P ops hs R done rest last first old st.kept st.H (ops.take T) 0 []=some (st.col,C)∧bu C
theorem vI {P:Program} {n T:Nat} {ops:List Oper} {hs:List (Nat×Hint)} {R:List (List Nat)}:∀(rest done last:List Nat) (first:Bool) (old:List AV) (kept:List (Nat×AV)) (H:List (Nat×Row)) (l:List nz) (E:List Prop),
  nr P n T ops hs R rest done last first old kept H=some (l,E)->bu E ->
  (l.getD 0 default).kept=kept∧(l.getD 0 default).H=H∧Jj P T ops hs R rest done last first old (l.getD 0 default) ∧
  ∀(i W:Nat),rest[i]?=some W-> ∃o Tr x D,ops[W]?=some o∧xD P ops n ⟨jc ops (l.getD i default).col (ba o)++(l.getD i default).kept,(l.getD i default).H⟩ o (gl hs W)=some (Tr,x,(l.getD (i+1) default).H,D)∧bu D ∧
   (l.getD (i+1) default).kept=dE Tr (l.getD i default).kept∧Jj P T ops hs R (rest.drop (i+1)) (done++rest.take (i+1)) [W] false (((l.getD i default).col.map Tr).set W x) (l.getD (i+1) default)
 | [],done,last,first,old,kept,H,l,E,he,hE=>by
  simp only [nr] at he
  split at he
  ·rename_i col C hc
   cases he
   exact ⟨rfl,rfl,⟨_,hc,hE⟩,fun i W h=>by simp at h⟩
  ·cases he
 | W::rest,done,last,first,old,kept,H,l,E,he,hE=>by
  simp only [nr] at he
  split at he
  ·rename_i col C o hc ho
   split at he
   ·rename_i Tr x H' D hw
    split at he
    ·rename_i l' E' MH
     cases he
     obtain ⟨hC,Sj⟩:=bM.1 hE
     obtain ⟨hD,Si⟩:=bM.1 Sj
     obtain ⟨h1,h2,h3,h4⟩:=vI rest _ _ _ _ _ _ _ _ MH Si
     refine ⟨rfl,rfl,⟨_,hc,hC⟩,fun i W' hi=>?_⟩
     cases i with
     | zero =>
      simp at hi;subst hi
      exact ⟨o,Tr,x,D,ho,by rw [←h2] at hw;exact hw,hD,h1,by simpa using h3⟩
     | succ i =>
      obtain ⟨o',QL,x',D',k1,k2,k3,k4,k5⟩:=h4 i W' (by simpa using hi)
      refine ⟨o',QL,x',D',k1,k2,k3,k4,?_⟩
      have e:done++(W::rest).take (i+1+1)=done++ [W]++rest.take (i+1):=by simp
      rw [e]
      exact k5
    ·cases he
   ·cases he
  ·cases he
def uW (R:List (List Nat)):List Nat->Bool
 | []=>true
 | [_]=>true
 | a::b::l=>match (R.getD b []).any (Nat.beq a) with|true=>uW R (b::l)|false=>false
theorem ri (R:List (List Nat)):∀(l:List Nat),uW R l=true-> ∀(i a b:Nat),l[i]?=some a->l[i+1]?=some b->a∈R.getD b []
 | [],_,i,a,b,h,_=>by simp at h
 | [x],_,i,a,b,h,h2=>by simp at h2
 | x::y::l,hc,i,a,b,h,h2=>by
  simp only [uW] at hc
  split at hc
  ·rename_i hy
   cases i with
   | zero=>simp at h h2;subst h;subst h2;exact any_beq.1 hy
   | succ i=>exact ri R (y::l) hc i a b (by simpa using h) (by simpa using h2)
  ·cases hc
def wE (T:Nat):List Nat->Bool
 | []=>true
 | a::l=>match Nat.blt a T with|true=>wE T l|false=>false
theorem qe (T:Nat):∀(l:List Nat),wE T l=true-> ∀a∈l,a<T
 | [],_,a,h=>by cases h
 | x::l,hc,a,h=>by
  simp only [wE] at hc
  split at hc
  ·rename_i hx
   rcases List.mem_cons.1 h with rfl|h
   ·simpa [Nat.blt_eq] using hx
   ·exact qe T l hc a h
  ·cases hc
def xN (P:Program) (n T:Nat) (Ws:List Nat) (ops:List Oper) (hs:List (Nat×Hint)) (s:AS):Option (AS×List Prop) :=
 match P.follows .mixedOrders,lk ops.toArray n,og ops.toArray T,uW (l5 (ops.take T) []) Ws,wE T Ws,nodupB Ws with
 | true,true,true,true,true,true=>(match nr P n T ops hs (l5 (ops.take T) []) Ws [] [] true [] (nc ((ops.take T).filterMap (·.dst)) s.F) s.H with
  | some (l,C)=>(match jS P n ops hs (ops.drop T) T ⟨iX (ops.take T) (l.getD Ws.length default).col++(l.getD Ws.length default).kept,(l.getD Ws.length default).H⟩ with
   | some (s',D)=>some (s',C++D)
   | none=>none)
  | none=>none)
 | _,_,_,_,_,_=>none
theorem lI:∀ {l:List Nat},l.Nodup-> ∀ {i j x:Nat},l[i]?=some x->l[j]?=some x->i=j
 | [],_,i,j,x,h,_=>by simp at h
 | y::l,hn,i,j,x,h1,h2=>by
  rw [List.nodup_cons] at hn
  cases i with
  | zero =>
   cases j with
   | zero=>rfl
   | succ j =>
    simp at h1 h2;subst h1
    exact absurd (List.mem_of_getElem? h2) hn.1
  | succ i =>
   cases j with
   | zero =>
    simp at h1 h2;subst h2
    exact absurd (List.mem_of_getElem? h1) hn.1
   | succ j=>exact congrArg (· +1) (lI hn.2 (i:=i) (j:=j) (x:=x) (by simpa using h1) (by simpa using h2))
theorem mS (ops:List Oper) (col:List AV) (L:Nat->Bool) (hL:∀k,L k=false):∀T,dp ops col L T= []
 | 0=>rfl
 | k+1=>by simp only [dp,hL k,mS ops col L hL k]
theorem j6 {col:List AV} {Tr:AV->AV} {W:Nat} {x:AV} {q:Nat} (hq:q≠W) {z:AV} (h:((col.map Tr).set W x).getD q .dead=z):col[q]?.map Tr=some z∨z= .dead:=by
 rw [List.getD_eq_getElem?_getD,List.getElem?_set_ne (Ne.symm hq),List.getElem?_map] at h
 cases hc:col[q]? with
 | none=>rw [hc] at h;exact .inr h.symm
 | some y=>rw [hc] at h;left;simpa using h
section
variable {P:Program} {ops:List Oper} {S0:bf} {w0:World} {Q:Exit->Act->World->Prop}
theorem Cn {n T:Nat} {Ws:List Nat} {hs:List (Nat×Hint)} {s s':AS} {C:List Prop} (he:xN P n T Ws ops hs s=some (s',C)) (hC:bu C) {a:Act} {w:World} (fS:ib S0 w0 n s a w) (hQ:∀a' w',ib S0 w0 n s' a' w'->Q .normal a' w'):P.follows .mixedOrders=true∧wpAny P .any ops.toArray Q ops.toArray.size (Array.replicate ops.toArray.size false) a {w with drawn:=w.drawn+1}:=by
 unfold xN at he
 split at he
 ·rename_i hm hB hT A_ MK Kv
  split at he
  ·rename_i l C1 dI
   split at he
   ·rename_i s2 D ot
    cases he
    obtain ⟨iz,hD⟩:=bM.1 hC
    obtain ⟨sK,g_,u9⟩:=fI hB
    have xo:(ops.filterMap (·.dst)).Nodup:=by simpa using g_
    unfold og at hT
    simp only [Bool.and_eq_true,decide_eq_true_eq] at hT
    obtain ⟨⟨⟨FX,KL⟩,KK⟩,KJ⟩:=hT
    have R5:T<ops.length:=by simpa using FX
    have B1:∀(k:Nat) (o:Oper),ops[k]?=some o-> ∀d∈ba o,d<k:=fun k o h=>sK k o (by simpa using h)
    have MM:∀(k:Nat) (o:Oper) (s:Nat),ops[k]?=some o->o.dst=some s->s<n:=fun k o s h=>u9 k o s (by simpa using h)
    generalize R9:l5 (ops.take T) []=R at dI A_
    have hR:sV ops R:=by
     rw [←R9]
     refine qy ops (ops.take T) [] (fun k o _ L _ _ j hj=>by simp at hj) (fun j o h=>?_) B1
     simpa using bT _ _ _ _ h
    obtain ⟨xq,M9,M3,pF⟩:=vI _ _ _ _ _ _ _ _ _ dI iz
    have MK:=qe T Ws MK
    have Kv:=im Kv
    generalize ME:(fun i=>l.getD i default)=st at *
    have P_:∀i,l.getD i default=st i:=fun i=>by rw [←ME]
    simp only [P_] at xq M9 M3 pF ot
    have fb:∀i,i≤Ws.length-> ∀(k:Nat) (x:AV),look (st i).kept k=some x-> ∀(j:Nat) (p:Oper),j<T->ops[j]?=some p->p.dst≠some k:=by
     intro i
     induction i with
     | zero =>
      intro _ k x hx j p hj hp
      rw [xq] at hx
      exact (kf ops T k).1 (fG _ _ _ _ hx).2 j p hj hp
     | succ i ih =>
      intro hi k x hx
      obtain ⟨o,Tr,X,D',-,-,-,k4,-⟩:=pF i (Ws[i]' ah) (List.getElem?_eq_getElem ah)
      rw [k4,b7] at hx
      cases hl:look (st i).kept k with
      | none=>rw [hl] at hx;cases hx
      | some y=>exact ih ah k y hl
    have vp:∀i,i≤Ws.length-> ∃last first old,Jj P T ops hs R (Ws.drop i) (Ws.take i) last first old (st i):=by
     intro i hi
     cases i with
     | zero=>exact ⟨_,_,_,by simpa using M3⟩
     | succ i =>
      obtain ⟨o,Tr,X,D',-,-,-,-,k5⟩:=pF i (Ws[i]' ah) (List.getElem?_eq_getElem ah)
      exact ⟨_,_,_,by simpa using k5⟩
    let J:(Nat->Bool)->Act->World->Prop:=fun L a' w'=>∃i,i≤Ws.length∧(∀(j W:Nat),Ws[j]?=some W->(L W=true↔j<i))∧ib S0 w0 n ⟨dp ops (st i).col L T++(st i).kept,(st i).H⟩ a' w'
    obtain ⟨φ,lr⟩:=fS
    refine ⟨hm,mP (n:=n) FX KL KK KJ hB J ?_ ?_ ops.toArray.size _ a _ ⟨by simp,fun k o hk=>?_⟩ ?_ (fun j _=>by rw [getD_replicate_false]) (by simp)⟩
    ·intro k o L a' w' hk ho An iY xu z_ ⟨i,hi,hW,fS⟩
     have qN:ops[k]?=some o:=by simpa using ho
     have gw:∀(j:Nat) (p:Oper),L j=true->ops[j]?=some p-> ∀d∈ba p,L d=true:=fun j p hj hp=>xu j p hj (by simpa using hp)
     have oO:∀j∈R.getD k [],L j=true:=hR k o qN L gw iY
     have pH:∀q,L q=true-> ∀j∈R.getD q [],L j=true:=fun q hq j hj=>by
      cases HM:ops[q]? with
      | some p=>exact hR q p HM L gw (fun d hd=>gw q p hq HM d hd) j hj
      | none =>
       exfalso
       have h1:ops.length≤q:=List.getElem?_eq_none_iff.1 HM
       have:=z_ q ah
       rw [hq] at this;cases this
     have PA:∀d∈ba o,L d=true∧d<T:=fun d hd=>⟨iY d hd,by have:=B1 k o qN d hd;omega⟩
     have uj:∀i',i≤i'-> ∀q,(∀j∈R.getD q [],L j=true)->hit (R.getD q []) (Ws.drop i')=false:=by
      intro i' i6 q hq
      cases hh:hit (R.getD q []) (Ws.drop i') with
      | false=>rfl
      | true =>
       exfalso
       obtain ⟨x,h1,h2⟩:=nJ.1 hh
       obtain ⟨j,hj⟩:=List.mem_iff_getElem?.1 h2
       rw [List.getElem?_drop] at hj
       have:=(hW _ x hj).1 (hq x h1)
       omega
     by_cases Kx:k∈Ws
     ·obtain ⟨j,hj⟩:=List.mem_iff_getElem?.1 Kx
      have ML:j<Ws.length:=(List.getElem?_eq_some_iff.1 hj).1
      have LG:¬j<i:=fun h=>by have:=(hW j k hj).2 h;rw [An] at this;cases this
      have e:j=i:=by
       rcases Nat.lt_or_ge i j with h|h
       ·obtain ⟨j',rfl⟩:∃j',j=j'+1:=⟨j-1,ah⟩
        have Ko:Ws[j']?=some (Ws[j']' ah):=List.getElem?_eq_getElem ah
        have h1:=oO _ (ri R Ws A_ j' _ k Ko hj)
        have:=(hW j' _ Ko).1 h1
        omega
       ·omega
      subst e
      obtain ⟨o',Tr,x,D',k1,k2,k3,k4,Cc,k5,k6⟩:=pF j k hj
      rw [qN] at k1;cases k1
      simp only [List.nil_append] at k5
      obtain ⟨c1,c2,c3⟩:=jo _ 0 [] _ _ k5 k6 rfl
      simp only [Nat.zero_add] at c1 c3
      have R6:(ops.take T).length=T:=by rw [List.length_take];omega
      have NZ:k ∉ Ws.drop (j+1):=fun hm=>by
       obtain ⟨j2,sJ⟩:=List.mem_iff_getElem?.1 hm
       rw [List.getElem?_drop] at sJ
       have:=lI Kv hj sJ
       omega
      have RH:k∈Ws.take (j+1):=List.mem_iff_getElem?.2 ⟨j,by rw [List.getElem?_take,if_pos ah];exact hj⟩
      have hold:((((st j).col.map Tr).set k x).getD k .dead)=x:=by
       obtain ⟨last,first,old,Cd,Fb,KM⟩:=vp j hi
       obtain ⟨d1,-,-⟩:=jo _ 0 [] _ _ Fb KM rfl
       rw [Nat.zero_add,R6] at d1
       rw [List.getD_eq_getElem?_getD,List.getElem?_set_self (by rw [List.length_map];omega)];rfl
      have iL:=vH (P:=P) (S0:=S0) (w0:=w0) (Q:=Q) (n:=n) (T:=T) (col':=(st (j+1)).col) (L:=L) (a:=a') (w:=w') xo hk qN PA (fb j hi) k2 k3 (by
       intro q z hq Pc Sd hz
       have HM:(ops.take T)[q]?=some (ops[q]' ah):=by rw [List.getElem?_take,if_pos hq];exact List.getElem?_eq_getElem ah
       obtain ⟨x',D2,e1,e2,e3⟩:=c3 q _ HM
       rw [e1] at hz;injection hz with hz;subst hz
       unfold qa at e3
       split at e3
       ·split at e3
        ·split at e3
         ·rename_i xx CC dF
          split at e3
          ·cases e3
           exact j6 Pc e2.1
          ·rename_i gu
           exfalso
           cases hh:hit (R.getD q []) [k] with
           | false=>exact gu rfl hh
           | true =>
            obtain ⟨y,h1,h2⟩:=nJ.1 hh
            have:y=k:=by simpa using h2
            subst this
            have:=pH q Sd y h1
            rw [An] at this;cases this
         ·cases e3
        ·cases e3
         exact j6 Pc rfl
       ·cases e3
        exact .inr rfl) (by
       have DQ:(ops.take T)[k]?=some o:=by rw [List.getElem?_take,if_pos hk];exact qN
       obtain ⟨x',D2,e1,e2,e3⟩:=c3 k _ DQ
       rw [e1]
       unfold qa at e3
       have r1:(Ws.drop (j+1)).any (Nat.beq k)=false:=by
        cases hh:(Ws.drop (j+1)).any (Nat.beq k) with
        | false=>rfl
        | true=>exact absurd (any_beq.1 hh) NZ
       have r2:=uj (j+1) ah k oO
       have r3:(Ws.take (j+1)).any (Nat.beq k)=true:=any_beq.2 RH
       rw [r1,r2,r3] at e3
       simp only at e3
       injection e3 with e3;injection e3 with e3 _
       rw [←e3,hold]) fS
      have fin:∀ru fa,ib S0 w0 n ⟨dp ops (st (j+1)).col (eg L k) T++dE Tr (st j).kept,(st (j+1)).H⟩ ru fa->J (eg L k) ru fa:=by
       intro ru fa h
       refine ⟨j+1,ah,fun j2 W2 h2=>?_,by rw [k4];exact h⟩
       by_cases e:W2=k
       ·subst e
        have:=lI Kv hj h2
        unfold eg;rw [if_pos rfl];simp;omega
       ·unfold eg;rw [if_neg e,hW j2 W2 h2]
        have:j2≠j:=fun e2=>by subst e2;rw [hj] at h2;cases h2;exact e rfl
        omega
      split
      ·rename_i hw
       rw [if_pos hw] at iL
       exact Oper.wp_mono fin iL
      ·rename_i hw
       rw [if_neg hw] at iL
       exact fin _ _ iL
     ·obtain ⟨last,first,old,Cc,k5,k6⟩:=vp i hi
      obtain ⟨c1,c2,c3⟩:=jo _ 0 [] _ _ k5 k6 rfl
      simp only [Nat.zero_add] at c1 c3
      have DQ:(ops.take T)[k]?=some o:=by rw [List.getElem?_take,if_pos hk];exact qN
      obtain ⟨x',D2,e1,e2,e3⟩:=c3 k _ DQ
      unfold qa at e3
      have r1:(Ws.drop i).any (Nat.beq k)=false:=by
       cases hh:(Ws.drop i).any (Nat.beq k) with
       | false=>rfl
       | true=>exact absurd (List.mem_of_mem_drop (any_beq.1 hh)) Kx
      have r2:=uj i (Nat.le_refl _) k oO
      have r3:(Ws.take i).any (Nat.beq k)=false:=by
       cases hh:(Ws.take i).any (Nat.beq k) with
       | false=>rfl
       | true=>exact absurd (List.mem_of_mem_take (any_beq.1 hh)) Kx
      have r4:(Ws.take i).any (fun W=>(R.getD W []).any (Nat.beq k))=false:=by
       cases hh:(Ws.take i).any (fun W=>(R.getD W []).any (Nat.beq k)) with
       | false=>rfl
       | true =>
        exfalso
        obtain ⟨W,h1,h2⟩:=List.any_eq_true.1 hh
        obtain ⟨j,hj⟩:=List.mem_iff_getElem?.1 h1
        rw [List.getElem?_take] at hj
        split at hj
        ·rename_i LG
         have:=pH W ((hW j W hj).2 LG) k (any_beq.1 h2)
         rw [An] at this;cases this
        ·cases hj
      rw [r1,r2,r3,r4] at e3
      simp only at e3
      have dF:∃C',sk P ops ⟨jc ops ((st i).col.take k) (ba o)++(st i).kept,(st i).H⟩ o (gl hs k)=some (x',C')∧bu C':=by
       split at e3
       ·rename_i xx CC dF
        split at e3
        ·cases e3;exact ⟨_,dF,e2.2⟩
        ·cases e3;exact ⟨_,dF,e2⟩
       ·cases e3
      obtain ⟨C',dF,PJ⟩:=dF
      rw [rb ops _ k _ (B1 k o qN)] at dF
      have iL:=tr (P:=P) (S0:=S0) (w0:=w0) (Q:=Q) (n:=n) (T:=T) (L:=L) (a:=a') (w:=w') xo MM hk qN PA (fb i hi) dF PJ e1 fS
      have fin:∀ru fa,ib S0 w0 n ⟨dp ops (st i).col (eg L k) T++(st i).kept,(st i).H⟩ ru fa->J (eg L k) ru fa:=by
       intro ru fa h
       refine ⟨i,hi,fun j2 W2 h2=>?_,h⟩
       have e:W2≠k:=fun e=>by subst e;exact Kx (List.mem_of_getElem? h2)
       unfold eg;rw [if_neg e];exact hW j2 W2 h2
      split
      ·rename_i hw
       rw [if_pos hw] at iL
       exact Oper.wp_mono fin iL
      ·rename_i hw
       rw [if_neg hw] at iL
       exact fin _ _ iL
    ·intro L a' w' f_ z_ ⟨i,hi,hW,ck,fS⟩
     have e:i=Ws.length:=by
      rcases Nat.lt_or_ge i Ws.length with h|h
      ·have Ko:Ws[i]?=some (Ws[i]'h):=List.getElem?_eq_getElem h
       have:=(hW i _ Ko).1 (f_ _ (MK _ (List.getElem_mem h)))
       omega
      ·omega
     subst e
     have lh:=jD (S0:=S0) (w0:=w0) (Q:=Q) _ _ _ _ _ ot hD a' w' ⟨ck,aH.sub fS fun i x hx=>.inl ?_⟩ hQ
     ·simpa using lh
     ·rw [bI] at hx ⊢
      cases hh:look (iX (ops.take T) (st Ws.length).col) i with
      | some y =>
       rw [hh] at hx
       simp at hx;subst hx
       obtain ⟨k,o,h1,h2,h3⟩:=kC _ _ _ _ hh
       have vm:k<T:=by have:=(List.getElem?_eq_some_iff.1 h1).1;rw [List.length_take] at this;omega
       rw [gi xo _ L T k i o y vm (f_ k vm) (bT _ _ _ _ h1) h2 h3];rfl
      | none =>
       rw [hh] at hx
       simp at hx
       rw [i4 fun j p hj hp=>fb _ (Nat.le_refl _) i x hx j p hj hp]
       simpa using hx
    ·rw [getD_replicate_false] at hk;cases hk
    ·refine ⟨0,ah,fun j W _=>by show (Array.replicate ops.toArray.size false).getD W false=true↔_;rw [getD_replicate_false];simp,φ,?_⟩
     rw [mS _ _ _ (fun k=>getD_replicate_false _ _)]
     have hg:aH S0 w0 n [] s a w.drew φ:=lr.grow ((Below.refl _ _).drew)
     rw [M9,xq]
     exact aH.sub (F:=s.F) hg fun i x hx=>.inl (fG _ _ _ _ (by simpa using hx)).1
   ·cases he
  ·cases he
 ·cases he
def qW (P:Program) (n T:Nat) (Ws:List Nat) (hs:List (Nat×Hint)) (c:Code) (s:AS):Option (AS×List Prop) :=
 match c with
 | .region _ ⟨l⟩ true=>xN P n T Ws l hs s
 | _=>none
theorem a7.OB {n:Nat} {c:Code} {Q:Exit->AS->Prop} {s s':AS} {C:List Prop} (T:Nat) (Ws:List Nat) (hs:List (Nat×Hint)) (he:qW P n T Ws hs c s=some (s',C)) (hC:bu C) (h:Q .normal s'):a7 P n c Q s:=by
 intro S0 w0 a w fS
 unfold qW at he
 split at he
 ·exact Cn (S0:=S0) (w0:=w0) he hC fS fun a' w' bU=>⟨s',h,bU.one⟩
 ·cases he
theorem a7.SK {n:Nat} {c:Code} {Q:Exit->AS->Prop} {s:AS} {C:List Prop} (T:Nat) (Ks:List Nat) (hs:List (Nat×Hint)) (he:oD (qW P n T Ks hs c s)=some C) (hC:bu C) (h:Q .normal (pg (qW P n T Ks hs c s))):a7 P n c Q s:=a7.OB T Ks hs (iH he) hC h
end
end Go.Proofs.YtjgbhhnghedgdaaGreatDoor
