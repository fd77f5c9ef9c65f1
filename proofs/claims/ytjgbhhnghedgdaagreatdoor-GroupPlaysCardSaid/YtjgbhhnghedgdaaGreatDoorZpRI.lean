import Derived.Test.YtjgbhhnghedgdaaGreatDoorZpRH
set_option linter.all false
namespace Go.Proofs.YtjgbhhnghedgdaaGreatDoor
open Go.RowKit
def eK (L:Nat->Bool) (k:Nat):Nat->Bool:=fun j=>if j=k then true else L j
structure QJ (ops:Array Oper) (listed:Array Bool):Prop where
 size:listed.size=ops.size
 closed:∀k o,listed.getD k false=true->ops[k]?=some o-> ∀d∈bk o,listed.getD d false=true
section
variable {P:Program} {ops:Array Oper} {Q:Exit->Act->World->Prop}
theorem mX {n T:Nat} (hT:T<ops.size) (JC:Region.sinkB .any ops T=true) (vz:Region.chainB .any ops T=true) (O5:Region.seqB .any ops (ops.size-T) T ((List.range ops.size).map (decide<| · <T)).toArray=true) (hB:ly ops n=true) (J:(Nat->Bool)->Act->World->Prop)
  (vf:∀k o (L:Nat->Bool) a' w',k<T->ops[k]?=some o->L k=false->(∀d∈bk o,L d=true)->(∀j p,L j=true->ops[j]?=some p-> ∀d∈bk p,L d=true)->(∀j,T≤j->L j=false)->J L a' w' ->
   (if Region.wanted o (yielded ops a'.tmps)=true then o.wp P a' w' (fun rC fp=>J (eK L k) rC fp) Q else J (eK L k) (a'.put o.dst undef) w'))
  (j8:∀(L:Nat->Bool) a' w',(∀k,k<T->L k=true)->(∀j,T≤j->L j=false)->J L a' w'->wpList P ops Q (ops.toList.drop T) a' w') :
  ∀(fuel:Nat) (listed:Array Bool) (a':Act) (w':World),QJ ops listed->J (fun k=>listed.getD k false) a' w'->(∀j,T≤j->listed.getD j false=false) ->
   (listed.toList.filter (· == false)).length=fuel->wpAny P .any ops Q fuel listed a' w':=by
 obtain ⟨dd,im,vg⟩:=fT hB
 have kt:∀(listed:Array Bool),QJ ops listed-> ∀k,k<T->listed.getD k false=false-> ∃i,i<T∧i∈Region.ready .any ops listed:=by
  intro listed I k
  induction k using Nat.strongRecOn with
  | _ k ih =>
   intro hk hl
   have iF:k<listed.size:=by rw [I.size];omega
   have Bt:k<ops.size:=aj
   have oq:ops[k]?=some ops[k]:=Array.getElem?_eq_getElem Bt
   by_cases gh:∀d∈bk ops[k],listed.getD d false=true
   ·refine ⟨k,hk,?_⟩
    rw [mem_ready]
    refine ⟨?_,ops[k],oq,fun e he hb=>gh e.on ?_⟩
    ·simp [iF] at hl ⊢;exact hl
    ·unfold bk
     exact List.mem_map.2 ⟨e,List.mem_filter.2 ⟨by simpa using he,hb⟩,rfl⟩
   ·have:∃d,d∈bk ops[k]∧listed.getD d false=false:=by
     refine Classical.byContradiction fun gb=>gh fun d hd=>?_
     cases hx:listed.getD d false with
     | true=>rfl
     | false=>exact absurd ⟨d,hd,hx⟩ gb
    obtain ⟨d,hd,hx⟩:=this
    exact ih d (dd k _ oq d hd) (by have:=dd k _ oq d hd;omega) hx
 have rest:∀(fuel:Nat) (listed:Array Bool) (a':Act) (w':World),QJ ops listed->J (fun k=>listed.getD k false) a' w'->(∀j,T≤j->listed.getD j false=false)->(listed.toList.filter (· == false)).length=fuel->(∀k,k<T->listed.getD k false=true)->wpAny P .any ops Q fuel listed a' w':=by
  intro fuel listed a' w' I hJ tail hc all
  have nu:listed=((List.range ops.size).map (decide<| · <T)).toArray:=by
   apply Array.ext_getElem?
   intro x
   by_cases hx:x<ops.size
   ·have F7:x<listed.size:=by rw [I.size];exact hx
    have hr:((List.range ops.size).map (decide<| · <T)).toArray[x]?=some (decide (x<T)):=by simp [hx]
    rw [hr]
    by_cases At:x<T
    ·have:=all x At;simp [F7] at this ⊢;rw [this,decide_eq_true At]
    ·have:=tail x aj;simp [F7] at this ⊢;rw [this,decide_eq_false At]
   ·rw [Array.getElem?_eq_none (by rw [I.size];omega),Array.getElem?_eq_none (by simp;omega)]
  have hlen:fuel=(ops.toList.drop T).length:=by
   rw [←hc,nu]
   simp only [List.length_drop,Array.length_toList,List.filter_map,List.length_map]
   have key:∀n,T≤n->((List.range n).filter ((fun x=>x == false) ∘ (decide<| · <T))).length=n-T:=by
    intro n hn
    induction n with
    | zero=>simp
    | succ n ih =>
     rw [List.range_succ,List.filter_append,List.length_append]
     by_cases Pm:T≤n
     ·rw [ih Pm]
      have:((fun x=>x == false) ∘ (decide<| · <T)) n=true:=by simp;omega
      rw [List.filter_cons_of_pos this];simp;omega
     ·obtain rfl:T=n+1:=aj
      have h1:(List.range n).filter ((fun x=>x == false) ∘ (decide<| · <n+1))= []:=by
       rw [List.filter_eq_nil_iff];intro x hx;have:=List.mem_range.1 hx;simp;omega
      have h2:[n].filter ((fun x=>x == false) ∘ (decide<| · <n+1))= []:=by
       rw [List.filter_eq_nil_iff];intro x hx;simp at hx;subst hx;simp
      rw [h1,h2];simp
   exact key ops.size aj
  rw [hlen]
  refine wpAny_of_seq (ops.toList.drop T) T listed a' w' (fun j=>by rw [List.getElem?_drop];simp) ?_ (j8 _ a' w' all tail hJ)
  rw [nu]
  simpa using O5
 intro fuel
 induction fuel with
 | zero =>
  intro listed a' w' I hJ tail hc
  refine rest 0 listed a' w' I hJ tail hc fun k hk=>?_
  cases hx:listed.getD k false with
  | true=>rfl
  | false =>
   exfalso
   have iF:k<listed.size:=by rw [I.size];omega
   have:false∈listed.toList.filter (· == false):=by
    refine List.mem_filter.2 ⟨?_,rfl⟩
    have h1:listed.toList[k]?=some false:=by simp [iF] at hx ⊢;exact hx
    exact List.mem_of_getElem? h1
   have:=List.length_pos_of_mem this
   omega
 | succ fuel ih =>
  intro listed a' w' I hJ tail hc
  by_cases hex:∀k,k<T->listed.getD k false=true
  ·exact rest (fuel+1) listed a' w' I hJ tail hc hex
  have OX:∃k,k<T∧listed.getD k false=false:=by
   refine Classical.byContradiction fun gb=>hex fun k hk=>?_
   cases hx:listed.getD k false with
   | true=>rfl
   | false=>exact absurd ⟨k,hk,hx⟩ gb
  obtain ⟨k0,xJ,HK⟩:=OX
  have PJ:HeadInv .any ops T listed:=⟨I.size,fun j oj hj hl e he hb=>I.closed j oj hl hj e.on (by
    unfold bk
    exact List.mem_map.2 ⟨e,List.mem_filter.2 ⟨by simpa using he,hb⟩,rfl⟩),fun t ht O4=>getD_in (by rw [I.size];exact O4) (tail t ht)⟩
  have H8:listed.getD k0 true=false:=getD_in (by rw [I.size];omega) HK
  refine ⟨fun hr=>(by
   obtain ⟨i,_,hi⟩:=kt listed I k0 xJ HK
   rw [hr] at hi;cases hi),fun i hi=>?_⟩
  have Ps:i<T:=Classical.byContradiction fun h=>tail_waits JC vz hT PJ _ k0 rfl xJ H8 i aj hi
  obtain ⟨h0,o,ho,gh⟩:=mem_ready.1 hi
  have H9:i<listed.size:=by rw [I.size];exact (Array.getElem?_eq_some_iff.1 ho).1
  have Of:listed.getD i false=false:=by simp [H9] at h0 ⊢;exact h0
  have i9:∀d∈bk o,listed.getD d false=true:=by
   intro d hd
   unfold bk at hd
   obtain ⟨e,he,rfl⟩:=List.mem_map.1 hd
   obtain ⟨LK,KI⟩:=List.mem_filter.1 he
   exact gh e (by simpa using LK) KI
  have next:QJ ops (listed.setIfInBounds i true):=by
   refine ⟨by simpa using I.size,fun k p hk hp d hd=>?_⟩
   by_cases su:i=k
   ·subst su
    rw [ho] at hp;injection hp with hp;subst hp
    exact getD_set_true (i9 d hd)
   ·rw [getD_set_ne false su] at hk
    exact getD_set_true (I.closed k p hk hp d hd)
  have dZ:(fun k=>(listed.setIfInBounds i true).getD k false)=eK (fun k=>listed.getD k false) i:=by
   funext k
   unfold eK
   by_cases su:k=i
   ·subst su;rw [if_pos rfl];simp [H9]
   ·rw [if_neg su,getD_set_ne false (Ne.symm su)]
  have nq:∀j,T≤j->(listed.setIfInBounds i true).getD j false=false:=fun j hj=>by rw [getD_set_ne false aj];exact tail j hj
  have nt:((listed.setIfInBounds i true).toList.filter (· == false)).length=fuel:=by
   have Po:((listed.setIfInBounds i true).toList.filter (· == false)).length+1=(listed.toList.filter (· == false)).length:=by
    rw [Array.toList_setIfInBounds]
    have jd:listed.toList[i]?=some false:=by simp [H9] at h0 ⊢;exact h0
    exact pe _ i jd
   omega
  have iN:=vf i o (fun k=>listed.getD k false) a' w' Ps ho Of i9 (fun j p hj hp d hd=>I.closed j p hj hp d hd) tail hJ
  rw [←dZ] at iN
  unfold wpOp
  rw [ho]
  simp only
  by_cases hw:Region.wanted o (yielded ops a'.tmps)=true
  ·rw [if_pos hw] at iN ⊢
   left
   exact Oper.wp_mono (fun rC fp h=>ih _ _ _ next h nq nt) iN
  ·rw [if_neg hw] at iN ⊢
   exact ih _ _ _ next iN nq nt
end
def dH (ops:List Oper) (col:List AV) (L:Nat->Bool):Nat->List (Nat×AV)
 | 0=>[]
 | k+1=>match L k,ops[k]?,col[k]? with
  | true,some o,some x=>(match o.dst with|some i=>(i,x)::dH ops col L k|none=>dH ops col L k)
  | _,_,_=>dH ops col L k
theorem kB (ops:List Oper) (col:List AV) (L:Nat->Bool):∀(T i:Nat) (x:AV),look (dH ops col L T) i=some x-> ∃k o,k<T∧L k=true∧ops[k]?=some o∧o.dst=some i∧col[k]?=some x
 | 0,i,x,h=>by cases h
 | k+1,i,x,h=>by
  have step:look (dH ops col L k) i=some x-> ∃k' o,k'<k+1∧L k'=true∧ops[k']?=some o∧o.dst=some i∧col[k']?=some x:=fun h=>by
   obtain ⟨k',o,h1,h2⟩:=kB ops col L k i x h
   exact ⟨k',o,aj,h2⟩
  simp only [dH] at h
  split at h
  ·rename_i o y hL ho hy
   split at h
   ·rename_i j hj
    rw [aD] at h
    by_cases e:j=i
    ·rw [if_pos e] at h;injection h with h;subst h;subst e
     exact ⟨k,o,aj,hL,ho,hj,hy⟩
    ·rw [if_neg e] at h;exact step h
   ·exact step h
  ·exact step h
theorem gq {ops:List Oper} (im:(ops.filterMap (·.dst)).Nodup) (col:List AV) (L:Nat->Bool):∀(T k i:Nat) (o:Oper) (x:AV),k<T->L k=true->ops[k]?=some o->o.dst=some i->col[k]?=some x->look (dH ops col L T) i=some x
 | 0,k,i,o,x,h,_,_,_,_=>by omega
 | m+1,k,i,o,x,hk,hL,ho,hd,hx=>by
  by_cases Qr:k=m
  ·subst Qr
   simp only [dH,hL,ho,hx,hd,aD,if_pos]
  ·have ih:=gq im col L m k i o x aj hL ho hd hx
   simp only [dH]
   split
   ·rename_i p y _ hp _
    split
    ·rename_i j hj
     rw [aD]
     have cT:j≠i:=fun e=>by
      subst e
      exact Qr (n0 (ops:=ops.toArray) (by simpa using im) (by simpa using ho) (by simpa using hp) hd hj)
     rw [if_neg cT];exact ih
    ·exact ih
   ·exact ih
theorem jb {ops:List Oper} {col:List AV} {L:Nat->Bool} {T i:Nat} (h:∀k o,k<T->ops[k]?=some o->o.dst≠some i):look (dH ops col L T) i=none:=by
 cases hl:look (dH ops col L T) i with
 | none=>rfl
 | some x =>
  obtain ⟨k,o,h1,-,h3,h4,-⟩:=kB ops col L T i x hl
  exact absurd h4 (h k o h1 h3)
theorem aG.sub {S0:bm} {w0 w:World} {n:Nat} {O:List Nat} {F F':List (Nat×AV)} {H:List (Nat×Row)} {a:Act} {φ:Nat->Option Nat} (h:aG S0 w0 n O ⟨F,H⟩ a w φ) (hF:∀i x,look F' i=some x->look F i=some x∨x= .dead):aG S0 w0 n O ⟨F',H⟩ a w φ:=by
 refine ⟨h.jL,h.jO,h.cV,fun i x hx=>?_,h.rows,h.only,h.inj,h.cU,h.apart,h.new⟩
 rcases hF i x hx with h1|h1
 ·exact h.cB i x h1
 ·rw [h1];exact .dead _
section
variable {P:Program} {ops:List Oper} {S0:bm} {w0:World} {Q:Exit->Act->World->Prop} {n T:Nat} {col:List AV} {kept:List (Nat×AV)} {H:List (Nat×Row)} {L:Nat->Bool} {k:Nat} {o:Oper}
theorem Ai (im:(ops.filterMap (·.dst)).Nodup) (Fm:∀d∈bk o,L d=true∧d<T) (fq:∀i x,look kept i=some x-> ∀j p,j<T->ops[j]?=some p->p.dst≠some i) (i:Nat) (x:AV) (h:look (ji ops col (bk o)++kept) i=some x):look (dH ops col L T++kept) i=some x:=by
 rw [bM] at h ⊢
 cases hd:look (ji ops col (bk o)) i with
 | some y =>
  rw [hd] at h
  simp at h;subst h
  obtain ⟨d,p,h1,h2,h3,h4⟩:=nO _ _ _ _ _ hd
  rw [gq im col L T d i p y (Fm d h1).2 (Fm d h1).1 h2 h3 h4];rfl
 | none =>
  rw [hd] at h
  simp at h
  rw [jb fun j p hj hp=>fq i x h j p hj hp]
  simpa using h
theorem tz {h:Hint} {x:AV} {C:List Prop} {a:Act} {w:World} (im:(ops.filterMap (·.dst)).Nodup) (vg:∀(k:Nat) (o:Oper) (s:Nat),ops[k]?=some o->o.dst=some s->s<n)
  (hk:k<T) (ho:ops[k]?=some o) (Fm:∀d∈bk o,L d=true∧d<T) (fq:∀i x,look kept i=some x-> ∀j p,j<T->ops[j]?=some p->p.dst≠some i)
  (dU:sy P ops ⟨ji ops col (bk o)++kept,H⟩ o h=some (x,C)) (hC:bx C) (hx:col[k]?=some x) (hs:iv S0 w0 n ⟨dH ops col L T++kept,H⟩ a w) :
  if Region.wanted o (yielded ops.toArray a.tmps)=true then o.wp P a w (fun a' w'=>iv S0 w0 n ⟨dH ops col (eK L k) T++kept,H⟩ a' w') Q else iv S0 w0 n ⟨dH ops col (eK L k) T++kept,H⟩ (a.put o.dst undef) w:=by
 obtain ⟨φ,hs⟩:=hs
 have Ch:=hs.sub (F':=ji ops col (bk o)++kept) (fun i y hy=>.inl (Ai im Fm fq i y hy))
 have iN:=Er (Q:=Q) dU hC Ch (b:=a) rfl
 have fin:∀v w',Below w.heap.size w w'->Den (az H φ) (aM S0 w' φ []) w' v x->iv S0 w0 n ⟨dH ops col (eK L k) T++kept,H⟩ (a.put o.dst v) w':=by
  intro v w' hb hd
  have hg:=hs.grow hb
  refine ⟨φ,(tr ..).trans hg.jL,(pc ..).trans hg.jO,hg.cV,fun i y hy=>?_,hg.rows,hg.only,hg.inj,hg.cU,hg.apart,hg.new⟩
  have hy:look (dH ops col (eK L k) T++kept) i=some y:=hy
  have same:o.dst≠some i->(a.put o.dst v).tmps.getD i undef=a.tmps.getD i undef:=fun cT=>by
   cases Tl:o.dst with
   | none=>rfl
   | some j =>
    have dd:j<a.tmps.size:=by rw [hg.jL];exact vg k o j ho Tl
    rw [pJ a j i v dd,if_neg (fun e=>cT (by rw [Tl,e]))]
  rw [bM] at hy
  cases hl:look (dH ops col (eK L k) T) i with
  | some z =>
   rw [hl] at hy
   simp at hy;subst hy
   obtain ⟨j,p,h1,h2,h3,h4,h5⟩:=kB _ _ _ _ _ _ hl
   by_cases vx:j=k
   ·subst vx
    rw [ho] at h3;injection h3 with h3;subst h3
    rw [hx] at h5;injection h5 with h5;subst h5
    have dd:i<a.tmps.size:=by rw [hg.jL];exact vg j o i ho h4
    rw [h4,pJ a i i v dd,if_pos rfl]
    exact hd
   ·have Qy:L j=true:=by unfold eK at h2;rw [if_neg vx] at h2;exact h2
    have cT:o.dst≠some i:=fun e=>vx (n0 (ops:=ops.toArray) (by simpa using im) (by simpa using h3) (by simpa using ho) h4 e)
    rw [same cT]
    refine hg.cB i z ?_
    show look (dH ops col L T++kept) i=some z
    rw [bM,gq im col L T j i p z h1 Qy h3 h4 h5];rfl
  | none =>
   rw [hl] at hy
   simp at hy
   have cT:o.dst≠some i:=fq i y hy k o hk ho
   rw [same cT]
   refine hg.cB i y ?_
   show look (dH ops col L T++kept) i=some y
   rw [bM,jb fun j p hj hp=>fq i y hy j p hj hp]
   simpa using hy
 unfold gP at iN
 split
 ·rename_i hw
  rw [if_pos hw] at iN
  exact Oper.wp_mono (fun a' w' ⟨v,h1,h2,h3,h4⟩=>by subst h1;exact fin v w' h2 h4) iN
 ·rename_i hw
  rw [if_neg hw] at iN
  exact fin undef w (Below.refl _ _) iN.2
end
def Jm (d:Nat):AV->AV->AV
 | .ref id,x=>jG d (jG id x)
 | .pre id _,x=>jG d (jG id x)
 | _,x=>jG d x
def P5 (d:Nat) (X:AV) (F:List (Nat×AV)):List (Nat×AV):=(d,.ref d)::cN (dS (Jm d X) F) d
theorem lN {α:Type} (f g:α->α):∀(l:List (Nat×α)),dS f (dS g l)=dS (fun x=>f (g x)) l
 | []=>rfl
 | (k,x)::l=>by simp only [dS,lN f g l]
theorem GC (P:Program) (F F':List (Nat×AV)) (H:List (Nat×Row)) (xt:TypeId) (z:Nat) (x:AV):qD P ⟨F',H⟩ xt z x=qD P ⟨F,H⟩ xt z x:=by
 cases x<;>rfl
theorem Jl {P:Program} {n:Nat} {F F':List (Nat×AV)} {H:List (Nat×Row)} {d t xt:Nat} {X Y:AV} {h:Hint} {q:AS} {C:List Prop} (he:kL P n ⟨F,H⟩ d t xt X Y h=some (q,C)):kL P n ⟨F',H⟩ d t xt X Y h=some (⟨P5 d X F',q.H⟩,C):=by
 unfold kL at he ⊢
 split at he
 ·rename_i el hu
  split at he
  ·rename_i i hi
   split at he
   ·rename_i zero z b hz dq xN
    split at he
    ·rename_i cells s1 row uo lx gu
     split at he
     ·rename_i C' s' oG dZ
      cases he
      have Pz:∃NH,qe ⟨F',H⟩ (z+1) X=some (cells,NH)∧NH.H=s1.H∧dS (jG d) NH.F=dS (Jm d X) F':=by
       unfold qe at lx ⊢
       split at lx
       ·cases lx;exact ⟨_,rfl,rfl,rfl⟩
       ·split at lx
        ·rename_i e' _ Nq hl
         split at lx
         ·rename_i hb
          cases lx
          refine ⟨cm _ ⟨F',H⟩,?_,rfl,?_⟩
          ·have qY:look (⟨F',H⟩:AS).H _=_:=hl
           simp only [qY,hb]
          ·exact lN _ _ _
         ·cases lx
        ·cases lx
       ·split at lx
        ·rename_i e' _ Nq hl
         split at lx
         ·rename_i hb
          cases lx
          refine ⟨cm _ ⟨F',H⟩,?_,rfl,?_⟩
          ·have qY:look (⟨F',H⟩:AS).H _=_:=hl
           simp only [qY,hb]
          ·exact lN _ _ _
         ·cases lx
        ·cases lx
       ·split at lx
        ·rename_i hb
         cases lx
         exact ⟨⟨F',H⟩,rfl,rfl,rfl⟩
        ·cases lx
       ·cases lx
      obtain ⟨NH,Gd,yX,UK⟩:=Pz
      rw [GC P F F'] at *
      simp only [uo,Gd,gu,oG]
      unfold gg at dZ ⊢
      simp only at dZ ⊢
      split at dZ
      ·cases dZ
       have e1:(cm d NH).H=(cm d s1).H:=by unfold cm;rw [yX]
       have e2:(cm d NH).F=dS (Jm d X) F':=UK
       simp only [lg,e1,e2,P5]
      ·cases dZ
     ·cases he
    ·cases he
   ·cases he
  ·cases he
 ·cases he
section
variable {P:Program} {ops:List Oper} {S0:bm} {w0:World} {Q:Exit->Act->World->Prop} {n T:Nat} {col col':List AV} {kept:List (Nat×AV)} {H H':List (Nat×Row)} {L:Nat->Bool} {k:Nat} {o:Oper}
theorem xB {f:AV->AV} {F:List (Nat×AV)} {d i:Nat} (h:d≠i):look (cN (dS f F) d) i=(look F i).map f:=by rw [bH,if_neg h,cw]
def tW (F:List (Nat×AV)):Operand->Bool
 | .tmp i=>(look F i).isSome
 | _=>true
theorem me {F F':List (Nat×AV)} (hF:∀i x,look F i=some x->look F' i=some x) {y:Operand} (h:tW F y=true):bp ⟨F',H⟩ y=bp ⟨F,H⟩ y:=by
 cases y with
 | tmp i =>
  have h:(look F i).isSome=true:=h
  cases hl:look F i with
  | none=>rw [hl] at h;cases h
  | some x =>
   show jN _ i=jN _ i
   unfold jN
   rw [show look (⟨F',H⟩:AS).F i=some x from hF i x hl,show look (⟨F,H⟩:AS).F i=some x from hl]
 | _=>rfl
end
def Ot:List Nat->List Nat->List Nat
 | [],m=>m
 | x::l,m=>match m.any (Nat.beq x) with|true=>Ot l m|false=>Ot l (x::m)
theorem xu:∀(l m:List Nat) (x:Nat),x∈Ot l m->x∈l∨x∈m
 | [],m,x,h=>.inr h
 | y::l,m,x,h=>by
  simp only [Ot] at h
  split at h
  ·rcases xu l m x h with h|h
   ·exact .inl (by simp [h])
   ·exact .inr h
  ·rcases xu l (y::m) x h with h|h
   ·exact .inl (by simp [h])
   ·rcases List.mem_cons.1 h with h|h
    ·exact .inl (by simp [h])
    ·exact .inr h
def m5 (R:List (List Nat)):List Nat->List Nat
 | []=>[]
 | d::l=>Ot (d::R.getD d []) (m5 R l)
theorem ub (R:List (List Nat)):∀(l:List Nat) (x:Nat),x∈m5 R l-> ∃d∈l,x=d∨x∈R.getD d []
 | [],x,h=>by simp [m5] at h
 | d::l,x,h=>by
  rcases xu _ _ x h with h|h
  ·exact ⟨d,by simp,List.mem_cons.1 h⟩
  ·obtain ⟨e,h1,h2⟩:=ub R l x h
   exact ⟨e,by simp [h1],h2⟩
def mb:List Oper->List (List Nat)->List (List Nat)
 | [],R=>R
 | o::l,R=>mb l (R++ [m5 R (bk o)])
def s7 (ops:List Oper) (R:List (List Nat)):Prop:=∀(k:Nat) (o:Oper),ops[k]?=some o-> ∀(L:Nat->Bool),(∀j p,L j=true->ops[j]?=some p-> ∀d∈bk p,L d=true)->(∀d∈bk o,L d=true)-> ∀j∈R.getD k [],L j=true
theorem qI (ops:List Oper):∀(l:List Oper) (R:List (List Nat)),s7 ops R->(∀j o,l[j]?=some o->ops[R.length+j]?=some o)->(∀(k:Nat) (o:Oper),ops[k]?=some o-> ∀d∈bk o,d<k)->s7 ops (mb l R)
 | [],R,h,_,_=>h
 | o::l,R,h,hl,dd=>by
  refine qI ops l _ ?_ (fun j p hp=>?_) dd
  ·intro k p hp L hc hd j hj
   by_cases hk:k<R.length
   ·have:(R++ [m5 R (bk o)]).getD k []=R.getD k []:=by
     rw [List.getD_eq_getElem?_getD,List.getD_eq_getElem?_getD,List.getElem?_append_left hk]
    rw [this] at hj
    exact h k p hp L hc hd j hj
   ·by_cases Bt:k=R.length
    ·subst Bt
     have e:(R++ [m5 R (bk o)]).getD R.length []=m5 R (bk o):=by
      rw [List.getD_eq_getElem?_getD,List.getElem?_append_right (Nat.le_refl _)];simp
     rw [e] at hj
     have ho:ops[R.length]?=some o:=by have:=hl 0 o rfl;simpa using this
     rw [ho] at hp;injection hp with hp;subst hp
     obtain ⟨d,h1,h2⟩:=ub R _ j hj
     rcases h2 with h2|h2
     ·subst h2;exact hd j h1
     ·cases Qo:ops[d]? with
      | none =>
       exfalso
       have:=dd R.length o ho d h1
       have h3:=(List.getElem?_eq_some_iff.1 ho).1
       rw [List.getElem?_eq_getElem aj] at Qo;cases Qo
      | some q=>exact h d q Qo L hc (fun d' Fo=>hc d q (hd d h1) Qo d' Fo) j h2
    ·have e:(R++ [m5 R (bk o)]).getD k []= []:=by
      rw [List.getD_eq_getElem?_getD,List.getElem?_eq_none (by simp;omega)];rfl
     rw [e] at hj;cases hj
  ·rw [List.length_append]
   have:=hl (j+1) p (by simpa using hp)
   simp only [List.length_cons,List.length_nil]
   rwa [show R.length+(j+1)=R.length+(0+1)+j by omega] at this
def hit (l m:List Nat):Bool:=l.any fun x=>m.any (Nat.beq x)
theorem any_beq {m:List Nat} {x:Nat}:m.any (Nat.beq x)=true↔x∈m:=by
 rw [List.any_eq_true]
 exact ⟨fun ⟨y,h1,h2⟩=>by rw [Nat.eq_of_beq_eq_true h2];exact h1,fun h=>⟨x,h,Nat.beq_refl x⟩⟩
theorem nQ {l m:List Nat}:hit l m=true↔ ∃x,x∈l∧x∈m:=by
 unfold hit
 rw [List.any_eq_true]
 exact ⟨fun ⟨x,h1,h2⟩=>⟨x,h1,any_beq.1 h2⟩,fun ⟨x,h1,h2⟩=>⟨x,h1,any_beq.2 h2⟩⟩
structure nG where
 col:List AV
 kept:List (Nat×AV)
 H:List (Nat×Row)
def ql (P:Program) (ops:List Oper) (hs:List (Nat×Hint)) (R:List (List Nat)) (done rest last:List Nat) (first:Bool) (old:List AV) (kept:List (Nat×AV)) (H:List (Nat×Row)) (o:Oper) (k:Nat) (col:List AV):Option (AV×List Prop) :=
 match rest.any (Nat.beq k),hit (R.getD k []) rest with
 | false,false=>(match done.any (Nat.beq k),done.any (fun W=>(R.getD W []).any (Nat.beq k)) with
  | false,false=>(match sy P ops ⟨ji ops col (bk o)++kept,H⟩ o (gv hs k) with
   | some (x,C)=>(match first,hit (R.getD k []) last with
    | false,false=>some (x,(old.getD k .dead=x)::C)
    | _,_=>some (x,C))
   | none=>none)
  | _,_=>some (old.getD k .dead,[]))
 | _,_=>some (.dead,[])
def yr (P:Program) (ops:List Oper) (hs:List (Nat×Hint)) (R:List (List Nat)) (done rest last:List Nat) (first:Bool) (old:List AV) (kept:List (Nat×AV)) (H:List (Nat×Row)):List Oper->Nat->List AV->Option (List AV×List Prop)
 | [],_,col=>some (col,[])
 | o::l,k,col=>match ql P ops hs R done rest last first old kept H o k col with
  | some (x,C)=>(match yr P ops hs R done rest last first old kept H l (k+1) (col++ [x]) with|some (col',D)=>some (col',C++D)|none=>none)
  | none=>none
theorem jw {P:Program} {ops:List Oper} {hs:List (Nat×Hint)} {R:List (List Nat)} {done rest last:List Nat} {first:Bool} {old:List AV} {kept:List (Nat×AV)} {H:List (Nat×Row)}:∀(l:List Oper) (i:Nat) (col col':List AV) (C:List Prop),yr P ops hs R done rest last first old kept H l i col=some (col',C)->bx C->col.length=i ->
  col'.length=i+l.length∧col'.take i=col∧ ∀(j:Nat) (o:Oper),l[j]?=some o-> ∃x D,col'[i+j]?=some x∧bx D∧ql P ops hs R done rest last first old kept H o (i+j) (col'.take (i+j))=some (x,D)
 | [],i,col,col',C,he,hC,hl=>by
  cases he
  exact ⟨by simp [hl],by rw [←hl,List.take_length],fun j o h=>by simp at h⟩
 | o::l,i,col,col',C,he,hC,hl=>by
  simp only [yr] at he
  split at he
  ·rename_i x C1 h1
   split at he
   ·rename_i Vu D h2
    cases he
    obtain ⟨iH,hD⟩:=bQ.1 hC
    obtain ⟨e1,e2,e3⟩:=jw l (i+1) (col++ [x]) col' D h2 hD (by simp [hl])
    have e4:col'.take i=col:=by
     have:=congrArg (List.take i) e2
     rw [List.take_take,Nat.min_eq_left aj,←hl,List.take_left] at this
     rw [←hl];exact this
    have e5:col'[i]?=some x:=by
     have h3:(col'.take (i+1))[i]?=some x:=by rw [e2,List.getElem?_append_right aj,hl];simp
     exact bY _ _ _ _ h3
    refine ⟨by rw [e1,List.length_cons];omega,e4,fun j p hp=>?_⟩
    cases j with
    | zero =>
     simp at hp;subst hp
     exact ⟨x,C1,by simpa using e5,iH,by simp only [Nat.add_zero];rw [e4];exact h1⟩
    | succ j =>
     obtain ⟨y,D',h5,h6,h7⟩:=e3 j p (by simpa using hp)
     rw [show i+1+j=i+(j+1) by omega] at h5 h7
     exact ⟨y,D',h5,h6,h7⟩
   ·cases he
  ·cases he
def ik:List Nat->AV->AV
 | [],x=>x
 | i::l,x=>ik l (jG i x)
theorem iO:∀(l:List Nat) (F F':List (Nat×AV)) (H:List (Nat×Row)),(aT ⟨F,H⟩ l).F=dS (ik l) F∧(aT ⟨F,H⟩ l).H=(aT ⟨F',H⟩ l).H
 | [],F,F',H=>⟨by
   show F=dS (fun x=>x) F
   induction F with
   | nil=>rfl
   | cons p F ih=>obtain ⟨k,x⟩:=p;simp only [dS,←ih],rfl⟩
 | i::l,F,F',H=>by
  obtain ⟨h1,h2⟩:=iO l (dS (jG i) F) (dS (jG i) F') (dS (dJ i) (cN H i))
  refine ⟨?_,h2⟩
  show (aT ⟨dS (jG i) F,dS (dJ i) (cN H i)⟩ l).F=_
  rw [h1,lN];rfl
def ni (F:List (Nat×AV)):List Operand->Bool
 | []=>true
 | x::l=>match tW F x with|true=>ni F l|false=>false
def oK (s:AS) (x y:Operand):Bool :=
 match bp s x with
 | .addr id _=>(match look s.H id with
  | some r=>(match r.pure,oo (bp s y) with
   | false,_=>true
   | true,[]=>true
   | _,_=>false)
  | none=>false)
 | _=>false
def Oh (P:Program) (n:Nat) (s:AS) (o:Oper) (h:Hint):Option ((AV->AV)×AV×List (Nat×Row)×List Prop) :=
 match o.guard,o.op,o.dst with
 | none,.call ⟨.builtin .append,⟨[x,y]⟩,⟨[t,xt]⟩⟩,some d=>(match tW s.F x,tW s.F y,kL P n s d t xt (bp s x) (bp s y) h with
  | true,true,some (q,C)=>some (Jm d (bp s x),.ref d,q.H,C)
  | _,_,_=>none)
 | none,.alloc t,some d=>(match nW P n s d t h with
  | some (q,C)=>some (jG d,.addr d 0,q.H,C)
  | none=>none)
 | none,.call ⟨.value (.func f),xs,_⟩,some d=>(match h.ln,h.av,ni s.F xs.toList,((xs.toList.map (bp s)).flatMap oo).filter fun i=> !(Ah i (h.ln.map (·.1))) with
  | _::_,some r,true,[]=>(match nV P n s (some d) (.value (.func f)) xs.toList h with
   | some (q,C)=>some (fun x=>ik ((bL d r).2.map (·.1)) (ik (fc h.ln) x),(bL d r).1,q.H,C)
   | none=>none)
  | [],some r,true,I=>(match h.b || I.isEmpty,rm P n s (some d) (.value (.func f)) xs.toList h with
   | true,some (q,C)=>some (ik ((bL d r).2.map (·.1)),(bL d r).1,q.H,C)
   | _,_=>none)
  | _,_,_,_=>none)
 | none,.store t x y,none=>(match tW s.F x,tW s.F y,oK s x y,kI P s t x y h with
  | true,true,true,some (q,C)=>some (fun x=>x,.dead,q.H,C)
  | _,_,_,_=>none)
 | none,.buildSlice t len ⟨parts⟩,some d=>(match ni s.F (parts.map (·.2)),parts.flatMap (fun p=>oo (bp s p.2)) with
  | true,[]=>(match uR P n s d t len parts h with
   | some (q,C)=>some (jG d,.ref d,q.H,C)
   | none=>none)
  | _,_=>none)
 | _,_,_=>none
def vt (d:Option Nat) (X:AV) (F:List (Nat×AV)):List (Nat×AV):=match d with|some d=>(d,X)::cN F d|none=>F
theorem DU:∀(F:List (Nat×AV)),dS (fun x=>x) F=F
 | []=>rfl
 | (k,x)::F=>by simp only [dS,DU F]
theorem BD {P:Program} {F F':List (Nat×AV)} {H:List (Nat×Row)} {t:TypeId} {x y:Operand} {h:Hint} {q:AS} {C:List Prop} (dL:oK ⟨F,H⟩ x y=true) (ex:bp ⟨F',H⟩ x=bp ⟨F,H⟩ x) (ey:bp ⟨F',H⟩ y=bp ⟨F,H⟩ y) (he:kI P ⟨F,H⟩ t x y h=some (q,C)):kI P ⟨F',H⟩ t x y h=some (⟨F',q.H⟩,C):=by
 unfold kI at he ⊢
 unfold oK at dL
 rw [ex,ey]
 split at dL
 ·rename_i id off hx
  split at dL
  ·rename_i r hr
   have hr:look H id=some r:=hr
   cases hz:ea P t with
   | none=>simp only [hx,hr,hz] at he;cases he
   | some z =>
    simp only [hx,hr,hz] at he ⊢
    split at dL
    ·rename_i hp
     rw [hp] at he ⊢
     simp only at he ⊢
     split at he
     ·rename_i l hl
      split at he
      ·rename_i h1 h2
       cases he
       rfl
      ·cases he
     ·cases he
    ·rename_i hp hi
     rw [hp,hi] at he ⊢
     simp only [fN,hr,hx,ex,ey] at he ⊢
     split at he
     ·rename_i r1 l oZ B2 O_ hl hid
      cases O_;cases hid
      split at he
      ·rename_i h1 h2 h3 h4
       cases he
       rfl
      ·cases he
     ·cases he
    ·cases dL
  ·cases dL
 ·cases dL
theorem tV {F F':List (Nat×AV)} {H:List (Nat×Row)} (hF:∀i x,look F i=some x->look F' i=some x):∀ {l:List Operand},ni F l=true->l.map (bp ⟨F',H⟩)=l.map (bp ⟨F,H⟩)
 | [],_=>rfl
 | x::l,h=>by
  simp only [ni] at h
  split at h
  ·rename_i hx
   rw [List.map_cons,List.map_cons,me (H:=H) hF hx,tV hF h]
  ·cases h
theorem mj {F F':List (Nat×AV)} {H:List (Nat×Row)} {z:Nat} (hF:∀i x,look F i=some x->look F' i=some x):∀(l:List (Nat×Operand)) (i:Nat),ni F (l.map (·.2))=true->fW ⟨F',H⟩ z i l=fW ⟨F,H⟩ z i l∧l.flatMap (fun p=>oo (bp ⟨F',H⟩ p.2))=l.flatMap (fun p=>oo (bp ⟨F,H⟩ p.2))
 | [],_,_=>⟨rfl,rfl⟩
 | (j,x)::l,i,h=>by
  simp only [List.map_cons,ni] at h
  split at h
  ·rename_i hx
   obtain ⟨h1,h2⟩:=mj (H:=H) (z:=z) hF l (i+1) h
   have ex:=me (H:=H) hF hx
   refine ⟨?_,?_⟩
   ·simp only [fW,ex,h1]
   ·simp only [List.flatMap_cons,ex,h2]
  ·cases h
theorem Hu {P:Program} {n d t len:Nat} {F F':List (Nat×AV)} {H:List (Nat×Row)} {l:List (Nat×Operand)} {h:Hint} {q:AS} {C:List Prop} (hF:∀i x,look F i=some x->look F' i=some x) (ho:ni F (l.map (·.2))=true) (hi:l.flatMap (fun p=>oo (bp ⟨F,H⟩ p.2))= []) (he:uR P n ⟨F,H⟩ d t len l h=some (q,C)) :
  uR P n ⟨F',H⟩ d t len l h=some (⟨(d,.ref d)::cN (dS (jG d) F') d,q.H⟩,C):=by
 have hc:∀z,fW ⟨F',H⟩ z 0 l=fW ⟨F,H⟩ z 0 l:=fun z=>(mj hF l 0 ho).1
 have jd:=(mj (z:=0) (H:=H) hF l 0 ho).2
 rw [hi] at jd
 unfold uR at he ⊢
 rw [hi] at he
 rw [jd]
 simp only [fN] at he ⊢
 split at he
 ·rename_i el hu
  split at he
  ·rename_i z zero s1 hz hzero gS
   cases gS
   try simp only [hz,hzero,hc]
   split at he
   ·rename_i cells h1 h2 h3
    try simp only [h1,h2,h3]
    split at he
    ·rename_i h4
     try simp only [h4]
     split at he
     ·rename_i row MZ
      try simp only [MZ]
      split at he
      ·rename_i s' hp bZ
       cases he
       unfold gg at bZ ⊢
       try simp only [hp] at bZ ⊢
       split at bZ
       ·cases bZ
        rfl
       ·cases bZ
      ·cases he
     ·rename_i MZ
      split at he
      ·rename_i s' hp bZ
       cases he
       unfold gg at bZ ⊢
       try simp only [hp] at bZ ⊢
       split at bZ
       ·cases bZ
        rfl
       ·cases bZ
      ·cases he
    ·cases he
   ·cases he
  ·cases he
 ·cases he
theorem Iz {P:Program} {n:Nat} {F:List (Nat×AV)} {H H':List (Nat×Row)} {o:Oper} {h:Hint} {Tr:AV->AV} {X:AV} {C:List Prop} (dU:Oh P n ⟨F,H⟩ o h=some (Tr,X,H',C)) :
  o.guard=none∧ ∀F',(∀i x,look F i=some x->look F' i=some x)->lZ P n ⟨F',H⟩ o ⟨vt o.dst X (dS Tr F'),H'⟩ C:=by
 unfold Oh at dU
 split at dU
 ·rename_i x y t xt d hg vf hd
  split at dU
  ·rename_i q C' h1 h2 h3
   cases dU
   refine ⟨hg,fun F' hF=>?_⟩
   rw [hd]
   simp only [vt]
   have Py:=Jl (F':=F') h3
   have ex:=me (H:=H) hF h1
   have ey:=me (H:=H) hF h2
   rw [←ey,←ex] at Py
   have:=r7 (n:=n) (s:=⟨F',H⟩) vf hd Py
   rw [ex] at this
   exact this
  ·cases dU
 ·rename_i t d hg vf hd
  split at dU
  ·rename_i q C' h1
   cases dU
   refine ⟨hg,fun F' hF=>?_⟩
   rw [hd]
   simp only [vt]
   have h2:nW P n ⟨F',H⟩ d t h=some (⟨(d,.addr d 0)::cN (dS (jG d) F') d,q.H⟩,C):=by
    unfold nW at h1 ⊢
    split at h1
    ·split at h1
     ·split at h1
      ·rename_i s' bZ
       cases h1
       unfold gg at bZ ⊢
       simp only at bZ ⊢
       split at bZ
       ·cases bZ;rfl
       ·cases bZ
      ·cases h1
     ·split at h1
      ·rename_i s' bZ
       cases h1
       unfold gg at bZ ⊢
       simp only at bZ ⊢
       split at bZ
       ·cases bZ;rfl
       ·cases bZ
      ·cases h1
    ·cases h1
   exact uW (s:=⟨F',H⟩) vf hd h2
  ·cases dU
 ·rename_i f xs ts d hg vf hd
  split at dU
  ·rename_i p l r KB MZ HY KE
   split at dU
   ·rename_i q C' h1
    cases dU
    refine ⟨hg,fun F' hF=>?_⟩
    rw [hd]
    simp only [vt]
    have eo:=tV (H:=H) hF HY
    have h2:nV P n ⟨F',H⟩ (some d) (.value (.func f)) xs.toList h=some (⟨(d,(bL d r).1)::cN (dS (fun x=>ik ((bL d r).2.map (·.1)) (ik (fc h.ln) x)) F') d,q.H⟩,C):=by
     unfold nV at h1 ⊢
     rw [eo]
     simp only [MZ,callee] at h1 ⊢
     rw [KE] at h1 ⊢
     simp only [fN] at h1 ⊢
     split at h1
     ·rename_i s1 hE gS
      cases gS
      split at h1
      ·rename_i Hl Hb C2 g1 g2 g3 g4
       have Vo:iR ⟨F',H⟩ h.ln h.ln=some Hl:=by
        have key:∀(ρ l:List (Nat×Nat)),iR ⟨F',H⟩ ρ l=iR ⟨F,H⟩ ρ l:=by
         intro ρ l
         induction l with
         | nil=>rfl
         | cons p l ih=>obtain ⟨c,k⟩:=p;simp only [iR,ih]
        rw [key];exact g1
       have Vn:pw ⟨F',H⟩ h.ho h.ln=some C2:=by
        have key:∀(l:List (Nat×Nat)),pw ⟨F',H⟩ h.ho l=pw ⟨F,H⟩ h.ho l:=by
         intro l
         induction l with
         | nil=>rfl
         | cons p l ih=>obtain ⟨c,k⟩:=p;simp only [pw,ih]
        rw [key];exact g4
       rw [hE]
       simp only
       rw [Vo,g2,g3,Vn]
       simp only
       have em:(xs.toList.map fun x=>rK h.ln (bp ⟨F',H⟩ x))=xs.toList.map fun x=>rK h.ln (bp ⟨F,H⟩ x):=by
        have:=congrArg (List.map (rK h.ln)) eo
        rwa [List.map_map,List.map_map] at this
       rw [em]
       have eB:∀F0,i_ ⟨F0,H⟩ h.ln Hb=⟨dS (ik (fc h.ln)) F0,Hb++o_ (aT ⟨F,H⟩ (fc h.ln)).H (h.ln.map (·.1))⟩:=fun F0=>by
        unfold i_
        rw [(iO (fc h.ln) F0 F H).1,(iO (fc h.ln) F0 F H).2]
       rw [eB] at h1 ⊢
       split at h1
       ·rename_i s' wA dZ
        cases h1
        have eR:=fun F0=>iO ((bL d r).2.map (·.1)) F0 (dS (ik (fc h.ln)) F) (Hb++o_ (aT ⟨F,H⟩ (fc h.ln)).H (h.ln.map (·.1)))
        rw [wA,(eR (dS (ik (fc h.ln)) F')).1,(eR (dS (ik (fc h.ln)) F')).2]
        unfold gg at dZ ⊢
        simp only at dZ ⊢
        split at dZ
        ·cases dZ
         simp only [lg,lN]
        ·cases dZ
       ·cases h1
      ·cases h1
     ·cases h1
    have ME:o.op= .call ⟨.value (.func f),xs,ts⟩:=vf
    rw [←hd] at h2
    exact uV (s:=⟨F',H⟩) ME h2
   ·cases dU
  ·rename_i x4 r KB MZ HY
   split at dU
   ·rename_i q C' hb h1
    cases dU
    refine ⟨hg,fun F' hF=>?_⟩
    rw [hd]
    simp only [vt]
    have eo:=tV (H:=H) hF HY
    have eV:∀(l:List AV),jM ⟨F',H⟩ l=jM ⟨F,H⟩ l:=by
     intro l
     have e0:∀x,jA ⟨F',H⟩ x=jA ⟨F,H⟩ x:=fun x=>rfl
     have eL:∀(m:List AV),ow ⟨F',H⟩ m=ow ⟨F,H⟩ m:=by
      intro m
      induction m with
      | nil=>rfl
      | cons x m ih=>simp only [ow,ih,e0]
     have e1:∀x,view ⟨F',H⟩ x=view ⟨F,H⟩ x:=by
      intro x
      unfold view
      split
      ·rw [eL]
      ·rfl
     induction l with
     | nil=>rfl
     | cons x l ih=>simp only [jM,ih,e1]
    have eI:h.b=false->(xs.toList.map (bp ⟨F,H⟩)).flatMap oo= []:=fun e=>by
     rw [e,KB] at hb
     have h0:((xs.toList.map (bp ⟨F,H⟩)).flatMap oo).isEmpty=true:=by
      have e9:∀l:List Nat,l.filter (fun i=> !(Ah i (([]:List (Nat×Nat)).map (·.1))))=l:=fun l=>List.filter_eq_self.2 fun _ _=>rfl
      rw [e9] at hb
      exact hb
     exact List.isEmpty_iff.1 h0
    have h2:rm P n ⟨F',H⟩ (some d) (.value (.func f)) xs.toList h=some (⟨(d,(bL d r).1)::cN (dS (ik ((bL d r).2.map (·.1))) F') d,q.H⟩,C):=by
     have eP:∀(F0:List (Nat×AV)) (s':AS),gg n ⟨(aT ⟨F,H⟩ ((bL d r).2.map (·.1))).F,(bL d r).2++(aT ⟨F,H⟩ ((bL d r).2.map (·.1))).H⟩ (some d) (bL d r).1=some s'->gg n ⟨(aT ⟨F',H⟩ ((bL d r).2.map (·.1))).F,(bL d r).2++(aT ⟨F',H⟩ ((bL d r).2.map (·.1))).H⟩ (some d) (bL d r).1=some ⟨(d,(bL d r).1)::cN (dS (ik ((bL d r).2.map (·.1))) F') d,s'.H⟩:=fun F0 s' dZ=>by
      have eR:=fun F0=>iO ((bL d r).2.map (·.1)) F0 F H
      rw [(eR F').1,(eR F').2]
      unfold gg at dZ ⊢
      simp only at dZ ⊢
      split at dZ
      ·cases dZ
       simp only [lg]
      ·cases dZ
     unfold rm at h1 ⊢
     rw [eo]
     cases q6:h.b with
     | true =>
      simp only [MZ,callee,q6] at h1 ⊢
      rw [eV]
      split at h1
      ·rename_i hE
       split at h1
       ·rename_i vs C2 d0 hv vh wC
        cases wC
        split at h1
        ·rename_i s' wA dZ
         cases h1
         rw [wA,eP F _ dZ]
        ·cases h1
       ·rename_i wC
        cases wC
       ·cases h1
      ·cases h1
     | false =>
      simp only [MZ,callee,q6,eI q6,fN] at h1 ⊢
      split at h1
      ·rename_i hE
       split at h1
       ·rename_i d0 vv wC
        cases wC
        split at h1
        ·rename_i s' wA dZ
         cases h1
         rw [eo,vv]
         simp only
         rw [wA,eP F _ dZ]
        ·cases h1
       ·rename_i wC
        cases wC
       ·cases h1
      ·cases h1
    have ME:o.op= .call ⟨.value (.func f),xs,ts⟩:=vf
    rw [←hd] at h2
    exact wM (s:=⟨F',H⟩) ME h2
   ·cases dU
  ·cases dU
 ·rename_i t x y hg vf hd
  split at dU
  ·rename_i q C' h1 h2 h3 h4
   cases dU
   refine ⟨hg,fun F' hF=>?_⟩
   rw [hd]
   simp only [vt,DU]
   have h5:=BD (F':=F') h3 (me (H:=H) hF h1) (me (H:=H) hF h2) h4
   exact rZ (s:=⟨F',H⟩) vf hd h5
  ·cases dU
 ·rename_i t len parts d hg vf hd
  split at dU
  ·rename_i h1 h2
   split at dU
   ·rename_i q C' h3
    cases dU
    refine ⟨hg,fun F' hF=>?_⟩
    rw [hd]
    exact A8 (s:=⟨F',H⟩) vf hd (Hu hF h1 h2 h3)
   ·cases dU
  ·cases dU
 ·cases dU
def xW (P:Program) (ops:List Oper) (n:Nat) (s:AS) (o:Oper) (h:Hint):Option ((AV->AV)×AV×List (Nat×Row)×List Prop) :=
 match o.guard with
 | none=>Oh P n s o h
 | some (j,want)=>(match ops[j]? with
  | some p=>(match p.dst with
   | some d=>(match jN s d,h.g == want,tW s.F (.tmp d),Oh P n s {o with guard:=none} h with
    | .val (.bool b),true,true,some (Tr,X,H',C)=>some (Tr,X,H',(b=h.g)::C)
    | _,_,_,_=>none)
   | none=>none)
  | none=>none)
theorem KY {P:Program} {ops:List Oper} {n:Nat} {F:List (Nat×AV)} {H H':List (Nat×Row)} {o:Oper} {h:Hint} {Tr:AV->AV} {X:AV} {C:List Prop} (dU:xW P ops n ⟨F,H⟩ o h=some (Tr,X,H',C)) (hC:bx C) {F':List (Nat×AV)} (hF:∀i x,look F i=some x->look F' i=some x) {S0:bm} {w0 w:World} {a:Act} (hs:iv S0 w0 n ⟨F',H⟩ a w) :
  Region.wanted o (yielded ops.toArray a.tmps)=true∧lZ P n ⟨F',H⟩ o ⟨vt o.dst X (dS Tr F'),H'⟩ []:=by
 unfold xW at dU
 split at dU
 ·rename_i hg
  obtain ⟨-,Eb⟩:=Iz dU
  refine ⟨by unfold Region.wanted;rw [hg],fun _=>Eb F' hF hC⟩
 ·rename_i j want hg
  split at dU
  ·rename_i p hp
   split at dU
   ·rename_i d hd
    split at dU
    ·rename_i b QI X' Wb C' q6 hw UH he
     cases dU
     obtain ⟨AF,hC⟩:=hC
     obtain ⟨-,Eb⟩:=Iz he
     refine ⟨?_,fun _=>Eb F' hF hC⟩
     obtain ⟨φ,hs⟩:=hs
     have ht:=hs.get d
     have e:jN ⟨F',H⟩ d=jN ⟨F,H⟩ d:=me (H:=H) hF UH
     rw [e,q6] at ht
     have hy:=l4 (ops:=ops) hp hd (qg ht)
     unfold Region.wanted;rw [hg];simp only [hy,AF]
     have:h.g=want:=by simpa using hw
     rw [this];simp
    ·cases dU
   ·cases dU
  ·cases dU
theorem wu {od:Option Nat} {i:Nat} {X:AV} {Tr:AV->AV} {F:List (Nat×AV)} (h:od≠some i):look (vt od X (dS Tr F)) i=(look F i).map Tr:=by
 cases od with
 | none=>exact cw _ _ _
 | some d =>
  have cT:d≠i:=fun e=>h (by rw [e])
  simp only [vt]
  rw [aD,if_neg cT,xB cT]
section
variable {P:Program} {ops:List Oper} {S0:bm} {w0:World} {Q:Exit->Act->World->Prop} {n T:Nat} {col col':List AV} {kept:List (Nat×AV)} {H H':List (Nat×Row)} {L:Nat->Bool} {k:Nat} {o:Oper}
theorem vR {h:Hint} {Tr:AV->AV} {X:AV} {C:List Prop} {a:Act} {w:World} (im:(ops.filterMap (·.dst)).Nodup)
  (hk:k<T) (ho:ops[k]?=some o) (Fm:∀d∈bk o,L d=true∧d<T) (fq:∀i x,look kept i=some x-> ∀j p,j<T->ops[j]?=some p->p.dst≠some i)
  (dU:xW P ops n ⟨ji ops col (bk o)++kept,H⟩ o h=some (Tr,X,H',C)) (hC:bx C)
  (vy:∀j z,j<T->j≠k->L j=true->col'[j]?=some z->col[j]?.map Tr=some z∨z= .dead) (PD:col'[k]?=some X)
  (hs:iv S0 w0 n ⟨dH ops col L T++kept,H⟩ a w) :
  if Region.wanted o (yielded ops.toArray a.tmps)=true then o.wp P a w (fun a' w'=>iv S0 w0 n ⟨dH ops col' (eK L k) T++dS Tr kept,H'⟩ a' w') Q else iv S0 w0 n ⟨dH ops col' (eK L k) T++dS Tr kept,H'⟩ (a.put o.dst undef) w:=by
 have hF:=Ai (T:=T) im Fm fq (col:=col)
 obtain ⟨hw,ok⟩:=KY dU hC hF hs
 rw [if_pos hw]
 refine Oper.wp_mono ?_ (ok trivial S0 w0 a w Q hs)
 rintro a' w' ⟨φ,bZ⟩
 refine ⟨φ,aG.sub bZ fun i z hz=>?_⟩
 rw [bM] at hz
 cases hl:look (dH ops col' (eK L k) T) i with
 | some z' =>
  rw [hl] at hz
  simp at hz;subst hz
  obtain ⟨j,p,h1,h2,h3,h4,h5⟩:=kB _ _ _ _ _ _ hl
  by_cases vx:j=k
  ·subst vx
   rw [ho] at h3;injection h3 with h3;subst h3
   rw [PD] at h5;injection h5 with h5;subst h5
   left
   rw [h4];simp only [vt];rw [aD,if_pos rfl]
  ·have Qy:L j=true:=by unfold eK at h2;rw [if_neg vx] at h2;exact h2
   have cT:o.dst≠some i:=fun e=>vx (n0 (ops:=ops.toArray) (by simpa using im) (by simpa using h3) (by simpa using ho) h4 e)
   rcases vy j z' h1 vx Qy h5 with hc|hc
   ·left
    rw [wu cT,bM]
    cases RW:col[j]? with
    | none=>rw [RW] at hc;cases hc
    | some y' =>
     rw [RW] at hc
     rw [gq im col L T j i p y' h1 Qy h3 h4 RW]
     simpa using hc
   ·exact .inr hc
 | none =>
  rw [hl] at hz
  simp at hz
  rw [cw] at hz
  cases su:look kept i with
  | none=>rw [su] at hz;cases hz
  | some y' =>
   rw [su] at hz
   have cT:o.dst≠some i:=fun e=>fq i y' su k o hk ho e
   left
   rw [wu cT,bM,jb fun j p hj hp=>fq i y' su j p hj hp,su]
   simpa using hz
end
theorem rq (ops:List Oper) (col:List AV) (k:Nat):∀(l:List Nat),(∀d∈l,d<k)->ji ops (col.take k) l=ji ops col l
 | [],_=>rfl
 | d::l,h=>by
  have hd:(col.take k)[d]?=col[d]?:=by rw [List.getElem?_take,if_pos (h d (by simp))]
  simp only [ji,hd,rq ops col k l fun e he=>h e (by simp [he])]
instance:Inhabited nG:=⟨⟨[],[],[]⟩⟩
def ny (P:Program) (n T:Nat) (ops:List Oper) (hs:List (Nat×Hint)) (R:List (List Nat)):List Nat->List Nat->List Nat->Bool->List AV->List (Nat×AV)->List (Nat×Row)->Option (List nG×List Prop)
 | [],done,last,first,old,kept,H=>(match yr P ops hs R done [] last first old kept H (ops.take T) 0 [] with
  | some (col,C)=>some ([⟨col,kept,H⟩],C)
  | none=>none)
 | W::rest,done,last,first,old,kept,H=>(match yr P ops hs R done (W::rest) last first old kept H (ops.take T) 0 [],ops[W]? with
  | some (col,C),some o=>(match xW P ops n ⟨ji ops col (bk o)++kept,H⟩ o (gv hs W) with
   | some (Tr,x,H',D)=>(match ny P n T ops hs R rest (done++ [W]) [W] false ((col.map Tr).set W x) (dS Tr kept) H' with
    | some (l,E)=>some (⟨col,kept,H⟩::l,C++(D++E))
    | none=>none)
   | none=>none)
  | _,_=>none)
def Ju (P:Program) (T:Nat) (ops:List Oper) (hs:List (Nat×Hint)) (R:List (List Nat)) (rest done last:List Nat) (first:Bool) (old:List AV) (st:nG):Prop :=
 ∃C,yr P ops hs R done rest last first old st.kept st.H (ops.take T) 0 []=some (st.col,C)∧bx C
theorem vS {P:Program} {n T:Nat} {ops:List Oper} {hs:List (Nat×Hint)} {R:List (List Nat)}:∀(rest done last:List Nat) (first:Bool) (old:List AV) (kept:List (Nat×AV)) (H:List (Nat×Row)) (l:List nG) (E:List Prop),
  ny P n T ops hs R rest done last first old kept H=some (l,E)->bx E ->
  (l.getD 0 default).kept=kept∧(l.getD 0 default).H=H∧Ju P T ops hs R rest done last first old (l.getD 0 default) ∧
  ∀(i W:Nat),rest[i]?=some W-> ∃o Tr x D,ops[W]?=some o∧xW P ops n ⟨ji ops (l.getD i default).col (bk o)++(l.getD i default).kept,(l.getD i default).H⟩ o (gv hs W)=some (Tr,x,(l.getD (i+1) default).H,D)∧bx D ∧
   (l.getD (i+1) default).kept=dS Tr (l.getD i default).kept∧Ju P T ops hs R (rest.drop (i+1)) (done++rest.take (i+1)) [W] false (((l.getD i default).col.map Tr).set W x) (l.getD (i+1) default)
 | [],done,last,first,old,kept,H,l,E,he,hE=>by
  simp only [ny] at he
  split at he
  ·rename_i col C hc
   cases he
   exact ⟨rfl,rfl,⟨_,hc,hE⟩,fun i W h=>by simp at h⟩
  ·cases he
 | W::rest,done,last,first,old,kept,H,l,E,he,hE=>by
  simp only [ny] at he
  split at he
  ·rename_i col C o hc ho
   split at he
   ·rename_i Tr x H' D hw
    split at he
    ·rename_i l' E' MD
     cases he
     obtain ⟨hC,Se⟩:=bQ.1 hE
     obtain ⟨hD,Sd⟩:=bQ.1 Se
     obtain ⟨h1,h2,h3,h4⟩:=vS rest _ _ _ _ _ _ _ _ MD Sd
     refine ⟨rfl,rfl,⟨_,hc,hC⟩,fun i W' hi=>?_⟩
     cases i with
     | zero =>
      simp at hi;subst hi
      exact ⟨o,Tr,x,D,ho,by rw [←h2] at hw;exact hw,hD,h1,by simpa using h3⟩
     | succ i =>
      obtain ⟨o',QI,x',D',k1,k2,k3,k4,k5⟩:=h4 i W' (by simpa using hi)
      refine ⟨o',QI,x',D',k1,k2,k3,k4,?_⟩
      have e:done++(W::rest).take (i+1+1)=done++ [W]++rest.take (i+1):=by simp
      rw [e]
      exact k5
    ·cases he
   ·cases he
  ·cases he
def u_ (R:List (List Nat)):List Nat->Bool
 | []=>true
 | [_]=>true
 | a::b::l=>match (R.getD b []).any (Nat.beq a) with|true=>u_ R (b::l)|false=>false
theorem ru (R:List (List Nat)):∀(l:List Nat),u_ R l=true-> ∀(i a b:Nat),l[i]?=some a->l[i+1]?=some b->a∈R.getD b []
 | [],_,i,a,b,h,_=>by simp at h
 | [x],_,i,a,b,h,h2=>by simp at h2
 | x::y::l,hc,i,a,b,h,h2=>by
  simp only [u_] at hc
  split at hc
  ·rename_i hy
   cases i with
   | zero=>simp at h h2;subst h;subst h2;exact any_beq.1 hy
   | succ i=>exact ru R (y::l) hc i a b (by simpa using h) (by simpa using h2)
  ·cases hc
def wP (T:Nat):List Nat->Bool
 | []=>true
 | a::l=>match Nat.blt a T with|true=>wP T l|false=>false
theorem qo (T:Nat):∀(l:List Nat),wP T l=true-> ∀a∈l,a<T
 | [],_,a,h=>by cases h
 | x::l,hc,a,h=>by
  simp only [wP] at hc
  split at hc
  ·rename_i hx
   rcases List.mem_cons.1 h with rfl|h
   ·simpa [Nat.blt_eq] using hx
   ·exact qo T l hc a h
  ·cases hc
def yb (P:Program) (n T:Nat) (Ws:List Nat) (ops:List Oper) (hs:List (Nat×Hint)) (s:AS):Option (AS×List Prop) :=
 match P.follows .mixedOrders,ly ops.toArray n,oy ops.toArray T,u_ (mb (ops.take T) []) Ws,wP T Ws,nodupB Ws with
 | true,true,true,true,true,true=>(match ny P n T ops hs (mb (ops.take T) []) Ws [] [] true [] (nn ((ops.take T).filterMap (·.dst)) s.F) s.H with
  | some (l,C)=>(match jV P n ops hs (ops.drop T) T ⟨i7 (ops.take T) (l.getD Ws.length default).col++(l.getD Ws.length default).kept,(l.getD Ws.length default).H⟩ with
   | some (s',D)=>some (s',C++D)
   | none=>none)
  | none=>none)
 | _,_,_,_,_,_=>none
theorem lL:∀ {l:List Nat},l.Nodup-> ∀ {i j x:Nat},l[i]?=some x->l[j]?=some x->i=j
 | [],_,i,j,x,h,_=>by simp at h
 | y::l,hn,i,j,x,h1,h2=>by
  rw [List.nodup_cons] at hn
  cases i with
  | zero =>
   cases j with
   | zero=>rfl
   | succ j =>
    simp at h1 h2;subst h1
    exact absurd (List.mem_of_getElem? h2) hn.1
  | succ i =>
   cases j with
   | zero =>
    simp at h1 h2;subst h2
    exact absurd (List.mem_of_getElem? h1) hn.1
   | succ j=>exact congrArg (· +1) (lL hn.2 (i:=i) (j:=j) (x:=x) (by simpa using h1) (by simpa using h2))
theorem m6 (ops:List Oper) (col:List AV) (L:Nat->Bool) (hL:∀k,L k=false):∀T,dH ops col L T= []
 | 0=>rfl
 | k+1=>by simp only [dH,hL k,m6 ops col L hL k]
theorem j9 {col:List AV} {Tr:AV->AV} {W:Nat} {x:AV} {q:Nat} (hq:q≠W) {z:AV} (h:((col.map Tr).set W x).getD q .dead=z):col[q]?.map Tr=some z∨z= .dead:=by
 rw [List.getD_eq_getElem?_getD,List.getElem?_set_ne (Ne.symm hq),List.getElem?_map] at h
 cases hc:col[q]? with
 | none=>rw [hc] at h;exact .inr h.symm
 | some y=>rw [hc] at h;left;simpa using h
section
variable {P:Program} {ops:List Oper} {S0:bm} {w0:World} {Q:Exit->Act->World->Prop}
theorem CI {n T:Nat} {Ws:List Nat} {hs:List (Nat×Hint)} {s s':AS} {C:List Prop} (he:yb P n T Ws ops hs s=some (s',C)) (hC:bx C) {a:Act} {w:World} (f_:iv S0 w0 n s a w) (hQ:∀a' w',iv S0 w0 n s' a' w'->Q .normal a' w'):P.follows .mixedOrders=true∧wpAny P .any ops.toArray Q ops.toArray.size (Array.replicate ops.toArray.size false) a {w with drawn:=w.drawn+1}:=by
 unfold yb at he
 split at he
 ·rename_i hm hB hT vz MF KA
  split at he
  ·rename_i l C1 dL
   split at he
   ·rename_i s2 D oF
    cases he
    obtain ⟨iH,hD⟩:=bQ.1 hC
    obtain ⟨qt,im,vg⟩:=fT hB
    have xI:(ops.filterMap (·.dst)).Nodup:=by simpa using im
    unfold oy at hT
    simp only [Bool.and_eq_true,decide_eq_true_eq] at hT
    obtain ⟨⟨⟨Gf,KQ⟩,KP⟩,KO⟩:=hT
    have R1:T<ops.length:=by simpa using Gf
    have Cn:∀(k:Nat) (o:Oper),ops[k]?=some o-> ∀d∈bk o,d<k:=fun k o h=>qt k o (by simpa using h)
    have MH:∀(k:Nat) (o:Oper) (s:Nat),ops[k]?=some o->o.dst=some s->s<n:=fun k o s h=>vg k o s (by simpa using h)
    generalize R5:mb (ops.take T) []=R at dL vz
    have hR:s7 ops R:=by
     rw [←R5]
     refine qI ops (ops.take T) [] (fun k o _ L _ _ j hj=>by simp at hj) (fun j o h=>?_) Cn
     simpa using bY _ _ _ _ h
    obtain ⟨xJ,KR,MY,pV⟩:=vS _ _ _ _ _ _ _ _ _ dL iH
    have MF:=qo T Ws MF
    have KA:=iB KA
    generalize MA:(fun i=>l.getD i default)=st at *
    have Qb:∀i,l.getD i default=st i:=fun i=>by rw [←MA]
    simp only [Qb] at xJ KR MY pV oF
    have fq:∀i,i≤Ws.length-> ∀(k:Nat) (x:AV),look (st i).kept k=some x-> ∀(j:Nat) (p:Oper),j<T->ops[j]?=some p->p.dst≠some k:=by
     intro i
     induction i with
     | zero =>
      intro _ k x hx j p hj hp
      rw [xJ] at hx
      exact (ki ops T k).1 (fR _ _ _ _ hx).2 j p hj hp
     | succ i ih =>
      intro hi k x hx
      obtain ⟨o,Tr,X,D',-,-,-,k4,-⟩:=pV i (Ws[i]' aj) (List.getElem?_eq_getElem aj)
      rw [k4,cw] at hx
      cases hl:look (st i).kept k with
      | none=>rw [hl] at hx;cases hx
      | some y=>exact ih aj k y hl
    have vy:∀i,i≤Ws.length-> ∃last first old,Ju P T ops hs R (Ws.drop i) (Ws.take i) last first old (st i):=by
     intro i hi
     cases i with
     | zero=>exact ⟨_,_,_,by simpa using MY⟩
     | succ i =>
      obtain ⟨o,Tr,X,D',-,-,-,-,k5⟩:=pV i (Ws[i]' aj) (List.getElem?_eq_getElem aj)
      exact ⟨_,_,_,by simpa using k5⟩
    let J:(Nat->Bool)->Act->World->Prop:=fun L a' w'=>∃i,i≤Ws.length∧(∀(j W:Nat),Ws[j]?=some W->(L W=true↔j<i))∧iv S0 w0 n ⟨dH ops (st i).col L T++(st i).kept,(st i).H⟩ a' w'
    obtain ⟨φ,kT⟩:=f_
    refine ⟨hm,mX (n:=n) Gf KQ KP KO hB J ?_ ?_ ops.toArray.size _ a _ ⟨by simp,fun k o hk=>?_⟩ ?_ (fun j _=>by rw [getD_replicate_false]) (by simp)⟩
    ·intro k o L a' w' hk ho AJ i9 xM Au ⟨i,hi,hW,f_⟩
     have qW:ops[k]?=some o:=by simpa using ho
     have gC:∀(j:Nat) (p:Oper),L j=true->ops[j]?=some p-> ∀d∈bk p,L d=true:=fun j p hj hp=>xM j p hj (by simpa using hp)
     have o8:∀j∈R.getD k [],L j=true:=hR k o qW L gC i9
     have pX:∀q,L q=true-> ∀j∈R.getD q [],L j=true:=fun q hq j hj=>by
      cases HX:ops[q]? with
      | some p=>exact hR q p HX L gC (fun d hd=>gC q p hq HX d hd) j hj
      | none =>
       exfalso
       have h1:ops.length≤q:=List.getElem?_eq_none_iff.1 HX
       have:=Au q aj
       rw [hq] at this;cases this
     have PC:∀d∈bk o,L d=true∧d<T:=fun d hd=>⟨i9 d hd,by have:=Cn k o qW d hd;omega⟩
     have uw:∀i',i≤i'-> ∀q,(∀j∈R.getD q [],L j=true)->hit (R.getD q []) (Ws.drop i')=false:=by
      intro i' jd q hq
      cases hh:hit (R.getD q []) (Ws.drop i') with
      | false=>rfl
      | true =>
       exfalso
       obtain ⟨x,h1,h2⟩:=nQ.1 hh
       obtain ⟨j,hj⟩:=List.mem_iff_getElem?.1 h2
       rw [List.getElem?_drop] at hj
       have:=(hW _ x hj).1 (hq x h1)
       omega
     by_cases KD:k∈Ws
     ·obtain ⟨j,hj⟩:=List.mem_iff_getElem?.1 KD
      have MG:j<Ws.length:=(List.getElem?_eq_some_iff.1 hj).1
      have LH:¬j<i:=fun h=>by have:=(hW j k hj).2 h;rw [AJ] at this;cases this
      have e:j=i:=by
       rcases Nat.lt_or_ge i j with h|h
       ·obtain ⟨j',rfl⟩:∃j',j=j'+1:=⟨j-1,aj⟩
        have Ku:Ws[j']?=some (Ws[j']' aj):=List.getElem?_eq_getElem aj
        have h1:=o8 _ (ru R Ws vz j' _ k Ku hj)
        have:=(hW j' _ Ku).1 h1
        omega
       ·omega
      subst e
      obtain ⟨o',Tr,x,D',k1,k2,k3,k4,Cc,k5,k6⟩:=pV j k hj
      rw [qW] at k1;cases k1
      simp only [List.nil_append] at k5
      obtain ⟨c1,c2,c3⟩:=jw _ 0 [] _ _ k5 k6 rfl
      simp only [Nat.zero_add] at c1 c3
      have R2:(ops.take T).length=T:=by rw [List.length_take];omega
      have NV:k ∉ Ws.drop (j+1):=fun hm=>by
       obtain ⟨j2,xK⟩:=List.mem_iff_getElem?.1 hm
       rw [List.getElem?_drop] at xK
       have:=lL KA hj xK
       omega
      have RD:k∈Ws.take (j+1):=List.mem_iff_getElem?.2 ⟨j,by rw [List.getElem?_take,if_pos aj];exact hj⟩
      have hold:((((st j).col.map Tr).set k x).getD k .dead)=x:=by
       obtain ⟨last,first,old,Cd,Fp,KS⟩:=vy j hi
       obtain ⟨d1,-,-⟩:=jw _ 0 [] _ _ Fp KS rfl
       rw [Nat.zero_add,R2] at d1
       rw [List.getD_eq_getElem?_getD,List.getElem?_set_self (by rw [List.length_map];omega)];rfl
      have iT:=vR (P:=P) (S0:=S0) (w0:=w0) (Q:=Q) (n:=n) (T:=T) (col':=(st (j+1)).col) (L:=L) (a:=a') (w:=w') xI hk qW PC (fq j hi) k2 k3 (by
       intro q z hq Pb R_ hz
       have HX:(ops.take T)[q]?=some (ops[q]' aj):=by rw [List.getElem?_take,if_pos hq];exact List.getElem?_eq_getElem aj
       obtain ⟨x',D2,e1,e2,e3⟩:=c3 q _ HX
       rw [e1] at hz;injection hz with hz;subst hz
       unfold ql at e3
       split at e3
       ·split at e3
        ·split at e3
         ·rename_i xx CC dU
          split at e3
          ·cases e3
           exact j9 Pb e2.1
          ·rename_i gb
           exfalso
           cases hh:hit (R.getD q []) [k] with
           | false=>exact gb rfl hh
           | true =>
            obtain ⟨y,h1,h2⟩:=nQ.1 hh
            have:y=k:=by simpa using h2
            subst this
            have:=pX q R_ y h1
            rw [AJ] at this;cases this
         ·cases e3
        ·cases e3
         exact j9 Pb rfl
       ·cases e3
        exact .inr rfl) (by
       have Eb:(ops.take T)[k]?=some o:=by rw [List.getElem?_take,if_pos hk];exact qW
       obtain ⟨x',D2,e1,e2,e3⟩:=c3 k _ Eb
       rw [e1]
       unfold ql at e3
       have r1:(Ws.drop (j+1)).any (Nat.beq k)=false:=by
        cases hh:(Ws.drop (j+1)).any (Nat.beq k) with
        | false=>rfl
        | true=>exact absurd (any_beq.1 hh) NV
       have r2:=uw (j+1) aj k o8
       have r3:(Ws.take (j+1)).any (Nat.beq k)=true:=any_beq.2 RD
       rw [r1,r2,r3] at e3
       simp only at e3
       injection e3 with e3;injection e3 with e3 _
       rw [←e3,hold]) f_
      have fin:∀rC fp,iv S0 w0 n ⟨dH ops (st (j+1)).col (eK L k) T++dS Tr (st j).kept,(st (j+1)).H⟩ rC fp->J (eK L k) rC fp:=by
       intro rC fp h
       refine ⟨j+1,aj,fun j2 W2 h2=>?_,by rw [k4];exact h⟩
       by_cases e:W2=k
       ·subst e
        have:=lL KA hj h2
        unfold eK;rw [if_pos rfl];simp;omega
       ·unfold eK;rw [if_neg e,hW j2 W2 h2]
        have:j2≠j:=fun e2=>by subst e2;rw [hj] at h2;cases h2;exact e rfl
        omega
      split
      ·rename_i hw
       rw [if_pos hw] at iT
       exact Oper.wp_mono fin iT
      ·rename_i hw
       rw [if_neg hw] at iT
       exact fin _ _ iT
     ·obtain ⟨last,first,old,Cc,k5,k6⟩:=vy i hi
      obtain ⟨c1,c2,c3⟩:=jw _ 0 [] _ _ k5 k6 rfl
      simp only [Nat.zero_add] at c1 c3
      have Eb:(ops.take T)[k]?=some o:=by rw [List.getElem?_take,if_pos hk];exact qW
      obtain ⟨x',D2,e1,e2,e3⟩:=c3 k _ Eb
      unfold ql at e3
      have r1:(Ws.drop i).any (Nat.beq k)=false:=by
       cases hh:(Ws.drop i).any (Nat.beq k) with
       | false=>rfl
       | true=>exact absurd (List.mem_of_mem_drop (any_beq.1 hh)) KD
      have r2:=uw i (Nat.le_refl _) k o8
      have r3:(Ws.take i).any (Nat.beq k)=false:=by
       cases hh:(Ws.take i).any (Nat.beq k) with
       | false=>rfl
       | true=>exact absurd (List.mem_of_mem_take (any_beq.1 hh)) KD
      have r4:(Ws.take i).any (fun W=>(R.getD W []).any (Nat.beq k))=false:=by
       cases hh:(Ws.take i).any (fun W=>(R.getD W []).any (Nat.beq k)) with
       | false=>rfl
       | true =>
        exfalso
        obtain ⟨W,h1,h2⟩:=List.any_eq_true.1 hh
        obtain ⟨j,hj⟩:=List.mem_iff_getElem?.1 h1
        rw [List.getElem?_take] at hj
        split at hj
        ·rename_i LH
         have:=pX W ((hW j W hj).2 LH) k (any_beq.1 h2)
         rw [AJ] at this;cases this
        ·cases hj
      rw [r1,r2,r3,r4] at e3
      simp only at e3
      have dU:∃C',sy P ops ⟨ji ops ((st i).col.take k) (bk o)++(st i).kept,(st i).H⟩ o (gv hs k)=some (x',C')∧bx C':=by
       split at e3
       ·rename_i xx CC dU
        split at e3
        ·cases e3;exact ⟨_,dU,e2.2⟩
        ·cases e3;exact ⟨_,dU,e2⟩
       ·cases e3
      obtain ⟨C',dU,PL⟩:=dU
      rw [rq ops _ k _ (Cn k o qW)] at dU
      have iT:=tz (P:=P) (S0:=S0) (w0:=w0) (Q:=Q) (n:=n) (T:=T) (L:=L) (a:=a') (w:=w') xI MH hk qW PC (fq i hi) dU PL e1 f_
      have fin:∀rC fp,iv S0 w0 n ⟨dH ops (st i).col (eK L k) T++(st i).kept,(st i).H⟩ rC fp->J (eK L k) rC fp:=by
       intro rC fp h
       refine ⟨i,hi,fun j2 W2 h2=>?_,h⟩
       have e:W2≠k:=fun e=>by subst e;exact KD (List.mem_of_getElem? h2)
       unfold eK;rw [if_neg e];exact hW j2 W2 h2
      split
      ·rename_i hw
       rw [if_pos hw] at iT
       exact Oper.wp_mono fin iT
      ·rename_i hw
       rw [if_neg hw] at iT
       exact fin _ _ iT
    ·intro L a' w' gh Au ⟨i,hi,hW,cz,f_⟩
     have e:i=Ws.length:=by
      rcases Nat.lt_or_ge i Ws.length with h|h
      ·have Ku:Ws[i]?=some (Ws[i]'h):=List.getElem?_eq_getElem h
       have:=(hW i _ Ku).1 (gh _ (MF _ (List.getElem_mem h)))
       omega
      ·omega
     subst e
     have j8:=jJ (S0:=S0) (w0:=w0) (Q:=Q) _ _ _ _ _ oF hD a' w' ⟨cz,aG.sub f_ fun i x hx=>.inl ?_⟩ hQ
     ·simpa using j8
     ·rw [bM] at hx ⊢
      cases hh:look (i7 (ops.take T) (st Ws.length).col) i with
      | some y =>
       rw [hh] at hx
       simp at hx;subst hx
       obtain ⟨k,o,h1,h2,h3⟩:=kD _ _ _ _ hh
       have vw:k<T:=by have:=(List.getElem?_eq_some_iff.1 h1).1;rw [List.length_take] at this;omega
       rw [gq xI _ L T k i o y vw (gh k vw) (bY _ _ _ _ h1) h2 h3];rfl
      | none =>
       rw [hh] at hx
       simp at hx
       rw [jb fun j p hj hp=>fq _ (Nat.le_refl _) i x hx j p hj hp]
       simpa using hx
    ·rw [getD_replicate_false] at hk;cases hk
    ·refine ⟨0,aj,fun j W _=>by show (Array.replicate ops.toArray.size false).getD W false=true↔_;rw [getD_replicate_false];simp,φ,?_⟩
     rw [m6 _ _ _ (fun k=>getD_replicate_false _ _)]
     have hg:aG S0 w0 n [] s a w.drew φ:=kT.grow ((Below.refl _ _).drew)
     rw [KR,xJ]
     exact aG.sub (F:=s.F) hg fun i x hx=>.inl (fR _ _ _ _ (by simpa using hx)).1
   ·cases he
  ·cases he
 ·cases he
def ra (P:Program) (n T:Nat) (Ws:List Nat) (hs:List (Nat×Hint)) (c:Code) (s:AS):Option (AS×List Prop) :=
 match c with
 | .region _ ⟨l⟩ true=>yb P n T Ws l hs s
 | _=>none
theorem bf.Oy {n:Nat} {c:Code} {Q:Exit->AS->Prop} {s s':AS} {C:List Prop} (T:Nat) (Ws:List Nat) (hs:List (Nat×Hint)) (he:ra P n T Ws hs c s=some (s',C)) (hC:bx C) (h:Q .normal s'):bf P n c Q s:=by
 intro S0 w0 a w f_
 unfold ra at he
 split at he
 ·exact CI (S0:=S0) (w0:=w0) he hC f_ fun a' w' bZ=>⟨s',h,bZ.one⟩
 ·cases he
theorem bf.SI {n:Nat} {c:Code} {Q:Exit->AS->Prop} {s:AS} {C:List Prop} (T:Nat) (Ks:List Nat) (hs:List (Nat×Hint)) (he:oP (ra P n T Ks hs c s)=some C) (hC:bx C) (h:Q .normal (pF (ra P n T Ks hs c s))):bf P n c Q s:=bf.Oy T Ks hs (iP he) hC h
end
end Go.Proofs.YtjgbhhnghedgdaaGreatDoor
