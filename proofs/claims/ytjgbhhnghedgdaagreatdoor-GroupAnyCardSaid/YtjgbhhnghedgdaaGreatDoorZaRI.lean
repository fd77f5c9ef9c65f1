import Derived.Test.YtjgbhhnghedgdaaGreatDoorZaRH
set_option linter.all false
namespace Go.Proofs.YtjgbhhnghedgdaaGreatDoor
open Go.RowKit
def eN (L:Nat->Bool) (k:Nat):Nat->Bool:=fun j=>if j=k then true else L j
structure Q6 (ops:Array Oper) (listed:Array Bool):Prop where
 size:listed.size=ops.size
 closed:∀k o,listed.getD k false=true->ops[k]?=some o-> ∀d∈bk o,listed.getD d false=true
section
variable {P:Program} {ops:Array Oper} {Q:Exit->Act->World->Prop}
theorem na {n T:Nat} (hT:T<ops.size) (J2:Region.sinkB .any ops T=true) (vJ:Region.chainB .any ops T=true) (Pt:Region.seqB .any ops (ops.size-T) T ((List.range ops.size).map (decide<| · <T)).toArray=true) (hB:lD ops n=true) (J:(Nat->Bool)->Act->World->Prop)
  (vp:∀k o (L:Nat->Bool) a' w',k<T->ops[k]?=some o->L k=false->(∀d∈bk o,L d=true)->(∀j p,L j=true->ops[j]?=some p-> ∀d∈bk p,L d=true)->(∀j,T≤j->L j=false)->J L a' w' ->
   (if Region.wanted o (yielded ops a'.tmps)=true then o.wp P a' w' (fun rK fp=>J (eN L k) rK fp) Q else J (eN L k) (a'.put o.dst undef) w'))
  (ke:∀(L:Nat->Bool) a' w',(∀k,k<T->L k=true)->(∀j,T≤j->L j=false)->J L a' w'->wpList P ops Q (ops.toList.drop T) a' w') :
  ∀(fuel:Nat) (listed:Array Bool) (a':Act) (w':World),Q6 ops listed->J (fun k=>listed.getD k false) a' w'->(∀j,T≤j->listed.getD j false=false) ->
   (listed.toList.filter (· == false)).length=fuel->wpAny P .any ops Q fuel listed a' w':=by
 obtain ⟨dh,ik,vq⟩:=fR hB
 have ky:∀(listed:Array Bool),Q6 ops listed-> ∀k,k<T->listed.getD k false=false-> ∃i,i<T∧i∈Region.ready .any ops listed:=by
  intro listed I k
  induction k using Nat.strongRecOn with
  | _ k ih =>
   intro hk hl
   have iG:k<listed.size:=by rw [I.size];omega
   have r9:k<ops.size:=ah
   have oA:ops[k]?=some ops[k]:=Array.getElem?_eq_getElem r9
   by_cases gi:∀d∈bk ops[k],listed.getD d false=true
   ·refine ⟨k,hk,?_⟩
    rw [mem_ready]
    refine ⟨?_,ops[k],oA,fun e he hb=>gi e.on ?_⟩
    ·simp [iG] at hl ⊢;exact hl
    ·unfold bk
     exact List.mem_map.2 ⟨e,List.mem_filter.2 ⟨by simpa using he,hb⟩,rfl⟩
   ·have:∃d,d∈bk ops[k]∧listed.getD d false=false:=by
     refine Classical.byContradiction fun gf=>gi fun d hd=>?_
     cases hx:listed.getD d false with
     | true=>rfl
     | false=>exact absurd ⟨d,hd,hx⟩ gf
    obtain ⟨d,hd,hx⟩:=this
    exact ih d (dh k _ oA d hd) (by have:=dh k _ oA d hd;omega) hx
 have rest:∀(fuel:Nat) (listed:Array Bool) (a':Act) (w':World),Q6 ops listed->J (fun k=>listed.getD k false) a' w'->(∀j,T≤j->listed.getD j false=false)->(listed.toList.filter (· == false)).length=fuel->(∀k,k<T->listed.getD k false=true)->wpAny P .any ops Q fuel listed a' w':=by
  intro fuel listed a' w' I hJ tail hc all
  have nG:listed=((List.range ops.size).map (decide<| · <T)).toArray:=by
   apply Array.ext_getElem?
   intro x
   by_cases hx:x<ops.size
   ·have Er:x<listed.size:=by rw [I.size];exact hx
    have hr:((List.range ops.size).map (decide<| · <T)).toArray[x]?=some (decide (x<T)):=by simp [hx]
    rw [hr]
    by_cases AJ:x<T
    ·have:=all x AJ;simp [Er] at this ⊢;rw [this,decide_eq_true AJ]
    ·have:=tail x ah;simp [Er] at this ⊢;rw [this,decide_eq_false AJ]
   ·rw [Array.getElem?_eq_none (by rw [I.size];omega),Array.getElem?_eq_none (by simp;omega)]
  have hlen:fuel=(ops.toList.drop T).length:=by
   rw [←hc,nG]
   simp only [List.length_drop,Array.length_toList,List.filter_map,List.length_map]
   have key:∀n,T≤n->((List.range n).filter ((fun x=>x == false) ∘ (decide<| · <T))).length=n-T:=by
    intro n hn
    induction n with
    | zero=>simp
    | succ n ih =>
     rw [List.range_succ,List.filter_append,List.length_append]
     by_cases PK:T≤n
     ·rw [ih PK]
      have:((fun x=>x == false) ∘ (decide<| · <T)) n=true:=by simp;omega
      rw [List.filter_cons_of_pos this];simp;omega
     ·obtain rfl:T=n+1:=ah
      have h1:(List.range n).filter ((fun x=>x == false) ∘ (decide<| · <n+1))= []:=by
       rw [List.filter_eq_nil_iff];intro x hx;have:=List.mem_range.1 hx;simp;omega
      have h2:[n].filter ((fun x=>x == false) ∘ (decide<| · <n+1))= []:=by
       rw [List.filter_eq_nil_iff];intro x hx;simp at hx;subst hx;simp
      rw [h1,h2];simp
   exact key ops.size ah
  rw [hlen]
  refine wpAny_of_seq (ops.toList.drop T) T listed a' w' (fun j=>by rw [List.getElem?_drop];simp) ?_ (ke _ a' w' all tail hJ)
  rw [nG]
  simpa using Pt
 intro fuel
 induction fuel with
 | zero =>
  intro listed a' w' I hJ tail hc
  refine rest 0 listed a' w' I hJ tail hc fun k hk=>?_
  cases hx:listed.getD k false with
  | true=>rfl
  | false =>
   exfalso
   have iG:k<listed.size:=by rw [I.size];omega
   have:false∈listed.toList.filter (· == false):=by
    refine List.mem_filter.2 ⟨?_,rfl⟩
    have h1:listed.toList[k]?=some false:=by simp [iG] at hx ⊢;exact hx
    exact List.mem_of_getElem? h1
   have:=List.length_pos_of_mem this
   omega
 | succ fuel ih =>
  intro listed a' w' I hJ tail hc
  by_cases hex:∀k,k<T->listed.getD k false=true
  ·exact rest (fuel+1) listed a' w' I hJ tail hc hex
  have Po:∃k,k<T∧listed.getD k false=false:=by
   refine Classical.byContradiction fun gf=>hex fun k hk=>?_
   cases hx:listed.getD k false with
   | true=>rfl
   | false=>exact absurd ⟨k,hk,hx⟩ gf
  obtain ⟨k0,xU,H7⟩:=Po
  have P_:HeadInv .any ops T listed:=⟨I.size,fun j oj hj hl e he hb=>I.closed j oj hl hj e.on (by
    unfold bk
    exact List.mem_map.2 ⟨e,List.mem_filter.2 ⟨by simpa using he,hb⟩,rfl⟩),fun t ht Ps=>getD_in (by rw [I.size];exact Ps) (tail t ht)⟩
  have Iw:listed.getD k0 true=false:=getD_in (by rw [I.size];omega) H7
  refine ⟨fun hr=>(by
   obtain ⟨i,_,hi⟩:=ky listed I k0 xU H7
   rw [hr] at hi;cases hi),fun i hi=>?_⟩
  have PR:i<T:=Classical.byContradiction fun h=>tail_waits J2 vJ hT P_ _ k0 rfl xU Iw i ah hi
  obtain ⟨h0,o,ho,gi⟩:=mem_ready.1 hi
  have Ix:i<listed.size:=by rw [I.size];exact (Array.getElem?_eq_some_iff.1 ho).1
  have OG:listed.getD i false=false:=by simp [Ix] at h0 ⊢;exact h0
  have jc:∀d∈bk o,listed.getD d false=true:=by
   intro d hd
   unfold bk at hd
   obtain ⟨e,he,rfl⟩:=List.mem_map.1 hd
   obtain ⟨Mb,K6⟩:=List.mem_filter.1 he
   exact gi e (by simpa using Mb) K6
  have next:Q6 ops (listed.setIfInBounds i true):=by
   refine ⟨by simpa using I.size,fun k p hk hp d hd=>?_⟩
   by_cases sG:i=k
   ·subst sG
    rw [ho] at hp;injection hp with hp;subst hp
    exact getD_set_true (jc d hd)
   ·rw [getD_set_ne false sG] at hk
    exact getD_set_true (I.closed k p hk hp d hd)
  have eW:(fun k=>(listed.setIfInBounds i true).getD k false)=eN (fun k=>listed.getD k false) i:=by
   funext k
   unfold eN
   by_cases sG:k=i
   ·subst sG;rw [if_pos rfl];simp [Ix]
   ·rw [if_neg sG,getD_set_ne false (Ne.symm sG)]
  have nC:∀j,T≤j->(listed.setIfInBounds i true).getD j false=false:=fun j hj=>by rw [getD_set_ne false ah];exact tail j hj
  have nF:((listed.setIfInBounds i true).toList.filter (· == false)).length=fuel:=by
   have PM:((listed.setIfInBounds i true).toList.filter (· == false)).length+1=(listed.toList.filter (· == false)).length:=by
    rw [Array.toList_setIfInBounds]
    have jj:listed.toList[i]?=some false:=by simp [Ix] at h0 ⊢;exact h0
    exact pv _ i jj
   omega
  have iP:=vp i o (fun k=>listed.getD k false) a' w' PR ho OG jc (fun j p hj hp d hd=>I.closed j p hj hp d hd) tail hJ
  rw [←eW] at iP
  unfold wpOp
  rw [ho]
  simp only
  by_cases hw:Region.wanted o (yielded ops a'.tmps)=true
  ·rw [if_pos hw] at iP ⊢
   left
   exact Oper.wp_mono (fun rK fp h=>ih _ _ _ next h nC nF) iP
  ·rw [if_neg hw] at iP ⊢
   exact ih _ _ _ next iP nC nF
end
def dO (ops:List Oper) (col:List AV) (L:Nat->Bool):Nat->List (Nat×AV)
 | 0=>[]
 | k+1=>match L k,ops[k]?,col[k]? with
  | true,some o,some x=>(match o.dst with|some i=>(i,x)::dO ops col L k|none=>dO ops col L k)
  | _,_,_=>dO ops col L k
theorem kH (ops:List Oper) (col:List AV) (L:Nat->Bool):∀(T i:Nat) (x:AV),look (dO ops col L T) i=some x-> ∃k o,k<T∧L k=true∧ops[k]?=some o∧o.dst=some i∧col[k]?=some x
 | 0,i,x,h=>by cases h
 | k+1,i,x,h=>by
  have step:look (dO ops col L k) i=some x-> ∃k' o,k'<k+1∧L k'=true∧ops[k']?=some o∧o.dst=some i∧col[k']?=some x:=fun h=>by
   obtain ⟨k',o,h1,h2⟩:=kH ops col L k i x h
   exact ⟨k',o,ah,h2⟩
  simp only [dO] at h
  split at h
  ·rename_i o y hL ho hy
   split at h
   ·rename_i j hj
    rw [aE] at h
    by_cases e:j=i
    ·rw [if_pos e] at h;injection h with h;subst h;subst e
     exact ⟨k,o,ah,hL,ho,hj,hy⟩
    ·rw [if_neg e] at h;exact step h
   ·exact step h
  ·exact step h
theorem gp {ops:List Oper} (ik:(ops.filterMap (·.dst)).Nodup) (col:List AV) (L:Nat->Bool):∀(T k i:Nat) (o:Oper) (x:AV),k<T->L k=true->ops[k]?=some o->o.dst=some i->col[k]?=some x->look (dO ops col L T) i=some x
 | 0,k,i,o,x,h,_,_,_,_=>by omega
 | m+1,k,i,o,x,hk,hL,ho,hd,hx=>by
  by_cases QR:k=m
  ·subst QR
   simp only [dO,hL,ho,hx,hd,aE,if_pos]
  ·have ih:=gp ik col L m k i o x ah hL ho hd hx
   simp only [dO]
   split
   ·rename_i p y _ hp _
    split
    ·rename_i j hj
     rw [aE]
     have cV:j≠i:=fun e=>by
      subst e
      exact QR (oo (ops:=ops.toArray) (by simpa using ik) (by simpa using ho) (by simpa using hp) hd hj)
     rw [if_neg cV];exact ih
    ·exact ih
   ·exact ih
theorem jf {ops:List Oper} {col:List AV} {L:Nat->Bool} {T i:Nat} (h:∀k o,k<T->ops[k]?=some o->o.dst≠some i):look (dO ops col L T) i=none:=by
 cases hl:look (dO ops col L T) i with
 | none=>rfl
 | some x =>
  obtain ⟨k,o,h1,-,h3,h4,-⟩:=kH ops col L T i x hl
  exact absurd h4 (h k o h1 h3)
theorem aL.sub {S0:bm} {w0 w:World} {n:Nat} {O:List Nat} {F F':List (Nat×AV)} {H:List (Nat×Row)} {a:Act} {φ:Nat->Option Nat} (h:aL S0 w0 n O ⟨F,H⟩ a w φ) (hF:∀i x,look F' i=some x->look F i=some x∨x= .dead):aL S0 w0 n O ⟨F',H⟩ a w φ:=by
 refine ⟨h.jP,h.jS,h.cX,fun i x hx=>?_,h.rows,h.only,h.inj,h.cW,h.apart,h.new⟩
 rcases hF i x hx with h1|h1
 ·exact h.cC i x h1
 ·rw [h1];exact .dead _
section
variable {P:Program} {ops:List Oper} {S0:bm} {w0:World} {Q:Exit->Act->World->Prop} {n T:Nat} {col:List AV} {kept:List (Nat×AV)} {H:List (Nat×Row)} {L:Nat->Bool} {k:Nat} {o:Oper}
theorem Ax (ik:(ops.filterMap (·.dst)).Nodup) (FM:∀d∈bk o,L d=true∧d<T) (fq:∀i x,look kept i=some x-> ∀j p,j<T->ops[j]?=some p->p.dst≠some i) (i:Nat) (x:AV) (h:look (jo ops col (bk o)++kept) i=some x):look (dO ops col L T++kept) i=some x:=by
 rw [bM] at h ⊢
 cases hd:look (jo ops col (bk o)) i with
 | some y =>
  rw [hd] at h
  simp at h;subst h
  obtain ⟨d,p,h1,h2,h3,h4⟩:=nZ _ _ _ _ _ hd
  rw [gp ik col L T d i p y (FM d h1).2 (FM d h1).1 h2 h3 h4];rfl
 | none =>
  rw [hd] at h
  simp at h
  rw [jf fun j p hj hp=>fq i x h j p hj hp]
  simpa using h
theorem tI {h:Hint} {x:AV} {C:List Prop} {a:Act} {w:World} (ik:(ops.filterMap (·.dst)).Nodup) (vq:∀(k:Nat) (o:Oper) (s:Nat),ops[k]?=some o->o.dst=some s->s<n)
  (hk:k<T) (ho:ops[k]?=some o) (FM:∀d∈bk o,L d=true∧d<T) (fq:∀i x,look kept i=some x-> ∀j p,j<T->ops[j]?=some p->p.dst≠some i)
  (dZ:sL P ops ⟨jo ops col (bk o)++kept,H⟩ o h=some (x,C)) (hC:bx C) (hx:col[k]?=some x) (hs:iu S0 w0 n ⟨dO ops col L T++kept,H⟩ a w) :
  if Region.wanted o (yielded ops.toArray a.tmps)=true then o.wp P a w (fun a' w'=>iu S0 w0 n ⟨dO ops col (eN L k) T++kept,H⟩ a' w') Q else iu S0 w0 n ⟨dO ops col (eN L k) T++kept,H⟩ (a.put o.dst undef) w:=by
 obtain ⟨φ,hs⟩:=hs
 have Cw:=hs.sub (F':=jo ops col (bk o)++kept) (fun i y hy=>.inl (Ax ik FM fq i y hy))
 have iP:=EM (Q:=Q) dZ hC Cw (b:=a) rfl
 have fin:∀v w',Below w.heap.size w w'->Den (az H φ) (aN S0 w' φ []) w' v x->iu S0 w0 n ⟨dO ops col (eN L k) T++kept,H⟩ (a.put o.dst v) w':=by
  intro v w' hb hd
  have hg:=hs.grow hb
  refine ⟨φ,(tD ..).trans hg.jP,(pr ..).trans hg.jS,hg.cX,fun i y hy=>?_,hg.rows,hg.only,hg.inj,hg.cW,hg.apart,hg.new⟩
  have hy:look (dO ops col (eN L k) T++kept) i=some y:=hy
  have same:o.dst≠some i->(a.put o.dst v).tmps.getD i undef=a.tmps.getD i undef:=fun cV=>by
   cases TI:o.dst with
   | none=>rfl
   | some j =>
    have dh:j<a.tmps.size:=by rw [hg.jP];exact vq k o j ho TI
    rw [pR a j i v dh,if_neg (fun e=>cV (by rw [TI,e]))]
  rw [bM] at hy
  cases hl:look (dO ops col (eN L k) T) i with
  | some z =>
   rw [hl] at hy
   simp at hy;subst hy
   obtain ⟨j,p,h1,h2,h3,h4,h5⟩:=kH _ _ _ _ _ _ hl
   by_cases vH:j=k
   ·subst vH
    rw [ho] at h3;injection h3 with h3;subst h3
    rw [hx] at h5;injection h5 with h5;subst h5
    have dh:i<a.tmps.size:=by rw [hg.jP];exact vq j o i ho h4
    rw [h4,pR a i i v dh,if_pos rfl]
    exact hd
   ·have QW:L j=true:=by unfold eN at h2;rw [if_neg vH] at h2;exact h2
    have cV:o.dst≠some i:=fun e=>vH (oo (ops:=ops.toArray) (by simpa using ik) (by simpa using h3) (by simpa using ho) h4 e)
    rw [same cV]
    refine hg.cC i z ?_
    show look (dO ops col L T++kept) i=some z
    rw [bM,gp ik col L T j i p z h1 QW h3 h4 h5];rfl
  | none =>
   rw [hl] at hy
   simp at hy
   have cV:o.dst≠some i:=fq i y hy k o hk ho
   rw [same cV]
   refine hg.cC i y ?_
   show look (dO ops col L T++kept) i=some y
   rw [bM,jf fun j p hj hp=>fq i y hy j p hj hp]
   simpa using hy
 unfold gQ at iP
 split
 ·rename_i hw
  rw [if_pos hw] at iP
  exact Oper.wp_mono (fun a' w' ⟨v,h1,h2,h3,h4⟩=>by subst h1;exact fin v w' h2 h4) iP
 ·rename_i hw
  rw [if_neg hw] at iP
  exact fin undef w (Below.refl _ _) iP.2
end
def JJ (d:Nat):AV->AV->AV
 | .ref id,x=>jL d (jL id x)
 | .pre id _,x=>jL d (jL id x)
 | _,x=>jL d x
def Qw (d:Nat) (X:AV) (F:List (Nat×AV)):List (Nat×AV):=(d,.ref d)::cS (eg (JJ d X) F) d
theorem lW {α:Type} (f g:α->α):∀(l:List (Nat×α)),eg f (eg g l)=eg (fun x=>f (g x)) l
 | []=>rfl
 | (k,x)::l=>by simp only [eg,lW f g l]
theorem G6 (P:Program) (F F':List (Nat×AV)) (H:List (Nat×Row)) (xt:TypeId) (z:Nat) (x:AV):qL P ⟨F',H⟩ xt z x=qL P ⟨F,H⟩ xt z x:=by
 cases x<;>rfl
theorem JI {P:Program} {n:Nat} {F F':List (Nat×AV)} {H:List (Nat×Row)} {d t xt:Nat} {X Y:AV} {h:Hint} {q:AS} {C:List Prop} (he:kR P n ⟨F,H⟩ d t xt X Y h=some (q,C)):kR P n ⟨F',H⟩ d t xt X Y h=some (⟨Qw d X F',q.H⟩,C):=by
 unfold kR at he ⊢
 split at he
 ·rename_i el hu
  split at he
  ·rename_i i hi
   split at he
   ·rename_i zero z b hz dw xY
    split at he
    ·rename_i cells s1 row uz lC gu
     split at he
     ·rename_i C' s' oP eW
      cases he
      have PZ:∃Og,qm ⟨F',H⟩ (z+1) X=some (cells,Og)∧Og.H=s1.H∧eg (jL d) Og.F=eg (JJ d X) F':=by
       unfold qm at lC ⊢
       split at lC
       ·cases lC;exact ⟨_,rfl,rfl,rfl⟩
       ·split at lC
        ·rename_i e' _ NT hl
         split at lC
         ·rename_i hb
          cases lC
          refine ⟨ck _ ⟨F',H⟩,?_,rfl,?_⟩
          ·have rh:look (⟨F',H⟩:AS).H _=_:=hl
           simp only [rh,hb]
          ·exact lW _ _ _
         ·cases lC
        ·cases lC
       ·split at lC
        ·rename_i e' _ NT hl
         split at lC
         ·rename_i hb
          cases lC
          refine ⟨ck _ ⟨F',H⟩,?_,rfl,?_⟩
          ·have rh:look (⟨F',H⟩:AS).H _=_:=hl
           simp only [rh,hb]
          ·exact lW _ _ _
         ·cases lC
        ·cases lC
       ·split at lC
        ·rename_i hb
         cases lC
         exact ⟨⟨F',H⟩,rfl,rfl,rfl⟩
        ·cases lC
       ·cases lC
      obtain ⟨Og,GD,zf,U9⟩:=PZ
      rw [G6 P F F'] at *
      simp only [uz,GD,gu,oP]
      unfold gE at eW ⊢
      simp only at eW ⊢
      split at eW
      ·cases eW
       have e1:(ck d Og).H=(ck d s1).H:=by unfold ck;rw [zf]
       have e2:(ck d Og).F=eg (JJ d X) F':=U9
       simp only [lp,e1,e2,Qw]
      ·cases eW
     ·cases he
    ·cases he
   ·cases he
  ·cases he
 ·cases he
section
variable {P:Program} {ops:List Oper} {S0:bm} {w0:World} {Q:Exit->Act->World->Prop} {n T:Nat} {col col':List AV} {kept:List (Nat×AV)} {H H':List (Nat×Row)} {L:Nat->Bool} {k:Nat} {o:Oper}
theorem xK {f:AV->AV} {F:List (Nat×AV)} {d i:Nat} (h:d≠i):look (cS (eg f F) d) i=(look F i).map f:=by rw [bI,if_neg h,cy]
def ud (F:List (Nat×AV)):Operand->Bool
 | .tmp i=>(look F i).isSome
 | _=>true
theorem mo {F F':List (Nat×AV)} (hF:∀i x,look F i=some x->look F' i=some x) {y:Operand} (h:ud F y=true):bp ⟨F',H⟩ y=bp ⟨F,H⟩ y:=by
 cases y with
 | tmp i =>
  have h:(look F i).isSome=true:=h
  cases hl:look F i with
  | none=>rw [hl] at h;cases h
  | some x =>
   show jR _ i=jR _ i
   unfold jR
   rw [show look (⟨F',H⟩:AS).F i=some x from hF i x hl,show look (⟨F,H⟩:AS).F i=some x from hl]
 | _=>rfl
end
def OU:List Nat->List Nat->List Nat
 | [],m=>m
 | x::l,m=>match m.any (Nat.beq x) with|true=>OU l m|false=>OU l (x::m)
theorem xF:∀(l m:List Nat) (x:Nat),x∈OU l m->x∈l∨x∈m
 | [],m,x,h=>.inr h
 | y::l,m,x,h=>by
  simp only [OU] at h
  split at h
  ·rcases xF l m x h with h|h
   ·exact .inl (by simp [h])
   ·exact .inr h
  ·rcases xF l (y::m) x h with h|h
   ·exact .inl (by simp [h])
   ·rcases List.mem_cons.1 h with h|h
    ·exact .inl (by simp [h])
    ·exact .inr h
def ng (R:List (List Nat)):List Nat->List Nat
 | []=>[]
 | d::l=>OU (d::R.getD d []) (ng R l)
theorem uj (R:List (List Nat)):∀(l:List Nat) (x:Nat),x∈ng R l-> ∃d∈l,x=d∨x∈R.getD d []
 | [],x,h=>by simp [ng] at h
 | d::l,x,h=>by
  rcases xF _ _ x h with h|h
  ·exact ⟨d,by simp,List.mem_cons.1 h⟩
  ·obtain ⟨e,h1,h2⟩:=uj R l x h
   exact ⟨e,by simp [h1],h2⟩
def mm:List Oper->List (List Nat)->List (List Nat)
 | [],R=>R
 | o::l,R=>mm l (R++ [ng R (bk o)])
def tj (ops:List Oper) (R:List (List Nat)):Prop:=∀(k:Nat) (o:Oper),ops[k]?=some o-> ∀(L:Nat->Bool),(∀j p,L j=true->ops[j]?=some p-> ∀d∈bk p,L d=true)->(∀d∈bk o,L d=true)-> ∀j∈R.getD k [],L j=true
theorem qR (ops:List Oper):∀(l:List Oper) (R:List (List Nat)),tj ops R->(∀j o,l[j]?=some o->ops[R.length+j]?=some o)->(∀(k:Nat) (o:Oper),ops[k]?=some o-> ∀d∈bk o,d<k)->tj ops (mm l R)
 | [],R,h,_,_=>h
 | o::l,R,h,hl,dh=>by
  refine qR ops l _ ?_ (fun j p hp=>?_) dh
  ·intro k p hp L hc hd j hj
   by_cases hk:k<R.length
   ·have:(R++ [ng R (bk o)]).getD k []=R.getD k []:=by
     rw [List.getD_eq_getElem?_getD,List.getD_eq_getElem?_getD,List.getElem?_append_left hk]
    rw [this] at hj
    exact h k p hp L hc hd j hj
   ·by_cases r9:k=R.length
    ·subst r9
     have e:(R++ [ng R (bk o)]).getD R.length []=ng R (bk o):=by
      rw [List.getD_eq_getElem?_getD,List.getElem?_append_right (Nat.le_refl _)];simp
     rw [e] at hj
     have ho:ops[R.length]?=some o:=by have:=hl 0 o rfl;simpa using this
     rw [ho] at hp;injection hp with hp;subst hp
     obtain ⟨d,h1,h2⟩:=uj R _ j hj
     rcases h2 with h2|h2
     ·subst h2;exact hd j h1
     ·cases QO:ops[d]? with
      | none =>
       exfalso
       have:=dh R.length o ho d h1
       have h3:=(List.getElem?_eq_some_iff.1 ho).1
       rw [List.getElem?_eq_getElem ah] at QO;cases QO
      | some q=>exact h d q QO L hc (fun d' FN=>hc d q (hd d h1) QO d' FN) j h2
    ·have e:(R++ [ng R (bk o)]).getD k []= []:=by
      rw [List.getD_eq_getElem?_getD,List.getElem?_eq_none (by simp;omega)];rfl
     rw [e] at hj;cases hj
  ·rw [List.length_append]
   have:=hl (j+1) p (by simpa using hp)
   simp only [List.length_cons,List.length_nil]
   rwa [show R.length+(j+1)=R.length+(0+1)+j by omega] at this
def hit (l m:List Nat):Bool:=l.any fun x=>m.any (Nat.beq x)
theorem any_beq {m:List Nat} {x:Nat}:m.any (Nat.beq x)=true↔x∈m:=by
 rw [List.any_eq_true]
 exact ⟨fun ⟨y,h1,h2⟩=>by rw [Nat.eq_of_beq_eq_true h2];exact h1,fun h=>⟨x,h,Nat.beq_refl x⟩⟩
theorem n9 {l m:List Nat}:hit l m=true↔ ∃x,x∈l∧x∈m:=by
 unfold hit
 rw [List.any_eq_true]
 exact ⟨fun ⟨x,h1,h2⟩=>⟨x,h1,any_beq.1 h2⟩,fun ⟨x,h1,h2⟩=>⟨x,h1,any_beq.2 h2⟩⟩
structure nR where
 col:List AV
 kept:List (Nat×AV)
 H:List (Nat×Row)
def qu (P:Program) (ops:List Oper) (hs:List (Nat×Hint)) (R:List (List Nat)) (done rest last:List Nat) (first:Bool) (old:List AV) (kept:List (Nat×AV)) (H:List (Nat×Row)) (o:Oper) (k:Nat) (col:List AV):Option (AV×List Prop) :=
 match rest.any (Nat.beq k),hit (R.getD k []) rest with
 | false,false=>(match done.any (Nat.beq k),done.any (fun W=>(R.getD W []).any (Nat.beq k)) with
  | false,false=>(match sL P ops ⟨jo ops col (bk o)++kept,H⟩ o (gv hs k) with
   | some (x,C)=>(match first,hit (R.getD k []) last with
    | false,false=>some (x,(old.getD k .dead=x)::C)
    | _,_=>some (x,C))
   | none=>none)
  | _,_=>some (old.getD k .dead,[]))
 | _,_=>some (.dead,[])
def yU (P:Program) (ops:List Oper) (hs:List (Nat×Hint)) (R:List (List Nat)) (done rest last:List Nat) (first:Bool) (old:List AV) (kept:List (Nat×AV)) (H:List (Nat×Row)):List Oper->Nat->List AV->Option (List AV×List Prop)
 | [],_,col=>some (col,[])
 | o::l,k,col=>match qu P ops hs R done rest last first old kept H o k col with
  | some (x,C)=>(match yU P ops hs R done rest last first old kept H l (k+1) (col++ [x]) with|some (col',D)=>some (col',C++D)|none=>none)
  | none=>none
theorem jA {P:Program} {ops:List Oper} {hs:List (Nat×Hint)} {R:List (List Nat)} {done rest last:List Nat} {first:Bool} {old:List AV} {kept:List (Nat×AV)} {H:List (Nat×Row)}:∀(l:List Oper) (i:Nat) (col col':List AV) (C:List Prop),yU P ops hs R done rest last first old kept H l i col=some (col',C)->bx C->col.length=i ->
  col'.length=i+l.length∧col'.take i=col∧ ∀(j:Nat) (o:Oper),l[j]?=some o-> ∃x D,col'[i+j]?=some x∧bx D∧qu P ops hs R done rest last first old kept H o (i+j) (col'.take (i+j))=some (x,D)
 | [],i,col,col',C,he,hC,hl=>by
  cases he
  exact ⟨by simp [hl],by rw [←hl,List.take_length],fun j o h=>by simp at h⟩
 | o::l,i,col,col',C,he,hC,hl=>by
  simp only [yU] at he
  split at he
  ·rename_i x C1 h1
   split at he
   ·rename_i VP D h2
    cases he
    obtain ⟨iI,hD⟩:=bQ.1 hC
    obtain ⟨e1,e2,e3⟩:=jA l (i+1) (col++ [x]) col' D h2 hD (by simp [hl])
    have e4:col'.take i=col:=by
     have:=congrArg (List.take i) e2
     rw [List.take_take,Nat.min_eq_left ah,←hl,List.take_left] at this
     rw [←hl];exact this
    have e5:col'[i]?=some x:=by
     have h3:(col'.take (i+1))[i]?=some x:=by rw [e2,List.getElem?_append_right ah,hl];simp
     exact bX _ _ _ _ h3
    refine ⟨by rw [e1,List.length_cons];omega,e4,fun j p hp=>?_⟩
    cases j with
    | zero =>
     simp at hp;subst hp
     exact ⟨x,C1,by simpa using e5,iI,by simp only [Nat.add_zero];rw [e4];exact h1⟩
    | succ j =>
     obtain ⟨y,D',h5,h6,h7⟩:=e3 j p (by simpa using hp)
     rw [show i+1+j=i+(j+1) by omega] at h5 h7
     exact ⟨y,D',h5,h6,h7⟩
   ·cases he
  ·cases he
def iV:List Nat->AV->AV
 | [],x=>x
 | i::l,x=>iV l (jL i x)
theorem iQ:∀(l:List Nat) (F F':List (Nat×AV)) (H:List (Nat×Row)),(ba ⟨F,H⟩ l).F=eg (iV l) F∧(ba ⟨F,H⟩ l).H=(ba ⟨F',H⟩ l).H
 | [],F,F',H=>⟨by
   show F=eg (fun x=>x) F
   induction F with
   | nil=>rfl
   | cons p F ih=>obtain ⟨k,x⟩:=p;simp only [eg,←ih],rfl⟩
 | i::l,F,F',H=>by
  obtain ⟨h1,h2⟩:=iQ l (eg (jL i) F) (eg (jL i) F') (eg (cN i) (cS H i))
  refine ⟨?_,h2⟩
  show (ba ⟨eg (jL i) F,eg (cN i) (cS H i)⟩ l).F=_
  rw [h1,lW];rfl
def nv (F:List (Nat×AV)):List Operand->Bool
 | []=>true
 | x::l=>match ud F x with|true=>nv F l|false=>false
def oT (s:AS) (x y:Operand):Bool :=
 match bp s x with
 | .addr id _=>(match look s.H id with
  | some r=>(match r.pure,p9 (bp s y) with
   | false,_=>true
   | true,[]=>true
   | _,_=>false)
  | none=>false)
 | _=>false
def OI (P:Program) (n:Nat) (s:AS) (o:Oper) (h:Hint):Option ((AV->AV)×AV×List (Nat×Row)×List Prop) :=
 match o.guard,o.op,o.dst with
 | none,.call ⟨.builtin .append,⟨[x,y]⟩,⟨[t,xt]⟩⟩,some d=>(match ud s.F x,ud s.F y,kR P n s d t xt (bp s x) (bp s y) h with
  | true,true,some (q,C)=>some (JJ d (bp s x),.ref d,q.H,C)
  | _,_,_=>none)
 | none,.alloc t,some d=>(match og P n s d t h with
  | some (q,C)=>some (jL d,.addr d 0,q.H,C)
  | none=>none)
 | none,.call ⟨.value (.func f),xs,_⟩,some d=>(match h.ln,h.av,nv s.F xs.toList,((xs.toList.map (bp s)).flatMap p9).filter fun i=> !(Cl i (h.ln.map (·.1))) with
  | _::_,some r,true,[]=>(match oe P n s (some d) (.value (.func f)) xs.toList h with
   | some (q,C)=>some (fun x=>iV ((cw d r).2.map (·.1)) (iV (fh h.ln) x),(cw d r).1,q.H,C)
   | none=>none)
  | [],some r,true,_=>(match h.b,rA P n s (some d) (.value (.func f)) xs.toList h with
   | true,some (q,C)=>some (iV ((cw d r).2.map (·.1)),(cw d r).1,q.H,C)
   | _,_=>none)
  | _,_,_,_=>none)
 | none,.store t x y,none=>(match ud s.F x,ud s.F y,oT s x y,kO P s t x y h with
  | true,true,true,some (q,C)=>some (fun x=>x,.dead,q.H,C)
  | _,_,_,_=>none)
 | none,.buildSlice t len ⟨parts⟩,some d=>(match nv s.F (parts.map (·.2)),parts.flatMap (fun p=>p9 (bp s p.2)) with
  | true,[]=>(match uZ P n s d t len parts h with
   | some (q,C)=>some (jL d,.ref d,q.H,C)
   | none=>none)
  | _,_=>none)
 | _,_,_=>none
def vD (d:Option Nat) (X:AV) (F:List (Nat×AV)):List (Nat×AV):=match d with|some d=>(d,X)::cS F d|none=>F
theorem Eh:∀(F:List (Nat×AV)),eg (fun x=>x) F=F
 | []=>rfl
 | (k,x)::F=>by simp only [eg,Eh F]
theorem BO {P:Program} {F F':List (Nat×AV)} {H:List (Nat×Row)} {t:TypeId} {x y:Operand} {h:Hint} {q:AS} {C:List Prop} (dP:oT ⟨F,H⟩ x y=true) (ex:bp ⟨F',H⟩ x=bp ⟨F,H⟩ x) (ey:bp ⟨F',H⟩ y=bp ⟨F,H⟩ y) (he:kO P ⟨F,H⟩ t x y h=some (q,C)):kO P ⟨F',H⟩ t x y h=some (⟨F',q.H⟩,C):=by
 unfold kO at he ⊢
 unfold oT at dP
 rw [ex,ey]
 split at dP
 ·rename_i id off hx
  split at dP
  ·rename_i r hr
   have hr:look H id=some r:=hr
   cases hz:eh P t with
   | none=>simp only [hx,hr,hz] at he;cases he
   | some z =>
    simp only [hx,hr,hz] at he ⊢
    split at dP
    ·rename_i hp
     rw [hp] at he ⊢
     simp only at he ⊢
     split at he
     ·rename_i l hl
      split at he
      ·rename_i h1 h2
       cases he
       rfl
      ·cases he
     ·cases he
    ·rename_i hp hi
     rw [hp,hi] at he ⊢
     simp only [gb,hr,hx,ex,ey] at he ⊢
     split at he
     ·rename_i r1 l pd Ch Pz hl hid
      cases Pz;cases hid
      split at he
      ·rename_i h1 h2 h3 h4
       cases he
       rfl
      ·cases he
     ·cases he
    ·cases dP
  ·cases dP
 ·cases dP
theorem uc {F F':List (Nat×AV)} {H:List (Nat×Row)} (hF:∀i x,look F i=some x->look F' i=some x):∀ {l:List Operand},nv F l=true->l.map (bp ⟨F',H⟩)=l.map (bp ⟨F,H⟩)
 | [],_=>rfl
 | x::l,h=>by
  simp only [nv] at h
  split at h
  ·rename_i hx
   rw [List.map_cons,List.map_cons,mo (H:=H) hF hx,uc hF h]
  ·cases h
theorem my {F F':List (Nat×AV)} {H:List (Nat×Row)} {z:Nat} (hF:∀i x,look F i=some x->look F' i=some x):∀(l:List (Nat×Operand)) (i:Nat),nv F (l.map (·.2))=true->fT ⟨F',H⟩ z i l=fT ⟨F,H⟩ z i l∧l.flatMap (fun p=>p9 (bp ⟨F',H⟩ p.2))=l.flatMap (fun p=>p9 (bp ⟨F,H⟩ p.2))
 | [],_,_=>⟨rfl,rfl⟩
 | (j,x)::l,i,h=>by
  simp only [List.map_cons,nv] at h
  split at h
  ·rename_i hx
   obtain ⟨h1,h2⟩:=my (H:=H) (z:=z) hF l (i+1) h
   have ex:=mo (H:=H) hF hx
   refine ⟨?_,?_⟩
   ·simp only [fT,ex,h1]
   ·simp only [List.flatMap_cons,ex,h2]
  ·cases h
theorem HR {P:Program} {n d t len:Nat} {F F':List (Nat×AV)} {H:List (Nat×Row)} {l:List (Nat×Operand)} {h:Hint} {q:AS} {C:List Prop} (hF:∀i x,look F i=some x->look F' i=some x) (ho:nv F (l.map (·.2))=true) (hi:l.flatMap (fun p=>p9 (bp ⟨F,H⟩ p.2))= []) (he:uZ P n ⟨F,H⟩ d t len l h=some (q,C)) :
  uZ P n ⟨F',H⟩ d t len l h=some (⟨(d,.ref d)::cS (eg (jL d) F') d,q.H⟩,C):=by
 have hc:∀z,fT ⟨F',H⟩ z 0 l=fT ⟨F,H⟩ z 0 l:=fun z=>(my hF l 0 ho).1
 have jj:=(my (z:=0) (H:=H) hF l 0 ho).2
 rw [hi] at jj
 unfold uZ at he ⊢
 rw [hi] at he
 rw [jj]
 simp only [gb] at he ⊢
 split at he
 ·rename_i el hu
  split at he
  ·rename_i z zero s1 hz hzero gU
   cases gU
   try simp only [hz,hzero,hc]
   split at he
   ·rename_i cells h1 h2 h3
    try simp only [h1,h2,h3]
    split at he
    ·rename_i h4
     try simp only [h4]
     split at he
     ·rename_i row OA
      try simp only [OA]
      split at he
      ·rename_i s' hp bY
       cases he
       unfold gE at bY ⊢
       try simp only [hp] at bY ⊢
       split at bY
       ·cases bY
        rfl
       ·cases bY
      ·cases he
     ·rename_i OA
      split at he
      ·rename_i s' hp bY
       cases he
       unfold gE at bY ⊢
       try simp only [hp] at bY ⊢
       split at bY
       ·cases bY
        rfl
       ·cases bY
      ·cases he
    ·cases he
   ·cases he
  ·cases he
 ·cases he
theorem I0 {P:Program} {n:Nat} {F:List (Nat×AV)} {H H':List (Nat×Row)} {o:Oper} {h:Hint} {Tr:AV->AV} {X:AV} {C:List Prop} (dZ:OI P n ⟨F,H⟩ o h=some (Tr,X,H',C)) :
  o.guard=none∧ ∀F',(∀i x,look F i=some x->look F' i=some x)->ma P n ⟨F',H⟩ o ⟨vD o.dst X (eg Tr F'),H'⟩ C:=by
 unfold OI at dZ
 split at dZ
 ·rename_i x y t xt d hg vp hd
  split at dZ
  ·rename_i q C' h1 h2 h3
   cases dZ
   refine ⟨hg,fun F' hF=>?_⟩
   rw [hd]
   simp only [vD]
   have PY:=JI (F':=F') h3
   have ex:=mo (H:=H) hF h1
   have ey:=mo (H:=H) hF h2
   rw [←ey,←ex] at PY
   have:=sg (n:=n) (s:=⟨F',H⟩) vp hd PY
   rw [ex] at this
   exact this
  ·cases dZ
 ·rename_i t d hg vp hd
  split at dZ
  ·rename_i q C' h1
   cases dZ
   refine ⟨hg,fun F' hF=>?_⟩
   rw [hd]
   simp only [vD]
   have h2:og P n ⟨F',H⟩ d t h=some (⟨(d,.addr d 0)::cS (eg (jL d) F') d,q.H⟩,C):=by
    unfold og at h1 ⊢
    split at h1
    ·split at h1
     ·split at h1
      ·rename_i s' bY
       cases h1
       unfold gE at bY ⊢
       simp only at bY ⊢
       split at bY
       ·cases bY;rfl
       ·cases bY
      ·cases h1
     ·split at h1
      ·rename_i s' bY
       cases h1
       unfold gE at bY ⊢
       simp only at bY ⊢
       split at bY
       ·cases bY;rfl
       ·cases bY
      ·cases h1
    ·cases h1
   exact u_ (s:=⟨F',H⟩) vp hd h2
  ·cases dZ
 ·rename_i f xs ts d hg vp hd
  split at dZ
  ·rename_i p l r L7 OA Il K2
   split at dZ
   ·rename_i q C' h1
    cases dZ
    refine ⟨hg,fun F' hF=>?_⟩
    rw [hd]
    simp only [vD]
    have eo:=uc (H:=H) hF Il
    have h2:oe P n ⟨F',H⟩ (some d) (.value (.func f)) xs.toList h=some (⟨(d,(cw d r).1)::cS (eg (fun x=>iV ((cw d r).2.map (·.1)) (iV (fh h.ln) x)) F') d,q.H⟩,C):=by
     unfold oe at h1 ⊢
     rw [eo]
     simp only [OA,callee] at h1 ⊢
     rw [K2] at h1 ⊢
     simp only [gb] at h1 ⊢
     split at h1
     ·rename_i s1 hE gU
      cases gU
      split at h1
      ·rename_i Hl Hb C2 g1 g2 g3 g4
       have VK:iT ⟨F',H⟩ h.ln h.ln=some Hl:=by
        have key:∀(ρ l:List (Nat×Nat)),iT ⟨F',H⟩ ρ l=iT ⟨F,H⟩ ρ l:=by
         intro ρ l
         induction l with
         | nil=>rfl
         | cons p l ih=>obtain ⟨c,k⟩:=p;simp only [iT,ih]
        rw [key];exact g1
       have VJ:pF ⟨F',H⟩ h.ho h.ln=some C2:=by
        have key:∀(l:List (Nat×Nat)),pF ⟨F',H⟩ h.ho l=pF ⟨F,H⟩ h.ho l:=by
         intro l
         induction l with
         | nil=>rfl
         | cons p l ih=>obtain ⟨c,k⟩:=p;simp only [pF,ih]
        rw [key];exact g4
       rw [hE]
       simp only
       rw [VK,g2,g3,VJ]
       simp only
       have em:(xs.toList.map fun x=>rS h.ln (bp ⟨F',H⟩ x))=xs.toList.map fun x=>rS h.ln (bp ⟨F,H⟩ x):=by
        have:=congrArg (List.map (rS h.ln)) eo
        rwa [List.map_map,List.map_map] at this
       rw [em]
       have eB:∀F0,jd ⟨F0,H⟩ h.ln Hb=⟨eg (iV (fh h.ln)) F0,Hb++pj (ba ⟨F,H⟩ (fh h.ln)).H (h.ln.map (·.1))⟩:=fun F0=>by
        unfold jd
        rw [(iQ (fh h.ln) F0 F H).1,(iQ (fh h.ln) F0 F H).2]
       rw [eB] at h1 ⊢
       split at h1
       ·rename_i s' zc eW
        cases h1
        have eR:=fun F0=>iQ ((cw d r).2.map (·.1)) F0 (eg (iV (fh h.ln)) F) (Hb++pj (ba ⟨F,H⟩ (fh h.ln)).H (h.ln.map (·.1)))
        rw [zc,(eR (eg (iV (fh h.ln)) F')).1,(eR (eg (iV (fh h.ln)) F')).2]
        unfold gE at eW ⊢
        simp only at eW ⊢
        split at eW
        ·cases eW
         simp only [lp,lW]
        ·cases eW
       ·cases h1
      ·cases h1
     ·cases h1
    have M6:o.op= .call ⟨.value (.func f),xs,ts⟩:=vp
    rw [←hd] at h2
    exact u9 (s:=⟨F',H⟩) M6 h2
   ·cases dZ
  ·rename_i x4 r L7 OA Il
   split at dZ
   ·rename_i q C' hb h1
    cases dZ
    refine ⟨hg,fun F' hF=>?_⟩
    rw [hd]
    simp only [vD]
    have eo:=uc (H:=H) hF Il
    have eV:∀(l:List AV),jQ ⟨F',H⟩ l=jQ ⟨F,H⟩ l:=by
     intro l
     have e0:∀x,jE ⟨F',H⟩ x=jE ⟨F,H⟩ x:=fun x=>rfl
     have eL:∀(m:List AV),oE ⟨F',H⟩ m=oE ⟨F,H⟩ m:=by
      intro m
      induction m with
      | nil=>rfl
      | cons x m ih=>simp only [oE,ih,e0]
     have e1:∀x,view ⟨F',H⟩ x=view ⟨F,H⟩ x:=by
      intro x
      unfold view
      split
      ·rw [eL]
      ·rfl
     induction l with
     | nil=>rfl
     | cons x l ih=>simp only [jQ,ih,e1]
    have h2:rA P n ⟨F',H⟩ (some d) (.value (.func f)) xs.toList h=some (⟨(d,(cw d r).1)::cS (eg (iV ((cw d r).2.map (·.1))) F') d,q.H⟩,C):=by
     unfold rA at h1 ⊢
     rw [eo]
     simp only [OA,callee,hb] at h1 ⊢
     rw [eV]
     split at h1
     ·rename_i hE
      split at h1
      ·rename_i vs C2 d0 hv sH BF
       cases BF
       split at h1
       ·rename_i s' zc eW
        cases h1
        have eR:=fun F0=>iQ ((cw d r).2.map (·.1)) F0 F H
        rw [zc,(eR F').1,(eR F').2]
        unfold gE at eW ⊢
        simp only at eW ⊢
        split at eW
        ·cases eW
         simp only [lp]
        ·cases eW
       ·cases h1
      ·rename_i BF
       cases BF
      ·cases h1
     ·cases h1
    have M6:o.op= .call ⟨.value (.func f),xs,ts⟩:=vp
    rw [←hd] at h2
    exact wU (s:=⟨F',H⟩) M6 h2
   ·cases dZ
  ·cases dZ
 ·rename_i t x y hg vp hd
  split at dZ
  ·rename_i q C' h1 h2 h3 h4
   cases dZ
   refine ⟨hg,fun F' hF=>?_⟩
   rw [hd]
   simp only [vD,Eh]
   have h5:=BO (F':=F') h3 (mo (H:=H) hF h1) (mo (H:=H) hF h2) h4
   exact sd (s:=⟨F',H⟩) vp hd h5
  ·cases dZ
 ·rename_i t len parts d hg vp hd
  split at dZ
  ·rename_i h1 h2
   split at dZ
   ·rename_i q C' h3
    cases dZ
    refine ⟨hg,fun F' hF=>?_⟩
    rw [hd]
    exact Bj (s:=⟨F',H⟩) vp hd (HR hF h1 h2 h3)
   ·cases dZ
  ·cases dZ
 ·cases dZ
def yf (P:Program) (ops:List Oper) (n:Nat) (s:AS) (o:Oper) (h:Hint):Option ((AV->AV)×AV×List (Nat×Row)×List Prop) :=
 match o.guard with
 | none=>OI P n s o h
 | some (j,want)=>(match ops[j]? with
  | some p=>(match p.dst with
   | some d=>(match jR s d,h.g == want,ud s.F (.tmp d),OI P n s {o with guard:=none} h with
    | .val (.bool b),true,true,some (Tr,X,H',C)=>some (Tr,X,H',(b=h.g)::C)
    | _,_,_,_=>none)
   | none=>none)
  | none=>none)
theorem Lk {P:Program} {ops:List Oper} {n:Nat} {F:List (Nat×AV)} {H H':List (Nat×Row)} {o:Oper} {h:Hint} {Tr:AV->AV} {X:AV} {C:List Prop} (dZ:yf P ops n ⟨F,H⟩ o h=some (Tr,X,H',C)) (hC:bx C) {F':List (Nat×AV)} (hF:∀i x,look F i=some x->look F' i=some x) {S0:bm} {w0 w:World} {a:Act} (hs:iu S0 w0 n ⟨F',H⟩ a w) :
  Region.wanted o (yielded ops.toArray a.tmps)=true∧ma P n ⟨F',H⟩ o ⟨vD o.dst X (eg Tr F'),H'⟩ []:=by
 unfold yf at dZ
 split at dZ
 ·rename_i hg
  obtain ⟨-,Ex⟩:=I0 dZ
  refine ⟨by unfold Region.wanted;rw [hg],fun _=>Ex F' hF hC⟩
 ·rename_i j want hg
  split at dZ
  ·rename_i p hp
   split at dZ
   ·rename_i d hd
    split at dZ
    ·rename_i b Q5 X' WB C' uM hw U6 he
     cases dZ
     obtain ⟨FP,hC⟩:=hC
     obtain ⟨-,Ex⟩:=I0 he
     refine ⟨?_,fun _=>Ex F' hF hC⟩
     obtain ⟨φ,hs⟩:=hs
     have ht:=hs.get d
     have e:jR ⟨F',H⟩ d=jR ⟨F,H⟩ d:=mo (H:=H) hF U6
     rw [e,uM] at ht
     have hy:=me (ops:=ops) hp hd (qo ht)
     unfold Region.wanted;rw [hg];simp only [hy,FP]
     have:h.g=want:=by simpa using hw
     rw [this];simp
    ·cases dZ
   ·cases dZ
  ·cases dZ
theorem wG {od:Option Nat} {i:Nat} {X:AV} {Tr:AV->AV} {F:List (Nat×AV)} (h:od≠some i):look (vD od X (eg Tr F)) i=(look F i).map Tr:=by
 cases od with
 | none=>exact cy _ _ _
 | some d =>
  have cV:d≠i:=fun e=>h (by rw [e])
  simp only [vD]
  rw [aE,if_neg cV,xK cV]
section
variable {P:Program} {ops:List Oper} {S0:bm} {w0:World} {Q:Exit->Act->World->Prop} {n T:Nat} {col col':List AV} {kept:List (Nat×AV)} {H H':List (Nat×Row)} {L:Nat->Bool} {k:Nat} {o:Oper}
theorem vZ {h:Hint} {Tr:AV->AV} {X:AV} {C:List Prop} {a:Act} {w:World} (ik:(ops.filterMap (·.dst)).Nodup)
  (hk:k<T) (ho:ops[k]?=some o) (FM:∀d∈bk o,L d=true∧d<T) (fq:∀i x,look kept i=some x-> ∀j p,j<T->ops[j]?=some p->p.dst≠some i)
  (dZ:yf P ops n ⟨jo ops col (bk o)++kept,H⟩ o h=some (Tr,X,H',C)) (hC:bx C)
  (vI:∀j z,j<T->j≠k->L j=true->col'[j]?=some z->col[j]?.map Tr=some z∨z= .dead) (P5:col'[k]?=some X)
  (hs:iu S0 w0 n ⟨dO ops col L T++kept,H⟩ a w) :
  if Region.wanted o (yielded ops.toArray a.tmps)=true then o.wp P a w (fun a' w'=>iu S0 w0 n ⟨dO ops col' (eN L k) T++eg Tr kept,H'⟩ a' w') Q else iu S0 w0 n ⟨dO ops col' (eN L k) T++eg Tr kept,H'⟩ (a.put o.dst undef) w:=by
 have hF:=Ax (T:=T) ik FM fq (col:=col)
 obtain ⟨hw,ok⟩:=Lk dZ hC hF hs
 rw [if_pos hw]
 refine Oper.wp_mono ?_ (ok trivial S0 w0 a w Q hs)
 rintro a' w' ⟨φ,bY⟩
 refine ⟨φ,aL.sub bY fun i z hz=>?_⟩
 rw [bM] at hz
 cases hl:look (dO ops col' (eN L k) T) i with
 | some z' =>
  rw [hl] at hz
  simp at hz;subst hz
  obtain ⟨j,p,h1,h2,h3,h4,h5⟩:=kH _ _ _ _ _ _ hl
  by_cases vH:j=k
  ·subst vH
   rw [ho] at h3;injection h3 with h3;subst h3
   rw [P5] at h5;injection h5 with h5;subst h5
   left
   rw [h4];simp only [vD];rw [aE,if_pos rfl]
  ·have QW:L j=true:=by unfold eN at h2;rw [if_neg vH] at h2;exact h2
   have cV:o.dst≠some i:=fun e=>vH (oo (ops:=ops.toArray) (by simpa using ik) (by simpa using h3) (by simpa using ho) h4 e)
   rcases vI j z' h1 vH QW h5 with hc|hc
   ·left
    rw [wG cV,bM]
    cases Si:col[j]? with
    | none=>rw [Si] at hc;cases hc
    | some y' =>
     rw [Si] at hc
     rw [gp ik col L T j i p y' h1 QW h3 h4 Si]
     simpa using hc
   ·exact .inr hc
 | none =>
  rw [hl] at hz
  simp at hz
  rw [cy] at hz
  cases sG:look kept i with
  | none=>rw [sG] at hz;cases hz
  | some y' =>
   rw [sG] at hz
   have cV:o.dst≠some i:=fun e=>fq i y' sG k o hk ho e
   left
   rw [wG cV,bM,jf fun j p hj hp=>fq i y' sG j p hj hp,sG]
   simpa using hz
end
theorem rC (ops:List Oper) (col:List AV) (k:Nat):∀(l:List Nat),(∀d∈l,d<k)->jo ops (col.take k) l=jo ops col l
 | [],_=>rfl
 | d::l,h=>by
  have hd:(col.take k)[d]?=col[d]?:=by rw [List.getElem?_take,if_pos (h d (by simp))]
  simp only [jo,hd,rC ops col k l fun e he=>h e (by simp [he])]
instance:Inhabited nR:=⟨⟨[],[],[]⟩⟩
def nJ (P:Program) (n T:Nat) (ops:List Oper) (hs:List (Nat×Hint)) (R:List (List Nat)):List Nat->List Nat->List Nat->Bool->List AV->List (Nat×AV)->List (Nat×Row)->Option (List nR×List Prop)
 | [],done,last,first,old,kept,H=>(match yU P ops hs R done [] last first old kept H (ops.take T) 0 [] with
  | some (col,C)=>some ([⟨col,kept,H⟩],C)
  | none=>none)
 | W::rest,done,last,first,old,kept,H=>(match yU P ops hs R done (W::rest) last first old kept H (ops.take T) 0 [],ops[W]? with
  | some (col,C),some o=>(match yf P ops n ⟨jo ops col (bk o)++kept,H⟩ o (gv hs W) with
   | some (Tr,x,H',D)=>(match nJ P n T ops hs R rest (done++ [W]) [W] false ((col.map Tr).set W x) (eg Tr kept) H' with
    | some (l,E)=>some (⟨col,kept,H⟩::l,C++(D++E))
    | none=>none)
   | none=>none)
  | _,_=>none)
def JT (P:Program) (T:Nat) (ops:List Oper) (hs:List (Nat×Hint)) (R:List (List Nat)) (rest done last:List Nat) (first:Bool) (old:List AV) (st:nR):Prop :=
 ∃C,yU P ops hs R done rest last first old st.kept st.H (ops.take T) 0 []=some (st.col,C)∧bx C
theorem v8 {P:Program} {n T:Nat} {ops:List Oper} {hs:List (Nat×Hint)} {R:List (List Nat)}:∀(rest done last:List Nat) (first:Bool) (old:List AV) (kept:List (Nat×AV)) (H:List (Nat×Row)) (l:List nR) (E:List Prop),
  nJ P n T ops hs R rest done last first old kept H=some (l,E)->bx E ->
  (l.getD 0 default).kept=kept∧(l.getD 0 default).H=H∧JT P T ops hs R rest done last first old (l.getD 0 default) ∧
  ∀(i W:Nat),rest[i]?=some W-> ∃o Tr x D,ops[W]?=some o∧yf P ops n ⟨jo ops (l.getD i default).col (bk o)++(l.getD i default).kept,(l.getD i default).H⟩ o (gv hs W)=some (Tr,x,(l.getD (i+1) default).H,D)∧bx D ∧
   (l.getD (i+1) default).kept=eg Tr (l.getD i default).kept∧JT P T ops hs R (rest.drop (i+1)) (done++rest.take (i+1)) [W] false (((l.getD i default).col.map Tr).set W x) (l.getD (i+1) default)
 | [],done,last,first,old,kept,H,l,E,he,hE=>by
  simp only [nJ] at he
  split at he
  ·rename_i col C hc
   cases he
   exact ⟨rfl,rfl,⟨_,hc,hE⟩,fun i W h=>by simp at h⟩
  ·cases he
 | W::rest,done,last,first,old,kept,H,l,E,he,hE=>by
  simp only [nJ] at he
  split at he
  ·rename_i col C o hc ho
   split at he
   ·rename_i Tr x H' D hw
    split at he
    ·rename_i l' E' M5
     cases he
     obtain ⟨hC,SB⟩:=bQ.1 hE
     obtain ⟨hD,SA⟩:=bQ.1 SB
     obtain ⟨h1,h2,h3,h4⟩:=v8 rest _ _ _ _ _ _ _ _ M5 SA
     refine ⟨rfl,rfl,⟨_,hc,hC⟩,fun i W' hi=>?_⟩
     cases i with
     | zero =>
      simp at hi;subst hi
      exact ⟨o,Tr,x,D,ho,by rw [←h2] at hw;exact hw,hD,h1,by simpa using h3⟩
     | succ i =>
      obtain ⟨o',Q5,x',D',k1,k2,k3,k4,k5⟩:=h4 i W' (by simpa using hi)
      refine ⟨o',Q5,x',D',k1,k2,k3,k4,?_⟩
      have e:done++(W::rest).take (i+1+1)=done++ [W]++rest.take (i+1):=by simp
      rw [e]
      exact k5
    ·cases he
   ·cases he
  ·cases he
def vi (R:List (List Nat)):List Nat->Bool
 | []=>true
 | [_]=>true
 | a::b::l=>match (R.getD b []).any (Nat.beq a) with|true=>vi R (b::l)|false=>false
theorem rE (R:List (List Nat)):∀(l:List Nat),vi R l=true-> ∀(i a b:Nat),l[i]?=some a->l[i+1]?=some b->a∈R.getD b []
 | [],_,i,a,b,h,_=>by simp at h
 | [x],_,i,a,b,h,h2=>by simp at h2
 | x::y::l,hc,i,a,b,h,h2=>by
  simp only [vi] at hc
  split at hc
  ·rename_i hy
   cases i with
   | zero=>simp at h h2;subst h;subst h2;exact any_beq.1 hy
   | succ i=>exact rE R (y::l) hc i a b (by simpa using h) (by simpa using h2)
  ·cases hc
def wX (T:Nat):List Nat->Bool
 | []=>true
 | a::l=>match Nat.blt a T with|true=>wX T l|false=>false
theorem qy (T:Nat):∀(l:List Nat),wX T l=true-> ∀a∈l,a<T
 | [],_,a,h=>by cases h
 | x::l,hc,a,h=>by
  simp only [wX] at hc
  split at hc
  ·rename_i hx
   rcases List.mem_cons.1 h with rfl|h
   ·simpa [Nat.blt_eq] using hx
   ·exact qy T l hc a h
  ·cases hc
def yq (P:Program) (n T:Nat) (Ws:List Nat) (ops:List Oper) (hs:List (Nat×Hint)) (s:AS):Option (AS×List Prop) :=
 match P.follows .mixedOrders,lD ops.toArray n,oG ops.toArray T,vi (mm (ops.take T) []) Ws,wX T Ws,nodupB Ws with
 | true,true,true,true,true,true=>(match nJ P n T ops hs (mm (ops.take T) []) Ws [] [] true [] (nA ((ops.take T).filterMap (·.dst)) s.F) s.H with
  | some (l,C)=>(match j0 P n ops hs (ops.drop T) T ⟨jb (ops.take T) (l.getD Ws.length default).col++(l.getD Ws.length default).kept,(l.getD Ws.length default).H⟩ with
   | some (s',D)=>some (s',C++D)
   | none=>none)
  | none=>none)
 | _,_,_,_,_,_=>none
theorem lU:∀ {l:List Nat},l.Nodup-> ∀ {i j x:Nat},l[i]?=some x->l[j]?=some x->i=j
 | [],_,i,j,x,h,_=>by simp at h
 | y::l,hn,i,j,x,h1,h2=>by
  rw [List.nodup_cons] at hn
  cases i with
  | zero =>
   cases j with
   | zero=>rfl
   | succ j =>
    simp at h1 h2;subst h1
    exact absurd (List.mem_of_getElem? h2) hn.1
  | succ i =>
   cases j with
   | zero =>
    simp at h1 h2;subst h2
    exact absurd (List.mem_of_getElem? h1) hn.1
   | succ j=>exact congrArg (· +1) (lU hn.2 (i:=i) (j:=j) (x:=x) (by simpa using h1) (by simpa using h2))
theorem nh (ops:List Oper) (col:List AV) (L:Nat->Bool) (hL:∀k,L k=false):∀T,dO ops col L T= []
 | 0=>rfl
 | k+1=>by simp only [dO,hL k,nh ops col L hL k]
theorem kf {col:List AV} {Tr:AV->AV} {W:Nat} {x:AV} {q:Nat} (hq:q≠W) {z:AV} (h:((col.map Tr).set W x).getD q .dead=z):col[q]?.map Tr=some z∨z= .dead:=by
 rw [List.getD_eq_getElem?_getD,List.getElem?_set_ne (Ne.symm hq),List.getElem?_map] at h
 cases hc:col[q]? with
 | none=>rw [hc] at h;exact .inr h.symm
 | some y=>rw [hc] at h;left;simpa using h
section
variable {P:Program} {ops:List Oper} {S0:bm} {w0:World} {Q:Exit->Act->World->Prop}
theorem CZ {n T:Nat} {Ws:List Nat} {hs:List (Nat×Hint)} {s s':AS} {C:List Prop} (he:yq P n T Ws ops hs s=some (s',C)) (hC:bx C) {a:Act} {w:World} (fZ:iu S0 w0 n s a w) (hQ:∀a' w',iu S0 w0 n s' a' w'->Q .normal a' w'):P.follows .mixedOrders=true∧wpAny P .any ops.toArray Q ops.toArray.size (Array.replicate ops.toArray.size false) a {w with drawn:=w.drawn+1}:=by
 unfold yq at he
 split at he
 ·rename_i hm hB hT vJ M7 KZ
  split at he
  ·rename_i l C1 dP
   split at he
   ·rename_i s2 D oO
    cases he
    obtain ⟨iI,hD⟩:=bQ.1 hC
    obtain ⟨qD,ik,vq⟩:=fR hB
    have xT:(ops.filterMap (·.dst)).Nodup:=by simpa using ik
    unfold oG at hT
    simp only [Bool.and_eq_true,decide_eq_true_eq] at hT
    obtain ⟨⟨⟨GG,Ld⟩,Lc⟩,Lb⟩:=hT
    have Sm:T<ops.length:=by simpa using GG
    have CD:∀(k:Nat) (o:Oper),ops[k]?=some o-> ∀d∈bk o,d<k:=fun k o h=>qD k o (by simpa using h)
    have M9:∀(k:Nat) (o:Oper) (s:Nat),ops[k]?=some o->o.dst=some s->s<n:=fun k o s h=>vq k o s (by simpa using h)
    generalize Sq:mm (ops.take T) []=R at dP vJ
    have hR:tj ops R:=by
     rw [←Sq]
     refine qR ops (ops.take T) [] (fun k o _ L _ _ j hj=>by simp at hj) (fun j o h=>?_) CD
     simpa using bX _ _ _ _ h
    obtain ⟨xU,Qa,Nr,p_⟩:=v8 _ _ _ _ _ _ _ _ _ dP iI
    have M7:=qy T Ws M7
    have KZ:=iB KZ
    generalize M1:(fun i=>l.getD i default)=st at *
    have QC:∀i,l.getD i default=st i:=fun i=>by rw [←M1]
    simp only [QC] at xU Qa Nr p_ oO
    have fq:∀i,i≤Ws.length-> ∀(k:Nat) (x:AV),look (st i).kept k=some x-> ∀(j:Nat) (p:Oper),j<T->ops[j]?=some p->p.dst≠some k:=by
     intro i
     induction i with
     | zero =>
      intro _ k x hx j p hj hp
      rw [xU] at hx
      exact (ko ops T k).1 (fP _ _ _ _ hx).2 j p hj hp
     | succ i ih =>
      intro hi k x hx
      obtain ⟨o,Tr,X,D',-,-,-,k4,-⟩:=p_ i (Ws[i]' ah) (List.getElem?_eq_getElem ah)
      rw [k4,cy] at hx
      cases hl:look (st i).kept k with
      | none=>rw [hl] at hx;cases hx
      | some y=>exact ih ah k y hl
    have vI:∀i,i≤Ws.length-> ∃last first old,JT P T ops hs R (Ws.drop i) (Ws.take i) last first old (st i):=by
     intro i hi
     cases i with
     | zero=>exact ⟨_,_,_,by simpa using Nr⟩
     | succ i =>
      obtain ⟨o,Tr,X,D',-,-,-,-,k5⟩:=p_ i (Ws[i]' ah) (List.getElem?_eq_getElem ah)
      exact ⟨_,_,_,by simpa using k5⟩
    let J:(Nat->Bool)->Act->World->Prop:=fun L a' w'=>∃i,i≤Ws.length∧(∀(j W:Nat),Ws[j]?=some W->(L W=true↔j<i))∧iu S0 w0 n ⟨dO ops (st i).col L T++(st i).kept,(st i).H⟩ a' w'
    obtain ⟨φ,lH⟩:=fZ
    refine ⟨hm,na (n:=n) GG Ld Lc Lb hB J ?_ ?_ ops.toArray.size _ a _ ⟨by simp,fun k o hk=>?_⟩ ?_ (fun j _=>by rw [getD_replicate_false]) (by simp)⟩
    ·intro k o L a' w' hk ho A2 jc xX AK ⟨i,hi,hW,fZ⟩
     have ra:ops[k]?=some o:=by simpa using ho
     have gl:∀(j:Nat) (p:Oper),L j=true->ops[j]?=some p-> ∀d∈bk p,L d=true:=fun j p hj hp=>xX j p hj (by simpa using hp)
     have pf:∀j∈R.getD k [],L j=true:=hR k o ra L gl jc
     have qb:∀q,L q=true-> ∀j∈R.getD q [],L j=true:=fun q hq j hj=>by
      cases Ik:ops[q]? with
      | some p=>exact hR q p Ik L gl (fun d hd=>gl q p hq Ik d hd) j hj
      | none =>
       exfalso
       have h1:ops.length≤q:=List.getElem?_eq_none_iff.1 Ik
       have:=AK q ah
       rw [hq] at this;cases this
     have P4:∀d∈bk o,L d=true∧d<T:=fun d hd=>⟨jc d hd,by have:=CD k o ra d hd;omega⟩
     have uD:∀i',i≤i'-> ∀q,(∀j∈R.getD q [],L j=true)->hit (R.getD q []) (Ws.drop i')=false:=by
      intro i' jj q hq
      cases hh:hit (R.getD q []) (Ws.drop i') with
      | false=>rfl
      | true =>
       exfalso
       obtain ⟨x,h1,h2⟩:=n9.1 hh
       obtain ⟨j,hj⟩:=List.mem_iff_getElem?.1 h2
       rw [List.getElem?_drop] at hj
       have:=(hW _ x hj).1 (hq x h1)
       omega
     by_cases K1:k∈Ws
     ·obtain ⟨j,hj⟩:=List.mem_iff_getElem?.1 K1
      have M8:j<Ws.length:=(List.getElem?_eq_some_iff.1 hj).1
      have L9:¬j<i:=fun h=>by have:=(hW j k hj).2 h;rw [A2] at this;cases this
      have e:j=i:=by
       rcases Nat.lt_or_ge i j with h|h
       ·obtain ⟨j',rfl⟩:∃j',j=j'+1:=⟨j-1,ah⟩
        have KT:Ws[j']?=some (Ws[j']' ah):=List.getElem?_eq_getElem ah
        have h1:=pf _ (rE R Ws vJ j' _ k KT hj)
        have:=(hW j' _ KT).1 h1
        omega
       ·omega
      subst e
      obtain ⟨o',Tr,x,D',k1,k2,k3,k4,Cc,k5,k6⟩:=p_ j k hj
      rw [ra] at k1;cases k1
      simp only [List.nil_append] at k5
      obtain ⟨c1,c2,c3⟩:=jA _ 0 [] _ _ k5 k6 rfl
      simp only [Nat.zero_add] at c1 c3
      have Sn:(ops.take T).length=T:=by rw [List.length_take];omega
      have Ou:k ∉ Ws.drop (j+1):=fun hm=>by
       obtain ⟨j2,xV⟩:=List.mem_iff_getElem?.1 hm
       rw [List.getElem?_drop] at xV
       have:=lU KZ hj xV
       omega
      have R2:k∈Ws.take (j+1):=List.mem_iff_getElem?.2 ⟨j,by rw [List.getElem?_take,if_pos ah];exact hj⟩
      have hold:((((st j).col.map Tr).set k x).getD k .dead)=x:=by
       obtain ⟨last,first,old,Cd,FO,Le⟩:=vI j hi
       obtain ⟨d1,-,-⟩:=jA _ 0 [] _ _ FO Le rfl
       rw [Nat.zero_add,Sn] at d1
       rw [List.getD_eq_getElem?_getD,List.getElem?_set_self (by rw [List.length_map];omega)];rfl
      have iW:=vZ (P:=P) (S0:=S0) (w0:=w0) (Q:=Q) (n:=n) (T:=T) (col':=(st (j+1)).col) (L:=L) (a:=a') (w:=w') xT hk ra P4 (fq j hi) k2 k3 (by
       intro q z hq PB Sw hz
       have Ik:(ops.take T)[q]?=some (ops[q]' ah):=by rw [List.getElem?_take,if_pos hq];exact List.getElem?_eq_getElem ah
       obtain ⟨x',D2,e1,e2,e3⟩:=c3 q _ Ik
       rw [e1] at hz;injection hz with hz;subst hz
       unfold qu at e3
       split at e3
       ·split at e3
        ·split at e3
         ·rename_i xx CC dZ
          split at e3
          ·cases e3
           exact kf PB e2.1
          ·rename_i gf
           exfalso
           cases hh:hit (R.getD q []) [k] with
           | false=>exact gf rfl hh
           | true =>
            obtain ⟨y,h1,h2⟩:=n9.1 hh
            have:y=k:=by simpa using h2
            subst this
            have:=qb q Sw y h1
            rw [A2] at this;cases this
         ·cases e3
        ·cases e3
         exact kf PB rfl
       ·cases e3
        exact .inr rfl) (by
       have Ex:(ops.take T)[k]?=some o:=by rw [List.getElem?_take,if_pos hk];exact ra
       obtain ⟨x',D2,e1,e2,e3⟩:=c3 k _ Ex
       rw [e1]
       unfold qu at e3
       have r1:(Ws.drop (j+1)).any (Nat.beq k)=false:=by
        cases hh:(Ws.drop (j+1)).any (Nat.beq k) with
        | false=>rfl
        | true=>exact absurd (any_beq.1 hh) Ou
       have r2:=uD (j+1) ah k pf
       have r3:(Ws.take (j+1)).any (Nat.beq k)=true:=any_beq.2 R2
       rw [r1,r2,r3] at e3
       simp only at e3
       injection e3 with e3;injection e3 with e3 _
       rw [←e3,hold]) fZ
      have fin:∀rK fp,iu S0 w0 n ⟨dO ops (st (j+1)).col (eN L k) T++eg Tr (st j).kept,(st (j+1)).H⟩ rK fp->J (eN L k) rK fp:=by
       intro rK fp h
       refine ⟨j+1,ah,fun j2 W2 h2=>?_,by rw [k4];exact h⟩
       by_cases e:W2=k
       ·subst e
        have:=lU KZ hj h2
        unfold eN;rw [if_pos rfl];simp;omega
       ·unfold eN;rw [if_neg e,hW j2 W2 h2]
        have:j2≠j:=fun e2=>by subst e2;rw [hj] at h2;cases h2;exact e rfl
        omega
      split
      ·rename_i hw
       rw [if_pos hw] at iW
       exact Oper.wp_mono fin iW
      ·rename_i hw
       rw [if_neg hw] at iW
       exact fin _ _ iW
     ·obtain ⟨last,first,old,Cc,k5,k6⟩:=vI i hi
      obtain ⟨c1,c2,c3⟩:=jA _ 0 [] _ _ k5 k6 rfl
      simp only [Nat.zero_add] at c1 c3
      have Ex:(ops.take T)[k]?=some o:=by rw [List.getElem?_take,if_pos hk];exact ra
      obtain ⟨x',D2,e1,e2,e3⟩:=c3 k _ Ex
      unfold qu at e3
      have r1:(Ws.drop i).any (Nat.beq k)=false:=by
       cases hh:(Ws.drop i).any (Nat.beq k) with
       | false=>rfl
       | true=>exact absurd (List.mem_of_mem_drop (any_beq.1 hh)) K1
      have r2:=uD i (Nat.le_refl _) k pf
      have r3:(Ws.take i).any (Nat.beq k)=false:=by
       cases hh:(Ws.take i).any (Nat.beq k) with
       | false=>rfl
       | true=>exact absurd (List.mem_of_mem_take (any_beq.1 hh)) K1
      have r4:(Ws.take i).any (fun W=>(R.getD W []).any (Nat.beq k))=false:=by
       cases hh:(Ws.take i).any (fun W=>(R.getD W []).any (Nat.beq k)) with
       | false=>rfl
       | true =>
        exfalso
        obtain ⟨W,h1,h2⟩:=List.any_eq_true.1 hh
        obtain ⟨j,hj⟩:=List.mem_iff_getElem?.1 h1
        rw [List.getElem?_take] at hj
        split at hj
        ·rename_i L9
         have:=qb W ((hW j W hj).2 L9) k (any_beq.1 h2)
         rw [A2] at this;cases this
        ·cases hj
      rw [r1,r2,r3,r4] at e3
      simp only at e3
      have dZ:∃C',sL P ops ⟨jo ops ((st i).col.take k) (bk o)++(st i).kept,(st i).H⟩ o (gv hs k)=some (x',C')∧bx C':=by
       split at e3
       ·rename_i xx CC dZ
        split at e3
        ·cases e3;exact ⟨_,dZ,e2.2⟩
        ·cases e3;exact ⟨_,dZ,e2⟩
       ·cases e3
      obtain ⟨C',dZ,Qc⟩:=dZ
      rw [rC ops _ k _ (CD k o ra)] at dZ
      have iW:=tI (P:=P) (S0:=S0) (w0:=w0) (Q:=Q) (n:=n) (T:=T) (L:=L) (a:=a') (w:=w') xT M9 hk ra P4 (fq i hi) dZ Qc e1 fZ
      have fin:∀rK fp,iu S0 w0 n ⟨dO ops (st i).col (eN L k) T++(st i).kept,(st i).H⟩ rK fp->J (eN L k) rK fp:=by
       intro rK fp h
       refine ⟨i,hi,fun j2 W2 h2=>?_,h⟩
       have e:W2≠k:=fun e=>by subst e;exact K1 (List.mem_of_getElem? h2)
       unfold eN;rw [if_neg e];exact hW j2 W2 h2
      split
      ·rename_i hw
       rw [if_pos hw] at iW
       exact Oper.wp_mono fin iW
      ·rename_i hw
       rw [if_neg hw] at iW
       exact fin _ _ iW
    ·intro L a' w' gi AK ⟨i,hi,hW,cB,fZ⟩
     have e:i=Ws.length:=by
      rcases Nat.lt_or_ge i Ws.length with h|h
      ·have KT:Ws[i]?=some (Ws[i]'h):=List.getElem?_eq_getElem h
       have:=(hW i _ KT).1 (gi _ (M7 _ (List.getElem_mem h)))
       omega
      ·omega
     subst e
     have ke:=jN (S0:=S0) (w0:=w0) (Q:=Q) _ _ _ _ _ oO hD a' w' ⟨cB,aL.sub fZ fun i x hx=>.inl ?_⟩ hQ
     ·simpa using ke
     ·rw [bM] at hx ⊢
      cases hh:look (jb (ops.take T) (st Ws.length).col) i with
      | some y =>
       rw [hh] at hx
       simp at hx;subst hx
       obtain ⟨k,o,h1,h2,h3⟩:=kJ _ _ _ _ hh
       have vG:k<T:=by have:=(List.getElem?_eq_some_iff.1 h1).1;rw [List.length_take] at this;omega
       rw [gp xT _ L T k i o y vG (gi k vG) (bX _ _ _ _ h1) h2 h3];rfl
      | none =>
       rw [hh] at hx
       simp at hx
       rw [jf fun j p hj hp=>fq _ (Nat.le_refl _) i x hx j p hj hp]
       simpa using hx
    ·rw [getD_replicate_false] at hk;cases hk
    ·refine ⟨0,ah,fun j W _=>by show (Array.replicate ops.toArray.size false).getD W false=true↔_;rw [getD_replicate_false];simp,φ,?_⟩
     rw [nh _ _ _ (fun k=>getD_replicate_false _ _)]
     have hg:aL S0 w0 n [] s a w.drew φ:=lH.grow ((Below.refl _ _).drew)
     rw [Qa,xU]
     exact aL.sub (F:=s.F) hg fun i x hx=>.inl (fP _ _ _ _ (by simpa using hx)).1
   ·cases he
  ·cases he
 ·cases he
def rq (P:Program) (n T:Nat) (Ws:List Nat) (hs:List (Nat×Hint)) (c:Code) (s:AS):Option (AS×List Prop) :=
 match c with
 | .region _ ⟨l⟩ true=>yq P n T Ws l hs s
 | _=>none
theorem bf.OZ {n:Nat} {c:Code} {Q:Exit->AS->Prop} {s s':AS} {C:List Prop} (T:Nat) (Ws:List Nat) (hs:List (Nat×Hint)) (he:rq P n T Ws hs c s=some (s',C)) (hC:bx C) (h:Q .normal s'):bf P n c Q s:=by
 intro S0 w0 a w fZ
 unfold rq at he
 split at he
 ·exact CZ (S0:=S0) (w0:=w0) he hC fZ fun a' w' bY=>⟨s',h,bY.one⟩
 ·cases he
theorem bf.S9 {n:Nat} {c:Code} {Q:Exit->AS->Prop} {s:AS} {C:List Prop} (T:Nat) (Ks:List Nat) (hs:List (Nat×Hint)) (he:oY (rq P n T Ks hs c s)=some C) (hC:bx C) (h:Q .normal (pN (rq P n T Ks hs c s))):bf P n c Q s:=bf.OZ T Ks hs (iR he) hC h
end
end Go.Proofs.YtjgbhhnghedgdaaGreatDoor
