import Derived.Test.YtjgbhhnghedgdaaGreatDoorZfRH
set_option linter.all false
namespace Go.Proofs.YtjgbhhnghedgdaaGreatDoor
open Go.RowKit
def fi (L:Nat->Bool) (k:Nat):Nat->Bool:=fun j=>if j=k then true else L j
structure SH (ops:Array Oper) (listed:Array Bool):Prop where
 size:listed.size=ops.size
 closed:∀k o,listed.getD k false=true->ops[k]?=some o-> ∀d∈bh o,listed.getD d false=true
section
variable {P:Program} {ops:Array Oper} {Q:Exit->Act->World->Prop}
theorem nI {n T:Nat} (hT:T<ops.size) (Lh:Region.sinkB .any ops T=true) (tN:Region.chainB .any ops T=true) (Q0:Region.seqB .any ops (ops.size-T) T ((List.range ops.size).map (decide<| · <T)).toArray=true) (hB:lZ ops n=true) (J:(Nat->Bool)->Act->World->Prop)
  (wV:∀k o (L:Nat->Bool) a' w',k<T->ops[k]?=some o->L k=false->(∀d∈bh o,L d=true)->(∀j p,L j=true->ops[j]?=some p-> ∀d∈bh p,L d=true)->(∀j,T≤j->L j=false)->J L a' w' ->
   (if Region.wanted o (yielded ops a'.tmps)=true then o.wp P a' w' (fun sP fL=>J (fi L k) sP fL) Q else J (fi L k) (a'.put o.dst undef) w'))
  (kv:∀(L:Nat->Bool) a' w',(∀k,k<T->L k=true)->(∀j,T≤j->L j=false)->J L a' w'->wpList P ops Q (ops.toList.drop T) a' w') :
  ∀(fuel:Nat) (listed:Array Bool) (a':Act) (w':World),SH ops listed->J (fun k=>listed.getD k false) a' w'->(∀j,T≤j->listed.getD j false=false) ->
   (listed.toList.filter (· == false)).length=fuel->wpAny P .any ops Q fuel listed a' w':=by
 obtain ⟨cZ,iF,wW⟩:=gp hB
 have kQ:∀(listed:Array Bool),SH ops listed-> ∀k,k<T->listed.getD k false=false-> ∃i,i<T∧i∈Region.ready .any ops listed:=by
  intro listed I k
  induction k using Nat.strongRecOn with
  | _ k ih =>
   intro hk hl
   have gV:k<listed.size:=by rw [I.size];omega
   have tM:k<ops.size:=ag
   have o9:ops[k]?=some ops[k]:=Array.getElem?_eq_getElem tM
   by_cases gH:∀d∈bh ops[k],listed.getD d false=true
   ·refine ⟨k,hk,?_⟩
    rw [mem_ready]
    refine ⟨?_,ops[k],o9,fun e he hb=>gH e.on ?_⟩
    ·simp [gV] at hl ⊢;exact hl
    ·unfold bh
     exact List.mem_map.2 ⟨e,List.mem_filter.2 ⟨by simpa using he,hb⟩,rfl⟩
   ·have:∃d,d∈bh ops[k]∧listed.getD d false=false:=by
     refine Classical.byContradiction fun fO=>gH fun d hd=>?_
     cases hx:listed.getD d false with
     | true=>rfl
     | false=>exact absurd ⟨d,hd,hx⟩ fO
    obtain ⟨d,hd,hx⟩:=this
    exact ih d (cZ k _ o9 d hd) (by have:=cZ k _ o9 d hd;omega) hx
 have rest:∀(fuel:Nat) (listed:Array Bool) (a':Act) (w':World),SH ops listed->J (fun k=>listed.getD k false) a' w'->(∀j,T≤j->listed.getD j false=false)->(listed.toList.filter (· == false)).length=fuel->(∀k,k<T->listed.getD k false=true)->wpAny P .any ops Q fuel listed a' w':=by
  intro fuel listed a' w' I hJ tail hc all
  have og:listed=((List.range ops.size).map (decide<| · <T)).toArray:=by
   apply Array.ext_getElem?
   intro x
   by_cases hx:x<ops.size
   ·have HU:x<listed.size:=by rw [I.size];exact hx
    have hr:((List.range ops.size).map (decide<| · <T)).toArray[x]?=some (decide (x<T)):=by simp [hx]
    rw [hr]
    by_cases BT:x<T
    ·have:=all x BT;simp [HU] at this ⊢;rw [this,decide_eq_true BT]
    ·have:=tail x ag;simp [HU] at this ⊢;rw [this,decide_eq_false BT]
   ·rw [Array.getElem?_eq_none (by rw [I.size];omega),Array.getElem?_eq_none (by simp;omega)]
  have hlen:fuel=(ops.toList.drop T).length:=by
   rw [←hc,og]
   simp only [List.length_drop,Array.length_toList,List.filter_map,List.length_map]
   have key:∀n,T≤n->((List.range n).filter ((fun x=>x == false) ∘ (decide<| · <T))).length=n-T:=by
    intro n hn
    induction n with
    | zero=>simp
    | succ n ih =>
     rw [List.range_succ,List.filter_append,List.length_append]
     by_cases Rf:T≤n
     ·rw [ih Rf]
      have:((fun x=>x == false) ∘ (decide<| · <T)) n=true:=by simp;omega
      rw [List.filter_cons_of_pos this];simp;omega
     ·obtain rfl:T=n+1:=ag
      have h1:(List.range n).filter ((fun x=>x == false) ∘ (decide<| · <n+1))= []:=by
       rw [List.filter_eq_nil_iff];intro x hx;have:=List.mem_range.1 hx;simp;omega
      have h2:[n].filter ((fun x=>x == false) ∘ (decide<| · <n+1))= []:=by
       rw [List.filter_eq_nil_iff];intro x hx;simp at hx;subst hx;simp
      rw [h1,h2];simp
   exact key ops.size ag
  rw [hlen]
  refine wpAny_of_seq (ops.toList.drop T) T listed a' w' (fun j=>by rw [List.getElem?_drop];simp) ?_ (kv _ a' w' all tail hJ)
  rw [og]
  simpa using Q0
 intro fuel
 induction fuel with
 | zero =>
  intro listed a' w' I hJ tail hc
  refine rest 0 listed a' w' I hJ tail hc fun k hk=>?_
  cases hx:listed.getD k false with
  | true=>rfl
  | false =>
   exfalso
   have gV:k<listed.size:=by rw [I.size];omega
   have:false∈listed.toList.filter (· == false):=by
    refine List.mem_filter.2 ⟨?_,rfl⟩
    have h1:listed.toList[k]?=some false:=by simp [gV] at hx ⊢;exact hx
    exact List.mem_of_getElem? h1
   have:=List.length_pos_of_mem this
   omega
 | succ fuel ih =>
  intro listed a' w' I hJ tail hc
  by_cases hex:∀k,k<T->listed.getD k false=true
  ·exact rest (fuel+1) listed a' w' I hJ tail hc hex
  have QV:∃k,k<T∧listed.getD k false=false:=by
   refine Classical.byContradiction fun fO=>hex fun k hk=>?_
   cases hx:listed.getD k false with
   | true=>rfl
   | false=>exact absurd ⟨k,hk,hx⟩ fO
  obtain ⟨k0,zy,Jv⟩:=QV
  have RF:HeadInv .any ops T listed:=⟨I.size,fun j oj hj hl e he hb=>I.closed j oj hl hj e.on (by
    unfold bh
    exact List.mem_map.2 ⟨e,List.mem_filter.2 ⟨by simpa using he,hb⟩,rfl⟩),fun t ht QZ=>getD_in (by rw [I.size];exact QZ) (tail t ht)⟩
  have JU:listed.getD k0 true=false:=getD_in (by rw [I.size];omega) Jv
  refine ⟨fun hr=>(by
   obtain ⟨i,_,hi⟩:=kQ listed I k0 zy Jv
   rw [hr] at hi;cases hi),fun i hi=>?_⟩
  have Ro:i<T:=Classical.byContradiction fun h=>tail_waits Lh tN hT RF _ k0 rfl zy JU i ag hi
  obtain ⟨h0,o,ho,gH⟩:=mem_ready.1 hi
  have JV:i<listed.size:=by rw [I.size];exact (Array.getElem?_eq_some_iff.1 ho).1
  have Qj:listed.getD i false=false:=by simp [JV] at h0 ⊢;exact h0
  have jo:∀d∈bh o,listed.getD d false=true:=by
   intro d hd
   unfold bh at hd
   obtain ⟨e,he,rfl⟩:=List.mem_map.1 hd
   obtain ⟨Ny,Mp⟩:=List.mem_filter.1 he
   exact gH e (by simpa using Ny) Mp
  have next:SH ops (listed.setIfInBounds i true):=by
   refine ⟨by simpa using I.size,fun k p hk hp d hd=>?_⟩
   by_cases tL:i=k
   ·subst tL
    rw [ho] at hp;injection hp with hp;subst hp
    exact getD_set_true (jo d hd)
   ·rw [getD_set_ne false tL] at hk
    exact getD_set_true (I.closed k p hk hp d hd)
  have eF:(fun k=>(listed.setIfInBounds i true).getD k false)=fi (fun k=>listed.getD k false) i:=by
   funext k
   unfold fi
   by_cases tL:k=i
   ·subst tL;rw [if_pos rfl];simp [JV]
   ·rw [if_neg tL,getD_set_ne false (Ne.symm tL)]
  have n_:∀j,T≤j->(listed.setIfInBounds i true).getD j false=false:=fun j hj=>by rw [getD_set_ne false ag];exact tail j hj
  have oe:((listed.setIfInBounds i true).toList.filter (· == false)).length=fuel:=by
   have Rj:((listed.setIfInBounds i true).toList.filter (· == false)).length+1=(listed.toList.filter (· == false)).length:=by
    rw [Array.toList_setIfInBounds]
    have jw:listed.toList[i]?=some false:=by simp [JV] at h0 ⊢;exact h0
    exact p_ _ i jw
   omega
  have i6:=wV i o (fun k=>listed.getD k false) a' w' Ro ho Qj jo (fun j p hj hp d hd=>I.closed j p hj hp d hd) tail hJ
  rw [←eF] at i6
  unfold wpOp
  rw [ho]
  simp only
  by_cases hw:Region.wanted o (yielded ops a'.tmps)=true
  ·rw [if_pos hw] at i6 ⊢
   left
   exact Oper.wp_mono (fun sP fL h=>ih _ _ _ next h n_ oe) i6
  ·rw [if_neg hw] at i6 ⊢
   exact ih _ _ _ next i6 n_ oe
end
def dV (ops:List Oper) (col:List AV) (L:Nat->Bool):Nat->List (Nat×AV)
 | 0=>[]
 | k+1=>match L k,ops[k]?,col[k]? with
  | true,some o,some x=>(match o.dst with|some i=>(i,x)::dV ops col L k|none=>dV ops col L k)
  | _,_,_=>dV ops col L k
theorem kX (ops:List Oper) (col:List AV) (L:Nat->Bool):∀(T i:Nat) (x:AV),look (dV ops col L T) i=some x-> ∃k o,k<T∧L k=true∧ops[k]?=some o∧o.dst=some i∧col[k]?=some x
 | 0,i,x,h=>by cases h
 | k+1,i,x,h=>by
  have step:look (dV ops col L k) i=some x-> ∃k' o,k'<k+1∧L k'=true∧ops[k']?=some o∧o.dst=some i∧col[k']?=some x:=fun h=>by
   obtain ⟨k',o,h1,h2⟩:=kX ops col L k i x h
   exact ⟨k',o,ag,h2⟩
  simp only [dV] at h
  split at h
  ·rename_i o y hL ho hy
   split at h
   ·rename_i j hj
    rw [aD] at h
    by_cases e:j=i
    ·rw [if_pos e] at h;injection h with h;subst h;subst e
     exact ⟨k,o,ag,hL,ho,hj,hy⟩
    ·rw [if_neg e] at h;exact step h
   ·exact step h
  ·exact step h
theorem gN {ops:List Oper} (iF:(ops.filterMap (·.dst)).Nodup) (col:List AV) (L:Nat->Bool):∀(T k i:Nat) (o:Oper) (x:AV),k<T->L k=true->ops[k]?=some o->o.dst=some i->col[k]?=some x->look (dV ops col L T) i=some x
 | 0,k,i,o,x,h,_,_,_,_=>by omega
 | m+1,k,i,o,x,hk,hL,ho,hd,hx=>by
  by_cases Sp:k=m
  ·subst Sp
   simp only [dV,hL,ho,hx,hd,aD,if_pos]
  ·have ih:=gN iF col L m k i o x ag hL ho hd hx
   simp only [dV]
   split
   ·rename_i p y _ hp _
    split
    ·rename_i j hj
     rw [aD]
     have cU:j≠i:=fun e=>by
      subst e
      exact Sp (oV (ops:=ops.toArray) (by simpa using iF) (by simpa using ho) (by simpa using hp) hd hj)
     rw [if_neg cU];exact ih
    ·exact ih
   ·exact ih
theorem jt {ops:List Oper} {col:List AV} {L:Nat->Bool} {T i:Nat} (h:∀k o,k<T->ops[k]?=some o->o.dst≠some i):look (dV ops col L T) i=none:=by
 cases hl:look (dV ops col L T) i with
 | none=>rfl
 | some x =>
  obtain ⟨k,o,h1,-,h3,h4,-⟩:=kX ops col L T i x hl
  exact absurd h4 (h k o h1 h3)
theorem aJ.sub {S0:bo} {w0 w:World} {n:Nat} {O:List Nat} {F F':List (Nat×AV)} {H:List (Nat×Row)} {a:Act} {φ:Nat->Option Nat} (h:aJ S0 w0 n O ⟨F,H⟩ a w φ) (hF:∀i x,look F' i=some x->look F i=some x∨x= .dead):aJ S0 w0 n O ⟨F',H⟩ a w φ:=by
 refine ⟨h.j7,h.j_,h.cX,fun i x hx=>?_,h.rows,h.only,h.inj,h.cW,h.apart,h.new⟩
 rcases hF i x hx with h1|h1
 ·exact h.cA i x h1
 ·rw [h1];exact .dead _
section
variable {P:Program} {ops:List Oper} {S0:bo} {w0:World} {Q:Exit->Act->World->Prop} {n T:Nat} {col:List AV} {kept:List (Nat×AV)} {H:List (Nat×Row)} {L:Nat->Bool} {k:Nat} {o:Oper}
theorem BJ (iF:(ops.filterMap (·.dst)).Nodup) (Hd:∀d∈bh o,L d=true∧d<T) (fM:∀i x,look kept i=some x-> ∀j p,j<T->ops[j]?=some p->p.dst≠some i) (i:Nat) (x:AV) (h:look (jB ops col (bh o)++kept) i=some x):look (dV ops col L T++kept) i=some x:=by
 rw [bJ] at h ⊢
 cases hd:look (jB ops col (bh o)) i with
 | some y =>
  rw [hd] at h
  simp at h;subst h
  obtain ⟨d,p,h1,h2,h3,h4⟩:=oL _ _ _ _ _ hd
  rw [gN iF col L T d i p y (Hd d h1).2 (Hd d h1).1 h2 h3 h4];rfl
 | none =>
  rw [hd] at h
  simp at h
  rw [jt fun j p hj hp=>fM i x h j p hj hp]
  simpa using h
theorem uO {h:Hint} {x:AV} {C:List Prop} {a:Act} {w:World} (iF:(ops.filterMap (·.dst)).Nodup) (wW:∀(k:Nat) (o:Oper) (s:Nat),ops[k]?=some o->o.dst=some s->s<n)
  (hk:k<T) (ho:ops[k]?=some o) (Hd:∀d∈bh o,L d=true∧d<T) (fM:∀i x,look kept i=some x-> ∀j p,j<T->ops[j]?=some p->p.dst≠some i)
  (eC:tR P ops ⟨jB ops col (bh o)++kept,H⟩ o h=some (x,C)) (hC:bw C) (hx:col[k]?=some x) (hs:iI S0 w0 n ⟨dV ops col L T++kept,H⟩ a w) :
  if Region.wanted o (yielded ops.toArray a.tmps)=true then o.wp P a w (fun a' w'=>iI S0 w0 n ⟨dV ops col (fi L k) T++kept,H⟩ a' w') Q else iI S0 w0 n ⟨dV ops col (fi L k) T++kept,H⟩ (a.put o.dst undef) w:=by
 obtain ⟨φ,hs⟩:=hs
 have DR:=hs.sub (F':=jB ops col (bh o)++kept) (fun i y hy=>.inl (BJ iF Hd fM i y hy))
 have i6:=Ga (Q:=Q) eC hC DR (b:=a) rfl
 have fin:∀v w',Below w.heap.size w w'->Den (az H φ) (aO S0 w' φ []) w' v x->iI S0 w0 n ⟨dV ops col (fi L k) T++kept,H⟩ (a.put o.dst v) w':=by
  intro v w' hb hd
  have hg:=hs.grow hb
  refine ⟨φ,(uK ..).trans hg.j7,(p8 ..).trans hg.j_,hg.cX,fun i y hy=>?_,hg.rows,hg.only,hg.inj,hg.cW,hg.apart,hg.new⟩
  have hy:look (dV ops col (fi L k) T++kept) i=some y:=hy
  have same:o.dst≠some i->(a.put o.dst v).tmps.getD i undef=a.tmps.getD i undef:=fun cU=>by
   cases Vj:o.dst with
   | none=>rfl
   | some j =>
    have cZ:j<a.tmps.size:=by rw [hg.j7];exact wW k o j ho Vj
    rw [qA a j i v cZ,if_neg (fun e=>cU (by rw [Vj,e]))]
  rw [bJ] at hy
  cases hl:look (dV ops col (fi L k) T) i with
  | some z =>
   rw [hl] at hy
   simp at hy;subst hy
   obtain ⟨j,p,h1,h2,h3,h4,h5⟩:=kX _ _ _ _ _ _ hl
   by_cases xe:j=k
   ·subst xe
    rw [ho] at h3;injection h3 with h3;subst h3
    rw [hx] at h5;injection h5 with h5;subst h5
    have cZ:i<a.tmps.size:=by rw [hg.j7];exact wW j o i ho h4
    rw [h4,qA a i i v cZ,if_pos rfl]
    exact hd
   ·have Sv:L j=true:=by unfold fi at h2;rw [if_neg xe] at h2;exact h2
    have cU:o.dst≠some i:=fun e=>xe (oV (ops:=ops.toArray) (by simpa using iF) (by simpa using h3) (by simpa using ho) h4 e)
    rw [same cU]
    refine hg.cA i z ?_
    show look (dV ops col L T++kept) i=some z
    rw [bJ,gN iF col L T j i p z h1 Sv h3 h4 h5];rfl
  | none =>
   rw [hl] at hy
   simp at hy
   have cU:o.dst≠some i:=fM i y hy k o hk ho
   rw [same cU]
   refine hg.cA i y ?_
   show look (dV ops col L T++kept) i=some y
   rw [bJ,jt fun j p hj hp=>fM i y hy j p hj hp]
   simpa using hy
 unfold ib at i6
 split
 ·rename_i hw
  rw [if_pos hw] at i6
  exact Oper.wp_mono (fun a' w' ⟨v,h1,h2,h3,h4⟩=>by subst h1;exact fin v w' h2 h4) i6
 ·rename_i hw
  rw [if_neg hw] at i6
  exact fin undef w (Below.refl _ _) i6.2
end
def K3 (d:Nat):AV->AV->AV
 | .ref id,x=>jY d (jY id x)
 | .pre id _,x=>jY d (jY id x)
 | _,x=>jY d x
def R3 (d:Nat) (X:AV) (F:List (Nat×AV)):List (Nat×AV):=(d,.ref d)::cP (eu (K3 d X) F) d
theorem mm {α:Type} (f g:α->α):∀(l:List (Nat×α)),eu f (eu g l)=eu (fun x=>f (g x)) l
 | []=>rfl
 | (k,x)::l=>by simp only [eu,mm f g l]
theorem Ip (P:Program) (F F':List (Nat×AV)) (H:List (Nat×Row)) (xt:TypeId) (z:Nat) (x:AV):rK P ⟨F',H⟩ xt z x=rK P ⟨F,H⟩ xt z x:=by
 cases x<;>rfl
theorem K2 {P:Program} {n:Nat} {F F':List (Nat×AV)} {H:List (Nat×Row)} {d t xt:Nat} {X Y:AV} {h:Hint} {q:AS} {C:List Prop} (he:lj P n ⟨F,H⟩ d t xt X Y h=some (q,C)):lj P n ⟨F',H⟩ d t xt X Y h=some (⟨R3 d X F',q.H⟩,C):=by
 unfold lj at he ⊢
 split at he
 ·rename_i el hu
  split at he
  ·rename_i i hi
   split at he
   ·rename_i zero z b hz dB x_
    split at he
    ·rename_i cells s1 row vD lY gP
     split at he
     ·rename_i C' s' pv eF
      cases he
      have Rw:∃PR,q7 ⟨F',H⟩ (z+1) X=some (cells,PR)∧PR.H=s1.H∧eu (jY d) PR.F=eu (K3 d X) F':=by
       unfold q7 at lY ⊢
       split at lY
       ·cases lY;exact ⟨_,rfl,rfl,rfl⟩
       ·split at lY
        ·rename_i e' _ Pz hl
         split at lY
         ·rename_i hb
          cases lY
          refine ⟨bX _ ⟨F',H⟩,?_,rfl,?_⟩
          ·have sc:look (⟨F',H⟩:AS).H _=_:=hl
           simp only [sc,hb]
          ·exact mm _ _ _
         ·cases lY
        ·cases lY
       ·split at lY
        ·rename_i e' _ Pz hl
         split at lY
         ·rename_i hb
          cases lY
          refine ⟨bX _ ⟨F',H⟩,?_,rfl,?_⟩
          ·have sc:look (⟨F',H⟩:AS).H _=_:=hl
           simp only [sc,hb]
          ·exact mm _ _ _
         ·cases lY
        ·cases lY
       ·split at lY
        ·rename_i hb
         cases lY
         exact ⟨⟨F',H⟩,rfl,rfl,rfl⟩
        ·cases lY
       ·cases lY
      obtain ⟨PR,H0,AK,WK⟩:=Rw
      rw [Ip P F F'] at *
      simp only [vD,H0,gP,pv]
      unfold gF at eF ⊢
      simp only at eF ⊢
      split at eF
      ·cases eF
       have e1:(bX d PR).H=(bX d s1).H:=by unfold bX;rw [AK]
       have e2:(bX d PR).F=eu (K3 d X) F':=WK
       simp only [lO,e1,e2,R3]
      ·cases eF
     ·cases he
    ·cases he
   ·cases he
  ·cases he
 ·cases he
section
variable {P:Program} {ops:List Oper} {S0:bo} {w0:World} {Q:Exit->Act->World->Prop} {n T:Nat} {col col':List AV} {kept:List (Nat×AV)} {H H':List (Nat×Row)} {L:Nat->Bool} {k:Nat} {o:Oper}
theorem zo {f:AV->AV} {F:List (Nat×AV)} {d i:Nat} (h:d≠i):look (cP (eu f F) d) i=(look F i).map f:=by rw [bD,if_neg h,cp]
def vh (F:List (Nat×AV)):Operand->Bool
 | .tmp i=>(look F i).isSome
 | _=>true
theorem mR {F F':List (Nat×AV)} (hF:∀i x,look F i=some x->look F' i=some x) {y:Operand} (h:vh F y=true):bq ⟨F',H⟩ y=bq ⟨F,H⟩ y:=by
 cases y with
 | tmp i =>
  have h:(look F i).isSome=true:=h
  cases hl:look F i with
  | none=>rw [hl] at h;cases h
  | some x =>
   show j9 _ i=j9 _ i
   unfold j9
   rw [show look (⟨F',H⟩:AS).F i=some x from hF i x hl,show look (⟨F,H⟩:AS).F i=some x from hl]
 | _=>rfl
end
def Qw:List Nat->List Nat->List Nat
 | [],m=>m
 | x::l,m=>match m.any (Nat.beq x) with|true=>Qw l m|false=>Qw l (x::m)
theorem zi:∀(l m:List Nat) (x:Nat),x∈Qw l m->x∈l∨x∈m
 | [],m,x,h=>.inr h
 | y::l,m,x,h=>by
  simp only [Qw] at h
  split at h
  ·rcases zi l m x h with h|h
   ·exact .inl (by simp [h])
   ·exact .inr h
  ·rcases zi l (y::m) x h with h|h
   ·exact .inl (by simp [h])
   ·rcases List.mem_cons.1 h with h|h
    ·exact .inl (by simp [h])
    ·exact .inr h
def nL (R:List (List Nat)):List Nat->List Nat
 | []=>[]
 | d::l=>Qw (d::R.getD d []) (nL R l)
theorem vm (R:List (List Nat)):∀(l:List Nat) (x:Nat),x∈nL R l-> ∃d∈l,x=d∨x∈R.getD d []
 | [],x,h=>by simp [nL] at h
 | d::l,x,h=>by
  rcases zi _ _ x h with h|h
  ·exact ⟨d,by simp,List.mem_cons.1 h⟩
  ·obtain ⟨e,h1,h2⟩:=vm R l x h
   exact ⟨e,by simp [h1],h2⟩
def mP:List Oper->List (List Nat)->List (List Nat)
 | [],R=>R
 | o::l,R=>mP l (R++ [nL R (bh o)])
def uu (ops:List Oper) (R:List (List Nat)):Prop:=∀(k:Nat) (o:Oper),ops[k]?=some o-> ∀(L:Nat->Bool),(∀j p,L j=true->ops[j]?=some p-> ∀d∈bh p,L d=true)->(∀d∈bh o,L d=true)-> ∀j∈R.getD k [],L j=true
theorem rR (ops:List Oper):∀(l:List Oper) (R:List (List Nat)),uu ops R->(∀j o,l[j]?=some o->ops[R.length+j]?=some o)->(∀(k:Nat) (o:Oper),ops[k]?=some o-> ∀d∈bh o,d<k)->uu ops (mP l R)
 | [],R,h,_,_=>h
 | o::l,R,h,hl,cZ=>by
  refine rR ops l _ ?_ (fun j p hp=>?_) cZ
  ·intro k p hp L hc hd j hj
   by_cases hk:k<R.length
   ·have:(R++ [nL R (bh o)]).getD k []=R.getD k []:=by
     rw [List.getD_eq_getElem?_getD,List.getD_eq_getElem?_getD,List.getElem?_append_left hk]
    rw [this] at hj
    exact h k p hp L hc hd j hj
   ·by_cases tM:k=R.length
    ·subst tM
     have e:(R++ [nL R (bh o)]).getD R.length []=nL R (bh o):=by
      rw [List.getD_eq_getElem?_getD,List.getElem?_append_right (Nat.le_refl _)];simp
     rw [e] at hj
     have ho:ops[R.length]?=some o:=by have:=hl 0 o rfl;simpa using this
     rw [ho] at hp;injection hp with hp;subst hp
     obtain ⟨d,h1,h2⟩:=vm R _ j hj
     rcases h2 with h2|h2
     ·subst h2;exact hd j h1
     ·cases Sn:ops[d]? with
      | none =>
       exfalso
       have:=cZ R.length o ho d h1
       have h3:=(List.getElem?_eq_some_iff.1 ho).1
       rw [List.getElem?_eq_getElem ag] at Sn;cases Sn
      | some q=>exact h d q Sn L hc (fun d' He=>hc d q (hd d h1) Sn d' He) j h2
    ·have e:(R++ [nL R (bh o)]).getD k []= []:=by
      rw [List.getD_eq_getElem?_getD,List.getElem?_eq_none (by simp;omega)];rfl
     rw [e] at hj;cases hj
  ·rw [List.length_append]
   have:=hl (j+1) p (by simpa using hp)
   simp only [List.length_cons,List.length_nil]
   rwa [show R.length+(j+1)=R.length+(0+1)+j by omega] at this
def hit (l m:List Nat):Bool:=l.any fun x=>m.any (Nat.beq x)
theorem any_beq {m:List Nat} {x:Nat}:m.any (Nat.beq x)=true↔x∈m:=by
 rw [List.any_eq_true]
 exact ⟨fun ⟨y,h1,h2⟩=>by rw [Nat.eq_of_beq_eq_true h2];exact h1,fun h=>⟨x,h,Nat.beq_refl x⟩⟩
theorem oN {l m:List Nat}:hit l m=true↔ ∃x,x∈l∧x∈m:=by
 unfold hit
 rw [List.any_eq_true]
 exact ⟨fun ⟨x,h1,h2⟩=>⟨x,h1,any_beq.1 h2⟩,fun ⟨x,h1,h2⟩=>⟨x,h1,any_beq.2 h2⟩⟩
structure oA where
 col:List AV
 kept:List (Nat×AV)
 H:List (Nat×Row)
def ri (P:Program) (ops:List Oper) (hs:List (Nat×Hint)) (R:List (List Nat)) (done rest last:List Nat) (first:Bool) (old:List AV) (kept:List (Nat×AV)) (H:List (Nat×Row)) (o:Oper) (k:Nat) (col:List AV):Option (AV×List Prop) :=
 match rest.any (Nat.beq k),hit (R.getD k []) rest with
 | false,false=>(match done.any (Nat.beq k),done.any (fun W=>(R.getD W []).any (Nat.beq k)) with
  | false,false=>(match tR P ops ⟨jB ops col (bh o)++kept,H⟩ o (gQ hs k) with
   | some (x,C)=>(match first,hit (R.getD k []) last with
    | false,false=>some (x,(old.getD k .dead=x)::C)
    | _,_=>some (x,C))
   | none=>none)
  | _,_=>some (old.getD k .dead,[]))
 | _,_=>some (.dead,[])
def Aw (P:Program) (ops:List Oper) (hs:List (Nat×Hint)) (R:List (List Nat)) (done rest last:List Nat) (first:Bool) (old:List AV) (kept:List (Nat×AV)) (H:List (Nat×Row)):List Oper->Nat->List AV->Option (List AV×List Prop)
 | [],_,col=>some (col,[])
 | o::l,k,col=>match ri P ops hs R done rest last first old kept H o k col with
  | some (x,C)=>(match Aw P ops hs R done rest last first old kept H l (k+1) (col++ [x]) with|some (col',D)=>some (col',C++D)|none=>none)
  | none=>none
theorem jO {P:Program} {ops:List Oper} {hs:List (Nat×Hint)} {R:List (List Nat)} {done rest last:List Nat} {first:Bool} {old:List AV} {kept:List (Nat×AV)} {H:List (Nat×Row)}:∀(l:List Oper) (i:Nat) (col col':List AV) (C:List Prop),Aw P ops hs R done rest last first old kept H l i col=some (col',C)->bw C->col.length=i ->
  col'.length=i+l.length∧col'.take i=col∧ ∀(j:Nat) (o:Oper),l[j]?=some o-> ∃x D,col'[i+j]?=some x∧bw D∧ri P ops hs R done rest last first old kept H o (i+j) (col'.take (i+j))=some (x,D)
 | [],i,col,col',C,he,hC,hl=>by
  cases he
  exact ⟨by simp [hl],by rw [←hl,List.take_length],fun j o h=>by simp at h⟩
 | o::l,i,col,col',C,he,hC,hl=>by
  simp only [Aw] at he
  split at he
  ·rename_i x C1 h1
   split at he
   ·rename_i Xq D h2
    cases he
    obtain ⟨iX,hD⟩:=bN.1 hC
    obtain ⟨e1,e2,e3⟩:=jO l (i+1) (col++ [x]) col' D h2 hD (by simp [hl])
    have e4:col'.take i=col:=by
     have:=congrArg (List.take i) e2
     rw [List.take_take,Nat.min_eq_left ag,←hl,List.take_left] at this
     rw [←hl];exact this
    have e5:col'[i]?=some x:=by
     have h3:(col'.take (i+1))[i]?=some x:=by rw [e2,List.getElem?_append_right ag,hl];simp
     exact bS _ _ _ _ h3
    refine ⟨by rw [e1,List.length_cons];omega,e4,fun j p hp=>?_⟩
    cases j with
    | zero =>
     simp at hp;subst hp
     exact ⟨x,C1,by simpa using e5,iX,by simp only [Nat.add_zero];rw [e4];exact h1⟩
    | succ j =>
     obtain ⟨y,D',h5,h6,h7⟩:=e3 j p (by simpa using hp)
     rw [show i+1+j=i+(j+1) by omega] at h5 h7
     exact ⟨y,D',h5,h6,h7⟩
   ·cases he
  ·cases he
def iD:List Nat->AV->AV
 | [],x=>x
 | i::l,x=>iD l (jY i x)
theorem i9:∀(l:List Nat) (F F':List (Nat×AV)) (H:List (Nat×Row)),(aV ⟨F,H⟩ l).F=eu (iD l) F∧(aV ⟨F,H⟩ l).H=(aV ⟨F',H⟩ l).H
 | [],F,F',H=>⟨by
   show F=eu (fun x=>x) F
   induction F with
   | nil=>rfl
   | cons p F ih=>obtain ⟨k,x⟩:=p;simp only [eu,←ih],rfl⟩
 | i::l,F,F',H=>by
  obtain ⟨h1,h2⟩:=i9 l (eu (jY i) F) (eu (jY i) F') (eu (cF i) (cP H i))
  refine ⟨?_,h2⟩
  show (aV ⟨eu (jY i) F,eu (cF i) (cP H i)⟩ l).F=_
  rw [h1,mm];rfl
def nW (F:List (Nat×AV)):List Operand->Bool
 | []=>true
 | x::l=>match vh F x with|true=>nW F l|false=>false
def pB (s:AS) (x y:Operand):Bool :=
 match bq s x with
 | .addr id _=>(match look s.H id with
  | some r=>(match r.pure,o8 (bq s y) with
   | false,_=>true
   | true,[]=>true
   | _,_=>false)
  | none=>false)
 | _=>false
def Ql (P:Program) (n:Nat) (s:AS) (o:Oper) (h:Hint):Option ((AV->AV)×AV×List (Nat×Row)×List Prop) :=
 match o.guard,o.op,o.dst with
 | none,.call ⟨.builtin .append,⟨[x,y]⟩,⟨[t,xt]⟩⟩,some d=>(match vh s.F x,vh s.F y,lj P n s d t xt (bq s x) (bq s y) h with
  | true,true,some (q,C)=>some (K3 d (bq s x),.ref d,q.H,C)
  | _,_,_=>none)
 | none,.alloc t,some d=>(match oS P n s d t h with
  | some (q,C)=>some (jY d,.addr d 0,q.H,C)
  | none=>none)
 | none,.call ⟨.value (.func f),xs,_⟩,some d=>(match h.ln,h.av,nW s.F xs.toList,((xs.toList.map (bq s)).flatMap o8).filter fun i=> !(BH i (h.ln.map (·.1))) with
  | _::_,some r,true,[]=>(match oR P n s (some d) (.value (.func f)) xs.toList h with
   | some (q,C)=>some (fun x=>iD ((bH d r).2.map (·.1)) (iD (fB h.ln) x),(bH d r).1,q.H,C)
   | none=>none)
  | [],some r,true,I=>(match h.b || I.isEmpty,sD P n s (some d) (.value (.func f)) xs.toList h with
   | true,some (q,C)=>some (iD ((bH d r).2.map (·.1)),(bH d r).1,q.H,C)
   | _,_=>none)
  | _,_,_,_=>none)
 | none,.store t x y,none=>(match vh s.F x,vh s.F y,pB s x y,lf P s t x y h with
  | true,true,true,some (q,C)=>some (fun x=>x,.dead,q.H,C)
  | _,_,_,_=>none)
 | none,.buildSlice t len ⟨parts⟩,some d=>(match nW s.F (parts.map (·.2)),parts.flatMap (fun p=>o8 (bq s p.2)) with
  | true,[]=>(match wj P n s d t len parts h with
   | some (q,C)=>some (jY d,.ref d,q.H,C)
   | none=>none)
  | _,_=>none)
 | _,_,_=>none
def xa (d:Option Nat) (X:AV) (F:List (Nat×AV)):List (Nat×AV):=match d with|some d=>(d,X)::cP F d|none=>F
theorem FB:∀(F:List (Nat×AV)),eu (fun x=>x) F=F
 | []=>rfl
 | (k,x)::F=>by simp only [eu,FB F]
theorem C_ {P:Program} {F F':List (Nat×AV)} {H:List (Nat×Row)} {t:TypeId} {x y:Operand} {h:Hint} {q:AS} {C:List Prop} (dC:pB ⟨F,H⟩ x y=true) (ex:bq ⟨F',H⟩ x=bq ⟨F,H⟩ x) (ey:bq ⟨F',H⟩ y=bq ⟨F,H⟩ y) (he:lf P ⟨F,H⟩ t x y h=some (q,C)):lf P ⟨F',H⟩ t x y h=some (⟨F',q.H⟩,C):=by
 unfold lf at he ⊢
 unfold pB at dC
 rw [ex,ey]
 split at dC
 ·rename_i id off hx
  split at dC
  ·rename_i r hr
   have hr:look H id=some r:=hr
   cases hz:eH P t with
   | none=>simp only [hx,hr,hz] at he;cases he
   | some z =>
    simp only [hx,hr,hz] at he ⊢
    split at dC
    ·rename_i hp
     rw [hp] at he ⊢
     simp only at he ⊢
     split at he
     ·rename_i l hl
      split at he
      ·rename_i h1 h2
       cases he
       rfl
      ·cases he
     ·cases he
    ·rename_i hp hi
     rw [hp,hi] at he ⊢
     simp only [gi,hr,hx,ex,ey] at he ⊢
     split at he
     ·rename_i r1 l pU DA Q8 hl hid
      cases Q8;cases hid
      split at he
      ·rename_i h1 h2 h3 h4
       cases he
       rfl
      ·cases he
     ·cases he
    ·cases dC
  ·cases dC
 ·cases dC
theorem vg {F F':List (Nat×AV)} {H:List (Nat×Row)} (hF:∀i x,look F i=some x->look F' i=some x):∀ {l:List Operand},nW F l=true->l.map (bq ⟨F',H⟩)=l.map (bq ⟨F,H⟩)
 | [],_=>rfl
 | x::l,h=>by
  simp only [nW] at h
  split at h
  ·rename_i hx
   rw [List.map_cons,List.map_cons,mR (H:=H) hF hx,vg hF h]
  ·cases h
theorem mV {F F':List (Nat×AV)} {H:List (Nat×Row)} {z:Nat} (hF:∀i x,look F i=some x->look F' i=some x):∀(l:List (Nat×Operand)) (i:Nat),nW F (l.map (·.2))=true->gu ⟨F',H⟩ z i l=gu ⟨F,H⟩ z i l∧l.flatMap (fun p=>o8 (bq ⟨F',H⟩ p.2))=l.flatMap (fun p=>o8 (bq ⟨F,H⟩ p.2))
 | [],_,_=>⟨rfl,rfl⟩
 | (j,x)::l,i,h=>by
  simp only [List.map_cons,nW] at h
  split at h
  ·rename_i hx
   obtain ⟨h1,h2⟩:=mV (H:=H) (z:=z) hF l (i+1) h
   have ex:=mR (H:=H) hF hx
   refine ⟨?_,?_⟩
   ·simp only [gu,ex,h1]
   ·simp only [List.flatMap_cons,ex,h2]
  ·cases h
theorem Jf {P:Program} {n d t len:Nat} {F F':List (Nat×AV)} {H:List (Nat×Row)} {l:List (Nat×Operand)} {h:Hint} {q:AS} {C:List Prop} (hF:∀i x,look F i=some x->look F' i=some x) (ho:nW F (l.map (·.2))=true) (hi:l.flatMap (fun p=>o8 (bq ⟨F,H⟩ p.2))= []) (he:wj P n ⟨F,H⟩ d t len l h=some (q,C)) :
  wj P n ⟨F',H⟩ d t len l h=some (⟨(d,.ref d)::cP (eu (jY d) F') d,q.H⟩,C):=by
 have hc:∀z,gu ⟨F',H⟩ z 0 l=gu ⟨F,H⟩ z 0 l:=fun z=>(mV hF l 0 ho).1
 have jw:=(mV (z:=0) (H:=H) hF l 0 ho).2
 rw [hi] at jw
 unfold wj at he ⊢
 rw [hi] at he
 rw [jw]
 simp only [gi] at he ⊢
 split at he
 ·rename_i el hu
  split at he
  ·rename_i z zero s1 hz hzero ij
   cases ij
   try simp only [hz,hzero,hc]
   split at he
   ·rename_i cells h1 h2 h3
    try simp only [h1,h2,h3]
    split at he
    ·rename_i h4
     try simp only [h4]
     split at he
     ·rename_i row O8
      try simp only [O8]
      split at he
      ·rename_i s' hp bT
       cases he
       unfold gF at bT ⊢
       try simp only [hp] at bT ⊢
       split at bT
       ·cases bT
        rfl
       ·cases bT
      ·cases he
     ·rename_i O8
      split at he
      ·rename_i s' hp bT
       cases he
       unfold gF at bT ⊢
       try simp only [hp] at bT ⊢
       split at bT
       ·cases bT
        rfl
       ·cases bT
      ·cases he
    ·cases he
   ·cases he
  ·cases he
 ·cases he
theorem Kk {P:Program} {n:Nat} {F:List (Nat×AV)} {H H':List (Nat×Row)} {o:Oper} {h:Hint} {Tr:AV->AV} {X:AV} {C:List Prop} (eC:Ql P n ⟨F,H⟩ o h=some (Tr,X,H',C)) :
  o.guard=none∧ ∀F',(∀i x,look F i=some x->look F' i=some x)->mF P n ⟨F',H⟩ o ⟨xa o.dst X (eu Tr F'),H'⟩ C:=by
 unfold Ql at eC
 split at eC
 ·rename_i x y t xt d hg wV hd
  split at eC
  ·rename_i q C' h1 h2 h3
   cases eC
   refine ⟨hg,fun F' hF=>?_⟩
   rw [hd]
   simp only [xa]
   have Ru:=K2 (F':=F') h3
   have ex:=mR (H:=H) hF h1
   have ey:=mR (H:=H) hF h2
   rw [←ey,←ex] at Ru
   have:=tt (n:=n) (s:=⟨F',H⟩) wV hd Ru
   rw [ex] at this
   exact this
  ·cases eC
 ·rename_i t d hg wV hd
  split at eC
  ·rename_i q C' h1
   cases eC
   refine ⟨hg,fun F' hF=>?_⟩
   rw [hd]
   simp only [xa]
   have h2:oS P n ⟨F',H⟩ d t h=some (⟨(d,.addr d 0)::cP (eu (jY d) F') d,q.H⟩,C):=by
    unfold oS at h1 ⊢
    split at h1
    ·split at h1
     ·split at h1
      ·rename_i s' bT
       cases h1
       unfold gF at bT ⊢
       simp only at bT ⊢
       split at bT
       ·cases bT;rfl
       ·cases bT
      ·cases h1
     ·split at h1
      ·rename_i s' bT
       cases h1
       unfold gF at bT ⊢
       simp only at bT ⊢
       split at bT
       ·cases bT;rfl
       ·cases bT
      ·cases h1
    ·cases h1
   exact wx (s:=⟨F',H⟩) wV hd h2
  ·cases eC
 ·rename_i f xs ts d hg wV hd
  split at eC
  ·rename_i p l r Mj O8 JI Ml
   split at eC
   ·rename_i q C' h1
    cases eC
    refine ⟨hg,fun F' hF=>?_⟩
    rw [hd]
    simp only [xa]
    have eo:=vg (H:=H) hF JI
    have h2:oR P n ⟨F',H⟩ (some d) (.value (.func f)) xs.toList h=some (⟨(d,(bH d r).1)::cP (eu (fun x=>iD ((bH d r).2.map (·.1)) (iD (fB h.ln) x)) F') d,q.H⟩,C):=by
     unfold oR at h1 ⊢
     rw [eo]
     simp only [O8,callee] at h1 ⊢
     rw [Ml] at h1 ⊢
     simp only [gi] at h1 ⊢
     split at h1
     ·rename_i s1 hE ij
      cases ij
      split at h1
      ·rename_i Hl Hb C2 g1 g2 g3 g4
       have Xk:jb ⟨F',H⟩ h.ln h.ln=some Hl:=by
        have key:∀(ρ l:List (Nat×Nat)),jb ⟨F',H⟩ ρ l=jb ⟨F,H⟩ ρ l:=by
         intro ρ l
         induction l with
         | nil=>rfl
         | cons p l ih=>obtain ⟨c,k⟩:=p;simp only [jb,ih]
        rw [key];exact g1
       have Xj:qi ⟨F',H⟩ h.ho h.ln=some C2:=by
        have key:∀(l:List (Nat×Nat)),qi ⟨F',H⟩ h.ho l=qi ⟨F,H⟩ h.ho l:=by
         intro l
         induction l with
         | nil=>rfl
         | cons p l ih=>obtain ⟨c,k⟩:=p;simp only [qi,ih]
        rw [key];exact g4
       rw [hE]
       simp only
       rw [Xk,g2,g3,Xj]
       simp only
       have em:(xs.toList.map fun x=>sX h.ln (bq ⟨F',H⟩ x))=xs.toList.map fun x=>sX h.ln (bq ⟨F,H⟩ x):=by
        have:=congrArg (List.map (sX h.ln)) eo
        rwa [List.map_map,List.map_map] at this
       rw [em]
       have eB:∀F0,jq ⟨F0,H⟩ h.ln Hb=⟨eu (iD (fB h.ln)) F0,Hb++pZ (aV ⟨F,H⟩ (fB h.ln)).H (h.ln.map (·.1))⟩:=fun F0=>by
        unfold jq
        rw [(i9 (fB h.ln) F0 F H).1,(i9 (fB h.ln) F0 F H).2]
       rw [eB] at h1 ⊢
       split at h1
       ·rename_i s' xZ eF
        cases h1
        have eR:=fun F0=>i9 ((bH d r).2.map (·.1)) F0 (eu (iD (fB h.ln)) F) (Hb++pZ (aV ⟨F,H⟩ (fB h.ln)).H (h.ln.map (·.1)))
        rw [xZ,(eR (eu (iD (fB h.ln)) F')).1,(eR (eu (iD (fB h.ln)) F')).2]
        unfold gF at eF ⊢
        simp only at eF ⊢
        split at eF
        ·cases eF
         simp only [lO,mm]
        ·cases eF
       ·cases h1
      ·cases h1
     ·cases h1
    have OL:o.op= .call ⟨.value (.func f),xs,ts⟩:=wV
    rw [←hd] at h2
    exact wu (s:=⟨F',H⟩) OL h2
   ·cases eC
  ·rename_i x4 r Mj O8 JI
   split at eC
   ·rename_i q C' hb h1
    cases eC
    refine ⟨hg,fun F' hF=>?_⟩
    rw [hd]
    simp only [xa]
    have eo:=vg (H:=H) hF JI
    have eV:∀(l:List AV),j8 ⟨F',H⟩ l=j8 ⟨F,H⟩ l:=by
     intro l
     have e0:∀x,jS ⟨F',H⟩ x=jS ⟨F,H⟩ x:=fun x=>rfl
     have eL:∀(m:List AV),pb ⟨F',H⟩ m=pb ⟨F,H⟩ m:=by
      intro m
      induction m with
      | nil=>rfl
      | cons x m ih=>simp only [pb,ih,e0]
     have e1:∀x,view ⟨F',H⟩ x=view ⟨F,H⟩ x:=by
      intro x
      unfold view
      split
      ·rw [eL]
      ·rfl
     induction l with
     | nil=>rfl
     | cons x l ih=>simp only [j8,ih,e1]
    have eI:h.b=false->(xs.toList.map (bq ⟨F,H⟩)).flatMap o8= []:=fun e=>by
     rw [e,Mj] at hb
     have h0:((xs.toList.map (bq ⟨F,H⟩)).flatMap o8).isEmpty=true:=by
      have e9:∀l:List Nat,l.filter (fun i=> !(BH i (([]:List (Nat×Nat)).map (·.1))))=l:=fun l=>List.filter_eq_self.2 fun _ _=>rfl
      rw [e9] at hb
      exact hb
     exact List.isEmpty_iff.1 h0
    have h2:sD P n ⟨F',H⟩ (some d) (.value (.func f)) xs.toList h=some (⟨(d,(bH d r).1)::cP (eu (iD ((bH d r).2.map (·.1))) F') d,q.H⟩,C):=by
     have eP:∀(F0:List (Nat×AV)) (s':AS),gF n ⟨(aV ⟨F,H⟩ ((bH d r).2.map (·.1))).F,(bH d r).2++(aV ⟨F,H⟩ ((bH d r).2.map (·.1))).H⟩ (some d) (bH d r).1=some s'->gF n ⟨(aV ⟨F',H⟩ ((bH d r).2.map (·.1))).F,(bH d r).2++(aV ⟨F',H⟩ ((bH d r).2.map (·.1))).H⟩ (some d) (bH d r).1=some ⟨(d,(bH d r).1)::cP (eu (iD ((bH d r).2.map (·.1))) F') d,s'.H⟩:=fun F0 s' eF=>by
      have eR:=fun F0=>i9 ((bH d r).2.map (·.1)) F0 F H
      rw [(eR F').1,(eR F').2]
      unfold gF at eF ⊢
      simp only at eF ⊢
      split at eF
      ·cases eF
       simp only [lO]
      ·cases eF
     unfold sD at h1 ⊢
     rw [eo]
     cases se:h.b with
     | true =>
      simp only [O8,callee,se] at h1 ⊢
      rw [eV]
      split at h1
      ·rename_i hE
       split at h1
       ·rename_i vs C2 d0 hv vO x7
        cases x7
        split at h1
        ·rename_i s' xZ eF
         cases h1
         rw [xZ,eP F _ eF]
        ·cases h1
       ·rename_i x7
        cases x7
       ·cases h1
      ·cases h1
     | false =>
      simp only [O8,callee,se,eI se,gi] at h1 ⊢
      split at h1
      ·rename_i hE
       split at h1
       ·rename_i d0 xb x7
        cases x7
        split at h1
        ·rename_i s' xZ eF
         cases h1
         rw [eo,xb]
         simp only
         rw [xZ,eP F _ eF]
        ·cases h1
       ·rename_i x7
        cases x7
       ·cases h1
      ·cases h1
    have OL:o.op= .call ⟨.value (.func f),xs,ts⟩:=wV
    rw [←hd] at h2
    exact yj (s:=⟨F',H⟩) OL h2
   ·cases eC
  ·cases eC
 ·rename_i t x y hg wV hd
  split at eC
  ·rename_i q C' h1 h2 h3 h4
   cases eC
   refine ⟨hg,fun F' hF=>?_⟩
   rw [hd]
   simp only [xa,FB]
   have h5:=C_ (F':=F') h3 (mR (H:=H) hF h1) (mR (H:=H) hF h2) h4
   exact tp (s:=⟨F',H⟩) wV hd h5
  ·cases eC
 ·rename_i t len parts d hg wV hd
  split at eC
  ·rename_i h1 h2
   split at eC
   ·rename_i q C' h3
    cases eC
    refine ⟨hg,fun F' hF=>?_⟩
    rw [hd]
    exact Cy (s:=⟨F',H⟩) wV hd (Jf hF h1 h2 h3)
   ·cases eC
  ·cases eC
 ·cases eC
def z7 (P:Program) (ops:List Oper) (n:Nat) (s:AS) (o:Oper) (h:Hint):Option ((AV->AV)×AV×List (Nat×Row)×List Prop) :=
 match o.guard with
 | none=>Ql P n s o h
 | some (j,want)=>(match ops[j]? with
  | some p=>(match p.dst with
   | some d=>(match j9 s d,h.g == want,vh s.F (.tmp d),Ql P n s {o with guard:=none} h with
    | .val (.bool b),true,true,some (Tr,X,H',C)=>some (Tr,X,H',(b=h.g)::C)
    | _,_,_,_=>none)
   | none=>none)
  | none=>none)
theorem MG {P:Program} {ops:List Oper} {n:Nat} {F:List (Nat×AV)} {H H':List (Nat×Row)} {o:Oper} {h:Hint} {Tr:AV->AV} {X:AV} {C:List Prop} (eC:z7 P ops n ⟨F,H⟩ o h=some (Tr,X,H',C)) (hC:bw C) {F':List (Nat×AV)} (hF:∀i x,look F i=some x->look F' i=some x) {S0:bo} {w0 w:World} {a:Act} (hs:iI S0 w0 n ⟨F',H⟩ a w) :
  Region.wanted o (yielded ops.toArray a.tmps)=true∧mF P n ⟨F',H⟩ o ⟨xa o.dst X (eu Tr F'),H'⟩ []:=by
 unfold z7 at eC
 split at eC
 ·rename_i hg
  obtain ⟨-,BZ⟩:=Kk eC
  refine ⟨by unfold Region.wanted;rw [hg],fun _=>BZ F' hF hC⟩
 ·rename_i j want hg
  split at eC
  ·rename_i p hp
   split at eC
   ·rename_i d hd
    split at eC
    ·rename_i b SG X' X_ C' se hw WH he
     cases eC
     obtain ⟨Hf,hC⟩:=hC
     obtain ⟨-,BZ⟩:=Kk he
     refine ⟨?_,fun _=>BZ F' hF hC⟩
     obtain ⟨φ,hs⟩:=hs
     have ht:=hs.get d
     have e:j9 ⟨F',H⟩ d=j9 ⟨F,H⟩ d:=mR (H:=H) hF WH
     rw [e,se] at ht
     have hy:=mH (ops:=ops) hp hd (q9 ht)
     unfold Region.wanted;rw [hg];simp only [hy,Hf]
     have:h.g=want:=by simpa using hw
     rw [this];simp
    ·cases eC
   ·cases eC
  ·cases eC
theorem xS {od:Option Nat} {i:Nat} {X:AV} {Tr:AV->AV} {F:List (Nat×AV)} (h:od≠some i):look (xa od X (eu Tr F)) i=(look F i).map Tr:=by
 cases od with
 | none=>exact cp _ _ _
 | some d =>
  have cU:d≠i:=fun e=>h (by rw [e])
  simp only [xa]
  rw [aD,if_neg cU,zo cU]
section
variable {P:Program} {ops:List Oper} {S0:bo} {w0:World} {Q:Exit->Act->World->Prop} {n T:Nat} {col col':List AV} {kept:List (Nat×AV)} {H H':List (Nat×Row)} {L:Nat->Bool} {k:Nat} {o:Oper}
theorem xz {h:Hint} {Tr:AV->AV} {X:AV} {C:List Prop} {a:Act} {w:World} (iF:(ops.filterMap (·.dst)).Nodup)
  (hk:k<T) (ho:ops[k]?=some o) (Hd:∀d∈bh o,L d=true∧d<T) (fM:∀i x,look kept i=some x-> ∀j p,j<T->ops[j]?=some p->p.dst≠some i)
  (eC:z7 P ops n ⟨jB ops col (bh o)++kept,H⟩ o h=some (Tr,X,H',C)) (hC:bw C)
  (xf:∀j z,j<T->j≠k->L j=true->col'[j]?=some z->col[j]?.map Tr=some z∨z= .dead) (RA:col'[k]?=some X)
  (hs:iI S0 w0 n ⟨dV ops col L T++kept,H⟩ a w) :
  if Region.wanted o (yielded ops.toArray a.tmps)=true then o.wp P a w (fun a' w'=>iI S0 w0 n ⟨dV ops col' (fi L k) T++eu Tr kept,H'⟩ a' w') Q else iI S0 w0 n ⟨dV ops col' (fi L k) T++eu Tr kept,H'⟩ (a.put o.dst undef) w:=by
 have hF:=BJ (T:=T) iF Hd fM (col:=col)
 obtain ⟨hw,ok⟩:=MG eC hC hF hs
 rw [if_pos hw]
 refine Oper.wp_mono ?_ (ok trivial S0 w0 a w Q hs)
 rintro a' w' ⟨φ,bT⟩
 refine ⟨φ,aJ.sub bT fun i z hz=>?_⟩
 rw [bJ] at hz
 cases hl:look (dV ops col' (fi L k) T) i with
 | some z' =>
  rw [hl] at hz
  simp at hz;subst hz
  obtain ⟨j,p,h1,h2,h3,h4,h5⟩:=kX _ _ _ _ _ _ hl
  by_cases xe:j=k
  ·subst xe
   rw [ho] at h3;injection h3 with h3;subst h3
   rw [RA] at h5;injection h5 with h5;subst h5
   left
   rw [h4];simp only [xa];rw [aD,if_pos rfl]
  ·have Sv:L j=true:=by unfold fi at h2;rw [if_neg xe] at h2;exact h2
   have cU:o.dst≠some i:=fun e=>xe (oV (ops:=ops.toArray) (by simpa using iF) (by simpa using h3) (by simpa using ho) h4 e)
   rcases xf j z' h1 xe Sv h5 with hc|hc
   ·left
    rw [xS cU,bJ]
    cases TY:col[j]? with
    | none=>rw [TY] at hc;cases hc
    | some y' =>
     rw [TY] at hc
     rw [gN iF col L T j i p y' h1 Sv h3 h4 TY]
     simpa using hc
   ·exact .inr hc
 | none =>
  rw [hl] at hz
  simp at hz
  rw [cp] at hz
  cases tL:look kept i with
  | none=>rw [tL] at hz;cases hz
  | some y' =>
   rw [tL] at hz
   have cU:o.dst≠some i:=fun e=>fM i y' tL k o hk ho e
   left
   rw [xS cU,bJ,jt fun j p hj hp=>fM i y' tL j p hj hp,tL]
   simpa using hz
end
theorem sG (ops:List Oper) (col:List AV) (k:Nat):∀(l:List Nat),(∀d∈l,d<k)->jB ops (col.take k) l=jB ops col l
 | [],_=>rfl
 | d::l,h=>by
  have hd:(col.take k)[d]?=col[d]?:=by rw [List.getElem?_take,if_pos (h d (by simp))]
  simp only [jB,hd,sG ops col k l fun e he=>h e (by simp [he])]
instance:Inhabited oA:=⟨⟨[],[],[]⟩⟩
def om (P:Program) (n T:Nat) (ops:List Oper) (hs:List (Nat×Hint)) (R:List (List Nat)):List Nat->List Nat->List Nat->Bool->List AV->List (Nat×AV)->List (Nat×Row)->Option (List oA×List Prop)
 | [],done,last,first,old,kept,H=>(match Aw P ops hs R done [] last first old kept H (ops.take T) 0 [] with
  | some (col,C)=>some ([⟨col,kept,H⟩],C)
  | none=>none)
 | W::rest,done,last,first,old,kept,H=>(match Aw P ops hs R done (W::rest) last first old kept H (ops.take T) 0 [],ops[W]? with
  | some (col,C),some o=>(match z7 P ops n ⟨jB ops col (bh o)++kept,H⟩ o (gQ hs W) with
   | some (Tr,x,H',D)=>(match om P n T ops hs R rest (done++ [W]) [W] false ((col.map Tr).set W x) (eu Tr kept) H' with
    | some (l,E)=>some (⟨col,kept,H⟩::l,C++(D++E))
    | none=>none)
   | none=>none)
  | _,_=>none)
def Lb (P:Program) (T:Nat) (ops:List Oper) (hs:List (Nat×Hint)) (R:List (List Nat)) (rest done last:List Nat) (first:Bool) (old:List AV) (st:oA):Prop :=
 ∃C,Aw P ops hs R done rest last first old st.kept st.H (ops.take T) 0 []=some (st.col,C)∧bw C
theorem xC {P:Program} {n T:Nat} {ops:List Oper} {hs:List (Nat×Hint)} {R:List (List Nat)}:∀(rest done last:List Nat) (first:Bool) (old:List AV) (kept:List (Nat×AV)) (H:List (Nat×Row)) (l:List oA) (E:List Prop),
  om P n T ops hs R rest done last first old kept H=some (l,E)->bw E ->
  (l.getD 0 default).kept=kept∧(l.getD 0 default).H=H∧Lb P T ops hs R rest done last first old (l.getD 0 default) ∧
  ∀(i W:Nat),rest[i]?=some W-> ∃o Tr x D,ops[W]?=some o∧z7 P ops n ⟨jB ops (l.getD i default).col (bh o)++(l.getD i default).kept,(l.getD i default).H⟩ o (gQ hs W)=some (Tr,x,(l.getD (i+1) default).H,D)∧bw D ∧
   (l.getD (i+1) default).kept=eu Tr (l.getD i default).kept∧Lb P T ops hs R (rest.drop (i+1)) (done++rest.take (i+1)) [W] false (((l.getD i default).col.map Tr).set W x) (l.getD (i+1) default)
 | [],done,last,first,old,kept,H,l,E,he,hE=>by
  simp only [om] at he
  split at he
  ·rename_i col C hc
   cases he
   exact ⟨rfl,rfl,⟨_,hc,hE⟩,fun i W h=>by simp at h⟩
  ·cases he
 | W::rest,done,last,first,old,kept,H,l,E,he,hE=>by
  simp only [om] at he
  split at he
  ·rename_i col C o hc ho
   split at he
   ·rename_i Tr x H' D hw
    split at he
    ·rename_i l' E' OJ
     cases he
     obtain ⟨hC,Ug⟩:=bN.1 hE
     obtain ⟨hD,Uf⟩:=bN.1 Ug
     obtain ⟨h1,h2,h3,h4⟩:=xC rest _ _ _ _ _ _ _ _ OJ Uf
     refine ⟨rfl,rfl,⟨_,hc,hC⟩,fun i W' hi=>?_⟩
     cases i with
     | zero =>
      simp at hi;subst hi
      exact ⟨o,Tr,x,D,ho,by rw [←h2] at hw;exact hw,hD,h1,by simpa using h3⟩
     | succ i =>
      obtain ⟨o',SG,x',D',k1,k2,k3,k4,k5⟩:=h4 i W' (by simpa using hi)
      refine ⟨o',SG,x',D',k1,k2,k3,k4,?_⟩
      have e:done++(W::rest).take (i+1+1)=done++ [W]++rest.take (i+1):=by simp
      rw [e]
      exact k5
    ·cases he
   ·cases he
  ·cases he
def wJ (R:List (List Nat)):List Nat->Bool
 | []=>true
 | [_]=>true
 | a::b::l=>match (R.getD b []).any (Nat.beq a) with|true=>wJ R (b::l)|false=>false
theorem sI (R:List (List Nat)):∀(l:List Nat),wJ R l=true-> ∀(i a b:Nat),l[i]?=some a->l[i+1]?=some b->a∈R.getD b []
 | [],_,i,a,b,h,_=>by simp at h
 | [x],_,i,a,b,h,h2=>by simp at h2
 | x::y::l,hc,i,a,b,h,h2=>by
  simp only [wJ] at hc
  split at hc
  ·rename_i hy
   cases i with
   | zero=>simp at h h2;subst h;subst h2;exact any_beq.1 hy
   | succ i=>exact sI R (y::l) hc i a b (by simpa using h) (by simpa using h2)
  ·cases hc
def ym (T:Nat):List Nat->Bool
 | []=>true
 | a::l=>match Nat.blt a T with|true=>ym T l|false=>false
theorem rr (T:Nat):∀(l:List Nat),ym T l=true-> ∀a∈l,a<T
 | [],_,a,h=>by cases h
 | x::l,hc,a,h=>by
  simp only [ym] at hc
  split at hc
  ·rename_i hx
   rcases List.mem_cons.1 h with rfl|h
   ·simpa [Nat.blt_eq] using hx
   ·exact rr T l hc a h
  ·cases hc
def Ah (P:Program) (n T:Nat) (Ws:List Nat) (ops:List Oper) (hs:List (Nat×Hint)) (s:AS):Option (AS×List Prop) :=
 match P.follows .mixedOrders,lZ ops.toArray n,pd ops.toArray T,wJ (mP (ops.take T) []) Ws,ym T Ws,nodupB Ws with
 | true,true,true,true,true,true=>(match om P n T ops hs (mP (ops.take T) []) Ws [] [] true [] (n0 ((ops.take T).filterMap (·.dst)) s.F) s.H with
  | some (l,C)=>(match kn P n ops hs (ops.drop T) T ⟨jn (ops.take T) (l.getD Ws.length default).col++(l.getD Ws.length default).kept,(l.getD Ws.length default).H⟩ with
   | some (s',D)=>some (s',C++D)
   | none=>none)
  | none=>none)
 | _,_,_,_,_,_=>none
theorem mj:∀ {l:List Nat},l.Nodup-> ∀ {i j x:Nat},l[i]?=some x->l[j]?=some x->i=j
 | [],_,i,j,x,h,_=>by simp at h
 | y::l,hn,i,j,x,h1,h2=>by
  rw [List.nodup_cons] at hn
  cases i with
  | zero =>
   cases j with
   | zero=>rfl
   | succ j =>
    simp at h1 h2;subst h1
    exact absurd (List.mem_of_getElem? h2) hn.1
  | succ i =>
   cases j with
   | zero =>
    simp at h1 h2;subst h2
    exact absurd (List.mem_of_getElem? h1) hn.1
   | succ j=>exact congrArg (· +1) (mj hn.2 (i:=i) (j:=j) (x:=x) (by simpa using h1) (by simpa using h2))
theorem nM (ops:List Oper) (col:List AV) (L:Nat->Bool) (hL:∀k,L k=false):∀T,dV ops col L T= []
 | 0=>rfl
 | k+1=>by simp only [dV,hL k,nM ops col L hL k]
theorem kx {col:List AV} {Tr:AV->AV} {W:Nat} {x:AV} {q:Nat} (hq:q≠W) {z:AV} (h:((col.map Tr).set W x).getD q .dead=z):col[q]?.map Tr=some z∨z= .dead:=by
 rw [List.getD_eq_getElem?_getD,List.getElem?_set_ne (Ne.symm hq),List.getElem?_map] at h
 cases hc:col[q]? with
 | none=>rw [hc] at h;exact .inr h.symm
 | some y=>rw [hc] at h;left;simpa using h
section
variable {P:Program} {ops:List Oper} {S0:bo} {w0:World} {Q:Exit->Act->World->Prop}
theorem Ei {n T:Nat} {Ws:List Nat} {hs:List (Nat×Hint)} {s s':AS} {C:List Prop} (he:Ah P n T Ws ops hs s=some (s',C)) (hC:bw C) {a:Act} {w:World} (gB:iI S0 w0 n s a w) (hQ:∀a' w',iI S0 w0 n s' a' w'->Q .normal a' w'):P.follows .mixedOrders=true∧wpAny P .any ops.toArray Q ops.toArray.size (Array.replicate ops.toArray.size false) a {w with drawn:=w.drawn+1}:=by
 unfold Ah at he
 split at he
 ·rename_i hm hB hT tN OM Mh
  split at he
  ·rename_i l C1 dC
   split at he
   ·rename_i s2 D pt
    cases he
    obtain ⟨iX,hD⟩:=bN.1 hC
    obtain ⟨ud,iF,wW⟩:=gp hB
    have zx:(ops.filterMap (·.dst)).Nodup:=by simpa using iF
    unfold pd at hT
    simp only [Bool.and_eq_true,decide_eq_true_eq] at hT
    obtain ⟨⟨⟨H2,Mw⟩,Mv⟩,Mu⟩:=hT
    have T1:T<ops.length:=by simpa using H2
    have DV:∀(k:Nat) (o:Oper),ops[k]?=some o-> ∀d∈bh o,d<k:=fun k o h=>ud k o (by simpa using h)
    have OP:∀(k:Nat) (o:Oper) (s:Nat),ops[k]?=some o->o.dst=some s->s<n:=fun k o s h=>wW k o s (by simpa using h)
    generalize T5:mP (ops.take T) []=R at dC tN
    have hR:uu ops R:=by
     rw [←T5]
     refine rR ops (ops.take T) [] (fun k o _ L _ _ j hj=>by simp at hj) (fun j o h=>?_) DV
     simpa using bS _ _ _ _ h
    obtain ⟨zy,RG,NA,qM⟩:=xC _ _ _ _ _ _ _ _ _ dC iX
    have OM:=rr T Ws OM
    have Mh:=iQ Mh
    generalize OG:(fun i=>l.getD i default)=st at *
    have Sa:∀i,l.getD i default=st i:=fun i=>by rw [←OG]
    simp only [Sa] at zy RG NA qM pt
    have fM:∀i,i≤Ws.length-> ∀(k:Nat) (x:AV),look (st i).kept k=some x-> ∀(j:Nat) (p:Oper),j<T->ops[j]?=some p->p.dst≠some k:=by
     intro i
     induction i with
     | zero =>
      intro _ k x hx j p hj hp
      rw [zy] at hx
      exact (kH ops T k).1 (gn _ _ _ _ hx).2 j p hj hp
     | succ i ih =>
      intro hi k x hx
      obtain ⟨o,Tr,X,D',-,-,-,k4,-⟩:=qM i (Ws[i]' ag) (List.getElem?_eq_getElem ag)
      rw [k4,cp] at hx
      cases hl:look (st i).kept k with
      | none=>rw [hl] at hx;cases hx
      | some y=>exact ih ag k y hl
    have xf:∀i,i≤Ws.length-> ∃last first old,Lb P T ops hs R (Ws.drop i) (Ws.take i) last first old (st i):=by
     intro i hi
     cases i with
     | zero=>exact ⟨_,_,_,by simpa using NA⟩
     | succ i =>
      obtain ⟨o,Tr,X,D',-,-,-,-,k5⟩:=qM i (Ws[i]' ag) (List.getElem?_eq_getElem ag)
      exact ⟨_,_,_,by simpa using k5⟩
    let J:(Nat->Bool)->Act->World->Prop:=fun L a' w'=>∃i,i≤Ws.length∧(∀(j W:Nat),Ws[j]?=some W->(L W=true↔j<i))∧iI S0 w0 n ⟨dV ops (st i).col L T++(st i).kept,(st i).H⟩ a' w'
    obtain ⟨φ,l9⟩:=gB
    refine ⟨hm,nI (n:=n) H2 Mw Mv Mu hB J ?_ ?_ ops.toArray.size _ a _ ⟨by simp,fun k o hk=>?_⟩ ?_ (fun j _=>by rw [getD_replicate_false]) (by simp)⟩
    ·intro k o L a' w' hk ho Cb jo zC BU ⟨i,hi,hW,gB⟩
     have r_:ops[k]?=some o:=by simpa using ho
     have gC:∀(j:Nat) (p:Oper),L j=true->ops[j]?=some p-> ∀d∈bh p,L d=true:=fun j p hj hp=>zC j p hj (by simpa using hp)
     have pW:∀j∈R.getD k [],L j=true:=hR k o r_ L gC jo
     have qO:∀q,L q=true-> ∀j∈R.getD q [],L j=true:=fun q hq j hj=>by
      cases JH:ops[q]? with
      | some p=>exact hR q p JH L gC (fun d hd=>gC q p hq JH d hd) j hj
      | none =>
       exfalso
       have h1:ops.length≤q:=List.getElem?_eq_none_iff.1 JH
       have:=BU q ag
       rw [hq] at this;cases this
     have Rz:∀d∈bh o,L d=true∧d<T:=fun d hd=>⟨jo d hd,by have:=DV k o r_ d hd;omega⟩
     have vJ:∀i',i≤i'-> ∀q,(∀j∈R.getD q [],L j=true)->hit (R.getD q []) (Ws.drop i')=false:=by
      intro i' jw q hq
      cases hh:hit (R.getD q []) (Ws.drop i') with
      | false=>rfl
      | true =>
       exfalso
       obtain ⟨x,h1,h2⟩:=oN.1 hh
       obtain ⟨j,hj⟩:=List.mem_iff_getElem?.1 h2
       rw [List.getElem?_drop] at hj
       have:=(hW _ x hj).1 (hq x h1)
       omega
     by_cases Mk:k∈Ws
     ·obtain ⟨j,hj⟩:=List.mem_iff_getElem?.1 Mk
      have OO:j<Ws.length:=(List.getElem?_eq_some_iff.1 hj).1
      have Nv:¬j<i:=fun h=>by have:=(hW j k hj).2 h;rw [Cb] at this;cases this
      have e:j=i:=by
       rcases Nat.lt_or_ge i j with h|h
       ·obtain ⟨j',rfl⟩:∃j',j=j'+1:=⟨j-1,ag⟩
        have Md:Ws[j']?=some (Ws[j']' ag):=List.getElem?_eq_getElem ag
        have h1:=pW _ (sI R Ws tN j' _ k Md hj)
        have:=(hW j' _ Md).1 h1
        omega
       ·omega
      subst e
      obtain ⟨o',Tr,x,D',k1,k2,k3,k4,Cc,k5,k6⟩:=qM j k hj
      rw [r_] at k1;cases k1
      simp only [List.nil_append] at k5
      obtain ⟨c1,c2,c3⟩:=jO _ 0 [] _ _ k5 k6 rfl
      simp only [Nat.zero_add] at c1 c3
      have T2:(ops.take T).length=T:=by rw [List.length_take];omega
      have P7:k ∉ Ws.drop (j+1):=fun hm=>by
       obtain ⟨j2,CX⟩:=List.mem_iff_getElem?.1 hm
       rw [List.getElem?_drop] at CX
       have:=mj Mh hj CX
       omega
      have TG:k∈Ws.take (j+1):=List.mem_iff_getElem?.2 ⟨j,by rw [List.getElem?_take,if_pos ag];exact hj⟩
      have hold:((((st j).col.map Tr).set k x).getD k .dead)=x:=by
       obtain ⟨last,first,old,Cd,DW,Mx⟩:=xf j hi
       obtain ⟨d1,-,-⟩:=jO _ 0 [] _ _ DW Mx rfl
       rw [Nat.zero_add,T2] at d1
       rw [List.getD_eq_getElem?_getD,List.getElem?_set_self (by rw [List.length_map];omega)];rfl
      have jd:=xz (P:=P) (S0:=S0) (w0:=w0) (Q:=Q) (n:=n) (T:=T) (col':=(st (j+1)).col) (L:=L) (a:=a') (w:=w') zx hk r_ Rz (fM j hi) k2 k3 (by
       intro q z hq Q_ Ua hz
       have JH:(ops.take T)[q]?=some (ops[q]' ag):=by rw [List.getElem?_take,if_pos hq];exact List.getElem?_eq_getElem ag
       obtain ⟨x',D2,e1,e2,e3⟩:=c3 q _ JH
       rw [e1] at hz;injection hz with hz;subst hz
       unfold ri at e3
       split at e3
       ·split at e3
        ·split at e3
         ·rename_i xx CC eC
          split at e3
          ·cases e3
           exact kx Q_ e2.1
          ·rename_i fO
           exfalso
           cases hh:hit (R.getD q []) [k] with
           | false=>exact fO rfl hh
           | true =>
            obtain ⟨y,h1,h2⟩:=oN.1 hh
            have:y=k:=by simpa using h2
            subst this
            have:=qO q Ua y h1
            rw [Cb] at this;cases this
         ·cases e3
        ·cases e3
         exact kx Q_ rfl
       ·cases e3
        exact .inr rfl) (by
       have BZ:(ops.take T)[k]?=some o:=by rw [List.getElem?_take,if_pos hk];exact r_
       obtain ⟨x',D2,e1,e2,e3⟩:=c3 k _ BZ
       rw [e1]
       unfold ri at e3
       have r1:(Ws.drop (j+1)).any (Nat.beq k)=false:=by
        cases hh:(Ws.drop (j+1)).any (Nat.beq k) with
        | false=>rfl
        | true=>exact absurd (any_beq.1 hh) P7
       have r2:=vJ (j+1) ag k pW
       have r3:(Ws.take (j+1)).any (Nat.beq k)=true:=any_beq.2 TG
       rw [r1,r2,r3] at e3
       simp only at e3
       injection e3 with e3;injection e3 with e3 _
       rw [←e3,hold]) gB
      have fin:∀sP fL,iI S0 w0 n ⟨dV ops (st (j+1)).col (fi L k) T++eu Tr (st j).kept,(st (j+1)).H⟩ sP fL->J (fi L k) sP fL:=by
       intro sP fL h
       refine ⟨j+1,ag,fun j2 W2 h2=>?_,by rw [k4];exact h⟩
       by_cases e:W2=k
       ·subst e
        have:=mj Mh hj h2
        unfold fi;rw [if_pos rfl];simp;omega
       ·unfold fi;rw [if_neg e,hW j2 W2 h2]
        have:j2≠j:=fun e2=>by subst e2;rw [hj] at h2;cases h2;exact e rfl
        omega
      split
      ·rename_i hw
       rw [if_pos hw] at jd
       exact Oper.wp_mono fin jd
      ·rename_i hw
       rw [if_neg hw] at jd
       exact fin _ _ jd
     ·obtain ⟨last,first,old,Cc,k5,k6⟩:=xf i hi
      obtain ⟨c1,c2,c3⟩:=jO _ 0 [] _ _ k5 k6 rfl
      simp only [Nat.zero_add] at c1 c3
      have BZ:(ops.take T)[k]?=some o:=by rw [List.getElem?_take,if_pos hk];exact r_
      obtain ⟨x',D2,e1,e2,e3⟩:=c3 k _ BZ
      unfold ri at e3
      have r1:(Ws.drop i).any (Nat.beq k)=false:=by
       cases hh:(Ws.drop i).any (Nat.beq k) with
       | false=>rfl
       | true=>exact absurd (List.mem_of_mem_drop (any_beq.1 hh)) Mk
      have r2:=vJ i (Nat.le_refl _) k pW
      have r3:(Ws.take i).any (Nat.beq k)=false:=by
       cases hh:(Ws.take i).any (Nat.beq k) with
       | false=>rfl
       | true=>exact absurd (List.mem_of_mem_take (any_beq.1 hh)) Mk
      have r4:(Ws.take i).any (fun W=>(R.getD W []).any (Nat.beq k))=false:=by
       cases hh:(Ws.take i).any (fun W=>(R.getD W []).any (Nat.beq k)) with
       | false=>rfl
       | true =>
        exfalso
        obtain ⟨W,h1,h2⟩:=List.any_eq_true.1 hh
        obtain ⟨j,hj⟩:=List.mem_iff_getElem?.1 h1
        rw [List.getElem?_take] at hj
        split at hj
        ·rename_i Nv
         have:=qO W ((hW j W hj).2 Nv) k (any_beq.1 h2)
         rw [Cb] at this;cases this
        ·cases hj
      rw [r1,r2,r3,r4] at e3
      simp only at e3
      have eC:∃C',tR P ops ⟨jB ops ((st i).col.take k) (bh o)++(st i).kept,(st i).H⟩ o (gQ hs k)=some (x',C')∧bw C':=by
       split at e3
       ·rename_i xx CC eC
        split at e3
        ·cases e3;exact ⟨_,eC,e2.2⟩
        ·cases e3;exact ⟨_,eC,e2⟩
       ·cases e3
      obtain ⟨C',eC,RI⟩:=eC
      rw [sG ops _ k _ (DV k o r_)] at eC
      have jd:=uO (P:=P) (S0:=S0) (w0:=w0) (Q:=Q) (n:=n) (T:=T) (L:=L) (a:=a') (w:=w') zx OP hk r_ Rz (fM i hi) eC RI e1 gB
      have fin:∀sP fL,iI S0 w0 n ⟨dV ops (st i).col (fi L k) T++(st i).kept,(st i).H⟩ sP fL->J (fi L k) sP fL:=by
       intro sP fL h
       refine ⟨i,hi,fun j2 W2 h2=>?_,h⟩
       have e:W2≠k:=fun e=>by subst e;exact Mk (List.mem_of_getElem? h2)
       unfold fi;rw [if_neg e];exact hW j2 W2 h2
      split
      ·rename_i hw
       rw [if_pos hw] at jd
       exact Oper.wp_mono fin jd
      ·rename_i hw
       rw [if_neg hw] at jd
       exact fin _ _ jd
    ·intro L a' w' gH BU ⟨i,hi,hW,cy,gB⟩
     have e:i=Ws.length:=by
      rcases Nat.lt_or_ge i Ws.length with h|h
      ·have Md:Ws[i]?=some (Ws[i]'h):=List.getElem?_eq_getElem h
       have:=(hW i _ Md).1 (gH _ (OM _ (List.getElem_mem h)))
       omega
      ·omega
     subst e
     have kv:=j0 (S0:=S0) (w0:=w0) (Q:=Q) _ _ _ _ _ pt hD a' w' ⟨cy,aJ.sub gB fun i x hx=>.inl ?_⟩ hQ
     ·simpa using kv
     ·rw [bJ] at hx ⊢
      cases hh:look (jn (ops.take T) (st Ws.length).col) i with
      | some y =>
       rw [hh] at hx
       simp at hx;subst hx
       obtain ⟨k,o,h1,h2,h3⟩:=kZ _ _ _ _ hh
       have xd:k<T:=by have:=(List.getElem?_eq_some_iff.1 h1).1;rw [List.length_take] at this;omega
       rw [gN zx _ L T k i o y xd (gH k xd) (bS _ _ _ _ h1) h2 h3];rfl
      | none =>
       rw [hh] at hx
       simp at hx
       rw [jt fun j p hj hp=>fM _ (Nat.le_refl _) i x hx j p hj hp]
       simpa using hx
    ·rw [getD_replicate_false] at hk;cases hk
    ·refine ⟨0,ag,fun j W _=>by show (Array.replicate ops.toArray.size false).getD W false=true↔_;rw [getD_replicate_false];simp,φ,?_⟩
     rw [nM _ _ _ (fun k=>getD_replicate_false _ _)]
     have hg:aJ S0 w0 n [] s a w.drew φ:=l9.grow ((Below.refl _ _).drew)
     rw [RG,zy]
     exact aJ.sub (F:=s.F) hg fun i x hx=>.inl (gn _ _ _ _ (by simpa using hx)).1
   ·cases he
  ·cases he
 ·cases he
def sr (P:Program) (n T:Nat) (Ws:List Nat) (hs:List (Nat×Hint)) (c:Code) (s:AS):Option (AS×List Prop) :=
 match c with
 | .region _ ⟨l⟩ true=>Ah P n T Ws l hs s
 | _=>none
theorem bf.QB {n:Nat} {c:Code} {Q:Exit->AS->Prop} {s s':AS} {C:List Prop} (T:Nat) (Ws:List Nat) (hs:List (Nat×Hint)) (he:sr P n T Ws hs c s=some (s',C)) (hC:bw C) (h:Q .normal s'):bf P n c Q s:=by
 intro S0 w0 a w gB
 unfold sr at he
 split at he
 ·exact Ei (S0:=S0) (w0:=w0) he hC gB fun a' w' bT=>⟨s',h,bT.one⟩
 ·cases he
theorem bf.UK {n:Nat} {c:Code} {Q:Exit->AS->Prop} {s:AS} {C:List Prop} (T:Nat) (Ks:List Nat) (hs:List (Nat×Hint)) (he:pI (sr P n T Ks hs c s)=some C) (hC:bw C) (h:Q .normal (qs (sr P n T Ks hs c s))):bf P n c Q s:=bf.QB T Ks hs (i_ he) hC h
end
end Go.Proofs.YtjgbhhnghedgdaaGreatDoor
