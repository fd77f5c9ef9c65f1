import Derived.Test.YtjgbhhnghedgdaaGreatDoorZbRH
set_option linter.all false
namespace Go.Proofs.YtjgbhhnghedgdaaGreatDoor
open Go.RowKit
def eS (L:Nat->Bool) (k:Nat):Nat->Bool:=fun j=>if j=k then true else L j
structure QT (ops:Array Oper) (listed:Array Bool):Prop where
 size:listed.size=ops.size
 closed:∀k o,listed.getD k false=true->ops[k]?=some o-> ∀d∈bm o,listed.getD d false=true
section
variable {P:Program} {ops:Array Oper} {Q:Exit->Act->World->Prop}
theorem nf {n T:Nat} (hT:T<ops.size) (JP:Region.sinkB .any ops T=true) (vJ:Region.chainB .any ops T=true) (Pg:Region.seqB .any ops (ops.size-T) T ((List.range ops.size).map (decide<| · <T)).toArray=true) (hB:lF ops n=true) (J:(Nat->Bool)->Act->World->Prop)
  (vq:∀k o (L:Nat->Bool) a' w',k<T->ops[k]?=some o->L k=false->(∀d∈bm o,L d=true)->(∀j p,L j=true->ops[j]?=some p-> ∀d∈bm p,L d=true)->(∀j,T≤j->L j=false)->J L a' w' ->
   (if Region.wanted o (yielded ops a'.tmps)=true then o.wp P a' w' (fun rL fw=>J (eS L k) rL fw) Q else J (eS L k) (a'.put o.dst undef) w'))
  (kf:∀(L:Nat->Bool) a' w',(∀k,k<T->L k=true)->(∀j,T≤j->L j=false)->J L a' w'->wpList P ops Q (ops.toList.drop T) a' w') :
  ∀(fuel:Nat) (listed:Array Bool) (a':Act) (w':World),QT ops listed->J (fun k=>listed.getD k false) a' w'->(∀j,T≤j->listed.getD j false=false) ->
   (listed.toList.filter (· == false)).length=fuel->wpAny P .any ops Q fuel listed a' w':=by
 obtain ⟨dj,im,vr⟩:=fT hB
 have kB:∀(listed:Array Bool),QT ops listed-> ∀k,k<T->listed.getD k false=false-> ∃i,i<T∧i∈Region.ready .any ops listed:=by
  intro listed I k
  induction k using Nat.strongRecOn with
  | _ k ih =>
   intro hk hl
   have iH:k<listed.size:=by rw [I.size];omega
   have r9:k<ops.size:=aj
   have oz:ops[k]?=some ops[k]:=Array.getElem?_eq_getElem r9
   by_cases gj:∀d∈bm ops[k],listed.getD d false=true
   ·refine ⟨k,hk,?_⟩
    rw [mem_ready]
    refine ⟨?_,ops[k],oz,fun e he hb=>gj e.on ?_⟩
    ·simp [iH] at hl ⊢;exact hl
    ·unfold bm
     exact List.mem_map.2 ⟨e,List.mem_filter.2 ⟨by simpa using he,hb⟩,rfl⟩
   ·have:∃d,d∈bm ops[k]∧listed.getD d false=false:=by
     refine Classical.byContradiction fun gh=>gj fun d hd=>?_
     cases hx:listed.getD d false with
     | true=>rfl
     | false=>exact absurd ⟨d,hd,hx⟩ gh
    obtain ⟨d,hd,hx⟩:=this
    exact ih d (dj k _ oz d hd) (by have:=dj k _ oz d hd;omega) hx
 have rest:∀(fuel:Nat) (listed:Array Bool) (a':Act) (w':World),QT ops listed->J (fun k=>listed.getD k false) a' w'->(∀j,T≤j->listed.getD j false=false)->(listed.toList.filter (· == false)).length=fuel->(∀k,k<T->listed.getD k false=true)->wpAny P .any ops Q fuel listed a' w':=by
  intro fuel listed a' w' I hJ tail hc all
  have nH:listed=((List.range ops.size).map (decide<| · <T)).toArray:=by
   apply Array.ext_getElem?
   intro x
   by_cases hx:x<ops.size
   ·have Ei:x<listed.size:=by rw [I.size];exact hx
    have hr:((List.range ops.size).map (decide<| · <T)).toArray[x]?=some (decide (x<T)):=by simp [hx]
    rw [hr]
    by_cases Aw:x<T
    ·have:=all x Aw;simp [Ei] at this ⊢;rw [this,decide_eq_true Aw]
    ·have:=tail x aj;simp [Ei] at this ⊢;rw [this,decide_eq_false Aw]
   ·rw [Array.getElem?_eq_none (by rw [I.size];omega),Array.getElem?_eq_none (by simp;omega)]
  have hlen:fuel=(ops.toList.drop T).length:=by
   rw [←hc,nH]
   simp only [List.length_drop,Array.length_toList,List.filter_map,List.length_map]
   have key:∀n,T≤n->((List.range n).filter ((fun x=>x == false) ∘ (decide<| · <T))).length=n-T:=by
    intro n hn
    induction n with
    | zero=>simp
    | succ n ih =>
     rw [List.range_succ,List.filter_append,List.length_append]
     by_cases Px:T≤n
     ·rw [ih Px]
      have:((fun x=>x == false) ∘ (decide<| · <T)) n=true:=by simp;omega
      rw [List.filter_cons_of_pos this];simp;omega
     ·obtain rfl:T=n+1:=aj
      have h1:(List.range n).filter ((fun x=>x == false) ∘ (decide<| · <n+1))= []:=by
       rw [List.filter_eq_nil_iff];intro x hx;have:=List.mem_range.1 hx;simp;omega
      have h2:[n].filter ((fun x=>x == false) ∘ (decide<| · <n+1))= []:=by
       rw [List.filter_eq_nil_iff];intro x hx;simp at hx;subst hx;simp
      rw [h1,h2];simp
   exact key ops.size aj
  rw [hlen]
  refine wpAny_of_seq (ops.toList.drop T) T listed a' w' (fun j=>by rw [List.getElem?_drop];simp) ?_ (kf _ a' w' all tail hJ)
  rw [nH]
  simpa using Pg
 intro fuel
 induction fuel with
 | zero =>
  intro listed a' w' I hJ tail hc
  refine rest 0 listed a' w' I hJ tail hc fun k hk=>?_
  cases hx:listed.getD k false with
  | true=>rfl
  | false =>
   exfalso
   have iH:k<listed.size:=by rw [I.size];omega
   have:false∈listed.toList.filter (· == false):=by
    refine List.mem_filter.2 ⟨?_,rfl⟩
    have h1:listed.toList[k]?=some false:=by simp [iH] at hx ⊢;exact hx
    exact List.mem_of_getElem? h1
   have:=List.length_pos_of_mem this
   omega
 | succ fuel ih =>
  intro listed a' w' I hJ tail hc
  by_cases hex:∀k,k<T->listed.getD k false=true
  ·exact rest (fuel+1) listed a' w' I hJ tail hc hex
  have O_:∃k,k<T∧listed.getD k false=false:=by
   refine Classical.byContradiction fun gh=>hex fun k hk=>?_
   cases hx:listed.getD k false with
   | true=>rfl
   | false=>exact absurd ⟨k,hk,hx⟩ gh
  obtain ⟨k0,xQ,HZ⟩:=O_
  have PW:HeadInv .any ops T listed:=⟨I.size,fun j oj hj hl e he hb=>I.closed j oj hl hj e.on (by
    unfold bm
    exact List.mem_map.2 ⟨e,List.mem_filter.2 ⟨by simpa using he,hb⟩,rfl⟩),fun t ht Pf=>getD_in (by rw [I.size];exact Pf) (tail t ht)⟩
  have Io:listed.getD k0 true=false:=getD_in (by rw [I.size];omega) HZ
  refine ⟨fun hr=>(by
   obtain ⟨i,_,hi⟩:=kB listed I k0 xQ HZ
   rw [hr] at hi;cases hi),fun i hi=>?_⟩
  have PD:i<T:=Classical.byContradiction fun h=>tail_waits JP vJ hT PW _ k0 rfl xQ Io i aj hi
  obtain ⟨h0,o,ho,gj⟩:=mem_ready.1 hi
  have Ip:i<listed.size:=by rw [I.size];exact (Array.getElem?_eq_some_iff.1 ho).1
  have Ot:listed.getD i false=false:=by simp [Ip] at h0 ⊢;exact h0
  have jd:∀d∈bm o,listed.getD d false=true:=by
   intro d hd
   unfold bm at hd
   obtain ⟨e,he,rfl⟩:=List.mem_map.1 hd
   obtain ⟨LY,KU⟩:=List.mem_filter.1 he
   exact gj e (by simpa using LY) KU
  have next:QT ops (listed.setIfInBounds i true):=by
   refine ⟨by simpa using I.size,fun k p hk hp d hd=>?_⟩
   by_cases sF:i=k
   ·subst sF
    rw [ho] at hp;injection hp with hp;subst hp
    exact getD_set_true (jd d hd)
   ·rw [getD_set_ne false sF] at hk
    exact getD_set_true (I.closed k p hk hp d hd)
  have e9:(fun k=>(listed.setIfInBounds i true).getD k false)=eS (fun k=>listed.getD k false) i:=by
   funext k
   unfold eS
   by_cases sF:k=i
   ·subst sF;rw [if_pos rfl];simp [Ip]
   ·rw [if_neg sF,getD_set_ne false (Ne.symm sF)]
  have nD:∀j,T≤j->(listed.setIfInBounds i true).getD j false=false:=fun j hj=>by rw [getD_set_ne false aj];exact tail j hj
  have nG:((listed.setIfInBounds i true).toList.filter (· == false)).length=fuel:=by
   have Pz:((listed.setIfInBounds i true).toList.filter (· == false)).length+1=(listed.toList.filter (· == false)).length:=by
    rw [Array.toList_setIfInBounds]
    have jk:listed.toList[i]?=some false:=by simp [Ip] at h0 ⊢;exact h0
    exact pt _ i jk
   omega
  have iP:=vq i o (fun k=>listed.getD k false) a' w' PD ho Ot jd (fun j p hj hp d hd=>I.closed j p hj hp d hd) tail hJ
  rw [←e9] at iP
  unfold wpOp
  rw [ho]
  simp only
  by_cases hw:Region.wanted o (yielded ops a'.tmps)=true
  ·rw [if_pos hw] at iP ⊢
   left
   exact Oper.wp_mono (fun rL fw h=>ih _ _ _ next h nD nG) iP
  ·rw [if_neg hw] at iP ⊢
   exact ih _ _ _ next iP nD nG
end
def dR (ops:List Oper) (col:List AV) (L:Nat->Bool):Nat->List (Nat×AV)
 | 0=>[]
 | k+1=>match L k,ops[k]?,col[k]? with
  | true,some o,some x=>(match o.dst with|some i=>(i,x)::dR ops col L k|none=>dR ops col L k)
  | _,_,_=>dR ops col L k
theorem kK (ops:List Oper) (col:List AV) (L:Nat->Bool):∀(T i:Nat) (x:AV),look (dR ops col L T) i=some x-> ∃k o,k<T∧L k=true∧ops[k]?=some o∧o.dst=some i∧col[k]?=some x
 | 0,i,x,h=>by cases h
 | k+1,i,x,h=>by
  have step:look (dR ops col L k) i=some x-> ∃k' o,k'<k+1∧L k'=true∧ops[k']?=some o∧o.dst=some i∧col[k']?=some x:=fun h=>by
   obtain ⟨k',o,h1,h2⟩:=kK ops col L k i x h
   exact ⟨k',o,aj,h2⟩
  simp only [dR] at h
  split at h
  ·rename_i o y hL ho hy
   split at h
   ·rename_i j hj
    rw [aD] at h
    by_cases e:j=i
    ·rw [if_pos e] at h;injection h with h;subst h;subst e
     exact ⟨k,o,aj,hL,ho,hj,hy⟩
    ·rw [if_neg e] at h;exact step h
   ·exact step h
  ·exact step h
theorem gq {ops:List Oper} (im:(ops.filterMap (·.dst)).Nodup) (col:List AV) (L:Nat->Bool):∀(T k i:Nat) (o:Oper) (x:AV),k<T->L k=true->ops[k]?=some o->o.dst=some i->col[k]?=some x->look (dR ops col L T) i=some x
 | 0,k,i,o,x,h,_,_,_,_=>by omega
 | m+1,k,i,o,x,hk,hL,ho,hd,hx=>by
  by_cases QE:k=m
  ·subst QE
   simp only [dR,hL,ho,hx,hd,aD,if_pos]
  ·have ih:=gq im col L m k i o x aj hL ho hd hx
   simp only [dR]
   split
   ·rename_i p y _ hp _
    split
    ·rename_i j hj
     rw [aD]
     have cX:j≠i:=fun e=>by
      subst e
      exact QE (oo (ops:=ops.toArray) (by simpa using im) (by simpa using ho) (by simpa using hp) hd hj)
     rw [if_neg cX];exact ih
    ·exact ih
   ·exact ih
theorem jg {ops:List Oper} {col:List AV} {L:Nat->Bool} {T i:Nat} (h:∀k o,k<T->ops[k]?=some o->o.dst≠some i):look (dR ops col L T) i=none:=by
 cases hl:look (dR ops col L T) i with
 | none=>rfl
 | some x =>
  obtain ⟨k,o,h1,-,h3,h4,-⟩:=kK ops col L T i x hl
  exact absurd h4 (h k o h1 h3)
theorem aJ.sub {S0:bo} {w0 w:World} {n:Nat} {O:List Nat} {F F':List (Nat×AV)} {H:List (Nat×Row)} {a:Act} {φ:Nat->Option Nat} (h:aJ S0 w0 n O ⟨F,H⟩ a w φ) (hF:∀i x,look F' i=some x->look F i=some x∨x= .dead):aJ S0 w0 n O ⟨F',H⟩ a w φ:=by
 refine ⟨h.jQ,h.jT,h.cZ,fun i x hx=>?_,h.rows,h.only,h.inj,h.cY,h.apart,h.new⟩
 rcases hF i x hx with h1|h1
 ·exact h.cG i x h1
 ·rw [h1];exact .dead _
section
variable {P:Program} {ops:List Oper} {S0:bo} {w0:World} {Q:Exit->Act->World->Prop} {n T:Nat} {col:List AV} {kept:List (Nat×AV)} {H:List (Nat×Row)} {L:Nat->Bool} {k:Nat} {o:Oper}
theorem Al (im:(ops.filterMap (·.dst)).Nodup) (FE:∀d∈bm o,L d=true∧d<T) (fy:∀i x,look kept i=some x-> ∀j p,j<T->ops[j]?=some p->p.dst≠some i) (i:Nat) (x:AV) (h:look (jn ops col (bm o)++kept) i=some x):look (dR ops col L T++kept) i=some x:=by
 rw [bM] at h ⊢
 cases hd:look (jn ops col (bm o)) i with
 | some y =>
  rw [hd] at h
  simp at h;subst h
  obtain ⟨d,p,h1,h2,h3,h4⟩:=n0 _ _ _ _ _ hd
  rw [gq im col L T d i p y (FE d h1).2 (FE d h1).1 h2 h3 h4];rfl
 | none =>
  rw [hd] at h
  simp at h
  rw [jg fun j p hj hp=>fy i x h j p hj hp]
  simpa using h
theorem tJ {h:Hint} {x:AV} {C:List Prop} {a:Act} {w:World} (im:(ops.filterMap (·.dst)).Nodup) (vr:∀(k:Nat) (o:Oper) (s:Nat),ops[k]?=some o->o.dst=some s->s<n)
  (hk:k<T) (ho:ops[k]?=some o) (FE:∀d∈bm o,L d=true∧d<T) (fy:∀i x,look kept i=some x-> ∀j p,j<T->ops[j]?=some p->p.dst≠some i)
  (ea:sL P ops ⟨jn ops col (bm o)++kept,H⟩ o h=some (x,C)) (hC:bz C) (hx:col[k]?=some x) (hs:iv S0 w0 n ⟨dR ops col L T++kept,H⟩ a w) :
  if Region.wanted o (yielded ops.toArray a.tmps)=true then o.wp P a w (fun a' w'=>iv S0 w0 n ⟨dR ops col (eS L k) T++kept,H⟩ a' w') Q else iv S0 w0 n ⟨dR ops col (eS L k) T++kept,H⟩ (a.put o.dst undef) w:=by
 obtain ⟨φ,hs⟩:=hs
 have Cp:=hs.sub (F':=jn ops col (bm o)++kept) (fun i y hy=>.inl (Al im FE fy i y hy))
 have iP:=EE (Q:=Q) ea hC Cp (b:=a) rfl
 have fin:∀v w',Below w.heap.size w w'->Den (az H φ) (aM S0 w' φ []) w' v x->iv S0 w0 n ⟨dR ops col (eS L k) T++kept,H⟩ (a.put o.dst v) w':=by
  intro v w' hb hd
  have hg:=hs.grow hb
  refine ⟨φ,(tE ..).trans hg.jQ,(po ..).trans hg.jT,hg.cZ,fun i y hy=>?_,hg.rows,hg.only,hg.inj,hg.cY,hg.apart,hg.new⟩
  have hy:look (dR ops col (eS L k) T++kept) i=some y:=hy
  have same:o.dst≠some i->(a.put o.dst v).tmps.getD i undef=a.tmps.getD i undef:=fun cX=>by
   cases Tu:o.dst with
   | none=>rfl
   | some j =>
    have dj:j<a.tmps.size:=by rw [hg.jQ];exact vr k o j ho Tu
    rw [pQ a j i v dj,if_neg (fun e=>cX (by rw [Tu,e]))]
  rw [bM] at hy
  cases hl:look (dR ops col (eS L k) T) i with
  | some z =>
   rw [hl] at hy
   simp at hy;subst hy
   obtain ⟨j,p,h1,h2,h3,h4,h5⟩:=kK _ _ _ _ _ _ hl
   by_cases vH:j=k
   ·subst vH
    rw [ho] at h3;injection h3 with h3;subst h3
    rw [hx] at h5;injection h5 with h5;subst h5
    have dj:i<a.tmps.size:=by rw [hg.jQ];exact vr j o i ho h4
    rw [h4,pQ a i i v dj,if_pos rfl]
    exact hd
   ·have QJ:L j=true:=by unfold eS at h2;rw [if_neg vH] at h2;exact h2
    have cX:o.dst≠some i:=fun e=>vH (oo (ops:=ops.toArray) (by simpa using im) (by simpa using h3) (by simpa using ho) h4 e)
    rw [same cX]
    refine hg.cG i z ?_
    show look (dR ops col L T++kept) i=some z
    rw [bM,gq im col L T j i p z h1 QJ h3 h4 h5];rfl
  | none =>
   rw [hl] at hy
   simp at hy
   have cX:o.dst≠some i:=fy i y hy k o hk ho
   rw [same cX]
   refine hg.cG i y ?_
   show look (dR ops col L T++kept) i=some y
   rw [bM,jg fun j p hj hp=>fy i y hy j p hj hp]
   simpa using hy
 unfold gS at iP
 split
 ·rename_i hw
  rw [if_pos hw] at iP
  exact Oper.wp_mono (fun a' w' ⟨v,h1,h2,h3,h4⟩=>by subst h1;exact fin v w' h2 h4) iP
 ·rename_i hw
  rw [if_neg hw] at iP
  exact fin undef w (Below.refl _ _) iP.2
end
def Jy (d:Nat):AV->AV->AV
 | .ref id,x=>jM d (jM id x)
 | .pre id _,x=>jM d (jM id x)
 | _,x=>jM d x
def Qi (d:Nat) (X:AV) (F:List (Nat×AV)):List (Nat×AV):=(d,.ref d)::cU (er (Jy d X) F) d
theorem lY {α:Type} (f g:α->α):∀(l:List (Nat×α)),er f (er g l)=er (fun x=>f (g x)) l
 | []=>rfl
 | (k,x)::l=>by simp only [er,lY f g l]
theorem GZ (P:Program) (F F':List (Nat×AV)) (H:List (Nat×Row)) (xt:TypeId) (z:Nat) (x:AV):qL P ⟨F',H⟩ xt z x=qL P ⟨F,H⟩ xt z x:=by
 cases x<;>rfl
theorem Jx {P:Program} {n:Nat} {F F':List (Nat×AV)} {H:List (Nat×Row)} {d t xt:Nat} {X Y:AV} {h:Hint} {q:AS} {C:List Prop} (he:kU P n ⟨F,H⟩ d t xt X Y h=some (q,C)):kU P n ⟨F',H⟩ d t xt X Y h=some (⟨Qi d X F',q.H⟩,C):=by
 unfold kU at he ⊢
 split at he
 ·rename_i el hu
  split at he
  ·rename_i i hi
   split at he
   ·rename_i zero z b hz dC xT
    split at he
    ·rename_i cells s1 row uA lE gv
     split at he
     ·rename_i C' s' oO e9
      cases he
      have PM:∃NW,qm ⟨F',H⟩ (z+1) X=some (cells,NW)∧NW.H=s1.H∧er (jM d) NW.F=er (Jy d X) F':=by
       unfold qm at lE ⊢
       split at lE
       ·cases lE;exact ⟨_,rfl,rfl,rfl⟩
       ·split at lE
        ·rename_i e' _ NF hl
         split at lE
         ·rename_i hb
          cases lE
          refine ⟨ck _ ⟨F',H⟩,?_,rfl,?_⟩
          ·have rh:look (⟨F',H⟩:AS).H _=_:=hl
           simp only [rh,hb]
          ·exact lY _ _ _
         ·cases lE
        ·cases lE
       ·split at lE
        ·rename_i e' _ NF hl
         split at lE
         ·rename_i hb
          cases lE
          refine ⟨ck _ ⟨F',H⟩,?_,rfl,?_⟩
          ·have rh:look (⟨F',H⟩:AS).H _=_:=hl
           simp only [rh,hb]
          ·exact lY _ _ _
         ·cases lE
        ·cases lE
       ·split at lE
        ·rename_i hb
         cases lE
         exact ⟨⟨F',H⟩,rfl,rfl,rfl⟩
        ·cases lE
       ·cases lE
      obtain ⟨NW,Gw,y2,US⟩:=PM
      rw [GZ P F F'] at *
      simp only [uA,Gw,gv,oO]
      unfold gG at e9 ⊢
      simp only at e9 ⊢
      split at e9
      ·cases e9
       have e1:(ck d NW).H=(ck d s1).H:=by unfold ck;rw [y2]
       have e2:(ck d NW).F=er (Jy d X) F':=US
       simp only [lr,e1,e2,Qi]
      ·cases e9
     ·cases he
    ·cases he
   ·cases he
  ·cases he
 ·cases he
section
variable {P:Program} {ops:List Oper} {S0:bo} {w0:World} {Q:Exit->Act->World->Prop} {n T:Nat} {col col':List AV} {kept:List (Nat×AV)} {H H':List (Nat×Row)} {L:Nat->Bool} {k:Nat} {o:Oper}
theorem xG {f:AV->AV} {F:List (Nat×AV)} {d i:Nat} (h:d≠i):look (cU (er f F) d) i=(look F i).map f:=by rw [bH,if_neg h,cz]
def ue (F:List (Nat×AV)):Operand->Bool
 | .tmp i=>(look F i).isSome
 | _=>true
theorem mr {F F':List (Nat×AV)} (hF:∀i x,look F i=some x->look F' i=some x) {y:Operand} (h:ue F y=true):bq ⟨F',H⟩ y=bq ⟨F,H⟩ y:=by
 cases y with
 | tmp i =>
  have h:(look F i).isSome=true:=h
  cases hl:look F i with
  | none=>rw [hl] at h;cases h
  | some x =>
   show jS _ i=jS _ i
   unfold jS
   rw [show look (⟨F',H⟩:AS).F i=some x from hF i x hl,show look (⟨F,H⟩:AS).F i=some x from hl]
 | _=>rfl
end
def OG:List Nat->List Nat->List Nat
 | [],m=>m
 | x::l,m=>match m.any (Nat.beq x) with|true=>OG l m|false=>OG l (x::m)
theorem xB:∀(l m:List Nat) (x:Nat),x∈OG l m->x∈l∨x∈m
 | [],m,x,h=>.inr h
 | y::l,m,x,h=>by
  simp only [OG] at h
  split at h
  ·rcases xB l m x h with h|h
   ·exact .inl (by simp [h])
   ·exact .inr h
  ·rcases xB l (y::m) x h with h|h
   ·exact .inl (by simp [h])
   ·rcases List.mem_cons.1 h with h|h
    ·exact .inl (by simp [h])
    ·exact .inr h
def ni (R:List (List Nat)):List Nat->List Nat
 | []=>[]
 | d::l=>OG (d::R.getD d []) (ni R l)
theorem uk (R:List (List Nat)):∀(l:List Nat) (x:Nat),x∈ni R l-> ∃d∈l,x=d∨x∈R.getD d []
 | [],x,h=>by simp [ni] at h
 | d::l,x,h=>by
  rcases xB _ _ x h with h|h
  ·exact ⟨d,by simp,List.mem_cons.1 h⟩
  ·obtain ⟨e,h1,h2⟩:=uk R l x h
   exact ⟨e,by simp [h1],h2⟩
def mn:List Oper->List (List Nat)->List (List Nat)
 | [],R=>R
 | o::l,R=>mn l (R++ [ni R (bm o)])
def tl (ops:List Oper) (R:List (List Nat)):Prop:=∀(k:Nat) (o:Oper),ops[k]?=some o-> ∀(L:Nat->Bool),(∀j p,L j=true->ops[j]?=some p-> ∀d∈bm p,L d=true)->(∀d∈bm o,L d=true)-> ∀j∈R.getD k [],L j=true
theorem qR (ops:List Oper):∀(l:List Oper) (R:List (List Nat)),tl ops R->(∀j o,l[j]?=some o->ops[R.length+j]?=some o)->(∀(k:Nat) (o:Oper),ops[k]?=some o-> ∀d∈bm o,d<k)->tl ops (mn l R)
 | [],R,h,_,_=>h
 | o::l,R,h,hl,dj=>by
  refine qR ops l _ ?_ (fun j p hp=>?_) dj
  ·intro k p hp L hc hd j hj
   by_cases hk:k<R.length
   ·have:(R++ [ni R (bm o)]).getD k []=R.getD k []:=by
     rw [List.getD_eq_getElem?_getD,List.getD_eq_getElem?_getD,List.getElem?_append_left hk]
    rw [this] at hj
    exact h k p hp L hc hd j hj
   ·by_cases r9:k=R.length
    ·subst r9
     have e:(R++ [ni R (bm o)]).getD R.length []=ni R (bm o):=by
      rw [List.getD_eq_getElem?_getD,List.getElem?_append_right (Nat.le_refl _)];simp
     rw [e] at hj
     have ho:ops[R.length]?=some o:=by have:=hl 0 o rfl;simpa using this
     rw [ho] at hp;injection hp with hp;subst hp
     obtain ⟨d,h1,h2⟩:=uk R _ j hj
     rcases h2 with h2|h2
     ·subst h2;exact hd j h1
     ·cases QB:ops[d]? with
      | none =>
       exfalso
       have:=dj R.length o ho d h1
       have h3:=(List.getElem?_eq_some_iff.1 ho).1
       rw [List.getElem?_eq_getElem aj] at QB;cases QB
      | some q=>exact h d q QB L hc (fun d' FF=>hc d q (hd d h1) QB d' FF) j h2
    ·have e:(R++ [ni R (bm o)]).getD k []= []:=by
      rw [List.getD_eq_getElem?_getD,List.getElem?_eq_none (by simp;omega)];rfl
     rw [e] at hj;cases hj
  ·rw [List.length_append]
   have:=hl (j+1) p (by simpa using hp)
   simp only [List.length_cons,List.length_nil]
   rwa [show R.length+(j+1)=R.length+(0+1)+j by omega] at this
def hit (l m:List Nat):Bool:=l.any fun x=>m.any (Nat.beq x)
theorem any_beq {m:List Nat} {x:Nat}:m.any (Nat.beq x)=true↔x∈m:=by
 rw [List.any_eq_true]
 exact ⟨fun ⟨y,h1,h2⟩=>by rw [Nat.eq_of_beq_eq_true h2];exact h1,fun h=>⟨x,h,Nat.beq_refl x⟩⟩
theorem n_ {l m:List Nat}:hit l m=true↔ ∃x,x∈l∧x∈m:=by
 unfold hit
 rw [List.any_eq_true]
 exact ⟨fun ⟨x,h1,h2⟩=>⟨x,h1,any_beq.1 h2⟩,fun ⟨x,h1,h2⟩=>⟨x,h1,any_beq.2 h2⟩⟩
structure nS where
 col:List AV
 kept:List (Nat×AV)
 H:List (Nat×Row)
def qu (P:Program) (ops:List Oper) (hs:List (Nat×Hint)) (R:List (List Nat)) (done rest last:List Nat) (first:Bool) (old:List AV) (kept:List (Nat×AV)) (H:List (Nat×Row)) (o:Oper) (k:Nat) (col:List AV):Option (AV×List Prop) :=
 match rest.any (Nat.beq k),hit (R.getD k []) rest with
 | false,false=>(match done.any (Nat.beq k),done.any (fun W=>(R.getD W []).any (Nat.beq k)) with
  | false,false=>(match sL P ops ⟨jn ops col (bm o)++kept,H⟩ o (gw hs k) with
   | some (x,C)=>(match first,hit (R.getD k []) last with
    | false,false=>some (x,(old.getD k .dead=x)::C)
    | _,_=>some (x,C))
   | none=>none)
  | _,_=>some (old.getD k .dead,[]))
 | _,_=>some (.dead,[])
def yx (P:Program) (ops:List Oper) (hs:List (Nat×Hint)) (R:List (List Nat)) (done rest last:List Nat) (first:Bool) (old:List AV) (kept:List (Nat×AV)) (H:List (Nat×Row)):List Oper->Nat->List AV->Option (List AV×List Prop)
 | [],_,col=>some (col,[])
 | o::l,k,col=>match qu P ops hs R done rest last first old kept H o k col with
  | some (x,C)=>(match yx P ops hs R done rest last first old kept H l (k+1) (col++ [x]) with|some (col',D)=>some (col',C++D)|none=>none)
  | none=>none
theorem jA {P:Program} {ops:List Oper} {hs:List (Nat×Hint)} {R:List (List Nat)} {done rest last:List Nat} {first:Bool} {old:List AV} {kept:List (Nat×AV)} {H:List (Nat×Row)}:∀(l:List Oper) (i:Nat) (col col':List AV) (C:List Prop),yx P ops hs R done rest last first old kept H l i col=some (col',C)->bz C->col.length=i ->
  col'.length=i+l.length∧col'.take i=col∧ ∀(j:Nat) (o:Oper),l[j]?=some o-> ∃x D,col'[i+j]?=some x∧bz D∧qu P ops hs R done rest last first old kept H o (i+j) (col'.take (i+j))=some (x,D)
 | [],i,col,col',C,he,hC,hl=>by
  cases he
  exact ⟨by simp [hl],by rw [←hl,List.take_length],fun j o h=>by simp at h⟩
 | o::l,i,col,col',C,he,hC,hl=>by
  simp only [yx] at he
  split at he
  ·rename_i x C1 h1
   split at he
   ·rename_i Vz D h2
    cases he
    obtain ⟨iJ,hD⟩:=bP.1 hC
    obtain ⟨e1,e2,e3⟩:=jA l (i+1) (col++ [x]) col' D h2 hD (by simp [hl])
    have e4:col'.take i=col:=by
     have:=congrArg (List.take i) e2
     rw [List.take_take,Nat.min_eq_left aj,←hl,List.take_left] at this
     rw [←hl];exact this
    have e5:col'[i]?=some x:=by
     have h3:(col'.take (i+1))[i]?=some x:=by rw [e2,List.getElem?_append_right aj,hl];simp
     exact bW _ _ _ _ h3
    refine ⟨by rw [e1,List.length_cons];omega,e4,fun j p hp=>?_⟩
    cases j with
    | zero =>
     simp at hp;subst hp
     exact ⟨x,C1,by simpa using e5,iJ,by simp only [Nat.add_zero];rw [e4];exact h1⟩
    | succ j =>
     obtain ⟨y,D',h5,h6,h7⟩:=e3 j p (by simpa using hp)
     rw [show i+1+j=i+(j+1) by omega] at h5 h7
     exact ⟨y,D',h5,h6,h7⟩
   ·cases he
  ·cases he
def iV:List Nat->AV->AV
 | [],x=>x
 | i::l,x=>iV l (jM i x)
theorem iQ:∀(l:List Nat) (F F':List (Nat×AV)) (H:List (Nat×Row)),(a8 ⟨F,H⟩ l).F=er (iV l) F∧(a8 ⟨F,H⟩ l).H=(a8 ⟨F',H⟩ l).H
 | [],F,F',H=>⟨by
   show F=er (fun x=>x) F
   induction F with
   | nil=>rfl
   | cons p F ih=>obtain ⟨k,x⟩:=p;simp only [er,←ih],rfl⟩
 | i::l,F,F',H=>by
  obtain ⟨h1,h2⟩:=iQ l (er (jM i) F) (er (jM i) F') (er (cP i) (cU H i))
  refine ⟨?_,h2⟩
  show (a8 ⟨er (jM i) F,er (cP i) (cU H i)⟩ l).F=_
  rw [h1,lY];rfl
def nw (F:List (Nat×AV)):List Operand->Bool
 | []=>true
 | x::l=>match ue F x with|true=>nw F l|false=>false
def oS (s:AS) (x y:Operand):Bool :=
 match bq s x with
 | .addr id _=>(match look s.H id with
  | some r=>(match r.pure,p8 (bq s y) with
   | false,_=>true
   | true,[]=>true
   | _,_=>false)
  | none=>false)
 | _=>false
def Ov (P:Program) (n:Nat) (s:AS) (o:Oper) (h:Hint):Option ((AV->AV)×AV×List (Nat×Row)×List Prop) :=
 match o.guard,o.op,o.dst with
 | none,.call ⟨.builtin .append,⟨[x,y]⟩,⟨[t,xt]⟩⟩,some d=>(match ue s.F x,ue s.F y,kU P n s d t xt (bq s x) (bq s y) h with
  | true,true,some (q,C)=>some (Jy d (bq s x),.ref d,q.H,C)
  | _,_,_=>none)
 | none,.alloc t,some d=>(match oh P n s d t h with
  | some (q,C)=>some (jM d,.addr d 0,q.H,C)
  | none=>none)
 | none,.call ⟨.value (.func f),xs,_⟩,some d=>(match h.ln,h.av,nw s.F xs.toList,((xs.toList.map (bq s)).flatMap p8).filter fun i=> !(Ce i (h.ln.map (·.1))) with
  | _::_,some r,true,[]=>(match og P n s (some d) (.value (.func f)) xs.toList h with
   | some (q,C)=>some (fun x=>iV ((cy d r).2.map (·.1)) (iV (fk h.ln) x),(cy d r).1,q.H,C)
   | none=>none)
  | [],some r,true,_=>(match h.b,rA P n s (some d) (.value (.func f)) xs.toList h with
   | true,some (q,C)=>some (iV ((cy d r).2.map (·.1)),(cy d r).1,q.H,C)
   | _,_=>none)
  | _,_,_,_=>none)
 | none,.store t x y,none=>(match ue s.F x,ue s.F y,oS s x y,kR P s t x y h with
  | true,true,true,some (q,C)=>some (fun x=>x,.dead,q.H,C)
  | _,_,_,_=>none)
 | none,.buildSlice t len ⟨parts⟩,some d=>(match nw s.F (parts.map (·.2)),parts.flatMap (fun p=>p8 (bq s p.2)) with
  | true,[]=>(match u0 P n s d t len parts h with
   | some (q,C)=>some (jM d,.ref d,q.H,C)
   | none=>none)
  | _,_=>none)
 | _,_,_=>none
def vD (d:Option Nat) (X:AV) (F:List (Nat×AV)):List (Nat×AV):=match d with|some d=>(d,X)::cU F d|none=>F
theorem D_:∀(F:List (Nat×AV)),er (fun x=>x) F=F
 | []=>rfl
 | (k,x)::F=>by simp only [er,D_ F]
theorem BH {P:Program} {F F':List (Nat×AV)} {H:List (Nat×Row)} {t:TypeId} {x y:Operand} {h:Hint} {q:AS} {C:List Prop} (dS:oS ⟨F,H⟩ x y=true) (ex:bq ⟨F',H⟩ x=bq ⟨F,H⟩ x) (ey:bq ⟨F',H⟩ y=bq ⟨F,H⟩ y) (he:kR P ⟨F,H⟩ t x y h=some (q,C)):kR P ⟨F',H⟩ t x y h=some (⟨F',q.H⟩,C):=by
 unfold kR at he ⊢
 unfold oS at dS
 rw [ex,ey]
 split at dS
 ·rename_i id off hx
  split at dS
  ·rename_i r hr
   have hr:look H id=some r:=hr
   cases hz:eC P t with
   | none=>simp only [hx,hr,hz] at he;cases he
   | some z =>
    simp only [hx,hr,hz] at he ⊢
    split at dS
    ·rename_i hp
     rw [hp] at he ⊢
     simp only at he ⊢
     split at he
     ·rename_i l hl
      split at he
      ·rename_i h1 h2
       cases he
       rfl
      ·cases he
     ·cases he
    ·rename_i hp hi
     rw [hp,hi] at he ⊢
     simp only [gg,hr,hx,ex,ey] at he ⊢
     split at he
     ·rename_i r1 l pc B9 Pn hl hid
      cases Pn;cases hid
      split at he
      ·rename_i h1 h2 h3 h4
       cases he
       rfl
      ·cases he
     ·cases he
    ·cases dS
  ·cases dS
 ·cases dS
theorem ud {F F':List (Nat×AV)} {H:List (Nat×Row)} (hF:∀i x,look F i=some x->look F' i=some x):∀ {l:List Operand},nw F l=true->l.map (bq ⟨F',H⟩)=l.map (bq ⟨F,H⟩)
 | [],_=>rfl
 | x::l,h=>by
  simp only [nw] at h
  split at h
  ·rename_i hx
   rw [List.map_cons,List.map_cons,mr (H:=H) hF hx,ud hF h]
  ·cases h
theorem mz {F F':List (Nat×AV)} {H:List (Nat×Row)} {z:Nat} (hF:∀i x,look F i=some x->look F' i=some x):∀(l:List (Nat×Operand)) (i:Nat),nw F (l.map (·.2))=true->fW ⟨F',H⟩ z i l=fW ⟨F,H⟩ z i l∧l.flatMap (fun p=>p8 (bq ⟨F',H⟩ p.2))=l.flatMap (fun p=>p8 (bq ⟨F,H⟩ p.2))
 | [],_,_=>⟨rfl,rfl⟩
 | (j,x)::l,i,h=>by
  simp only [List.map_cons,nw] at h
  split at h
  ·rename_i hx
   obtain ⟨h1,h2⟩:=mz (H:=H) (z:=z) hF l (i+1) h
   have ex:=mr (H:=H) hF hx
   refine ⟨?_,?_⟩
   ·simp only [fW,ex,h1]
   ·simp only [List.flatMap_cons,ex,h2]
  ·cases h
theorem HJ {P:Program} {n d t len:Nat} {F F':List (Nat×AV)} {H:List (Nat×Row)} {l:List (Nat×Operand)} {h:Hint} {q:AS} {C:List Prop} (hF:∀i x,look F i=some x->look F' i=some x) (ho:nw F (l.map (·.2))=true) (hi:l.flatMap (fun p=>p8 (bq ⟨F,H⟩ p.2))= []) (he:u0 P n ⟨F,H⟩ d t len l h=some (q,C)) :
  u0 P n ⟨F',H⟩ d t len l h=some (⟨(d,.ref d)::cU (er (jM d) F') d,q.H⟩,C):=by
 have hc:∀z,fW ⟨F',H⟩ z 0 l=fW ⟨F,H⟩ z 0 l:=fun z=>(mz hF l 0 ho).1
 have jk:=(mz (z:=0) (H:=H) hF l 0 ho).2
 rw [hi] at jk
 unfold u0 at he ⊢
 rw [hi] at he
 rw [jk]
 simp only [gg] at he ⊢
 split at he
 ·rename_i el hu
  split at he
  ·rename_i z zero s1 hz hzero gV
   cases gV
   try simp only [hz,hzero,hc]
   split at he
   ·rename_i cells h1 h2 h3
    try simp only [h1,h2,h3]
    split at he
    ·rename_i h4
     try simp only [h4]
     split at he
     ·rename_i row Ol
      try simp only [Ol]
      split at he
      ·rename_i s' hp bY
       cases he
       unfold gG at bY ⊢
       try simp only [hp] at bY ⊢
       split at bY
       ·cases bY
        rfl
       ·cases bY
      ·cases he
     ·rename_i Ol
      split at he
      ·rename_i s' hp bY
       cases he
       unfold gG at bY ⊢
       try simp only [hp] at bY ⊢
       split at bY
       ·cases bY
        rfl
       ·cases bY
      ·cases he
    ·cases he
   ·cases he
  ·cases he
 ·cases he
theorem IQ {P:Program} {n:Nat} {F:List (Nat×AV)} {H H':List (Nat×Row)} {o:Oper} {h:Hint} {Tr:AV->AV} {X:AV} {C:List Prop} (ea:Ov P n ⟨F,H⟩ o h=some (Tr,X,H',C)) :
  o.guard=none∧ ∀F',(∀i x,look F i=some x->look F' i=some x)->mc P n ⟨F',H⟩ o ⟨vD o.dst X (er Tr F'),H'⟩ C:=by
 unfold Ov at ea
 split at ea
 ·rename_i x y t xt d hg vq hd
  split at ea
  ·rename_i q C' h1 h2 h3
   cases ea
   refine ⟨hg,fun F' hF=>?_⟩
   rw [hd]
   simp only [vD]
   have PL:=Jx (F':=F') h3
   have ex:=mr (H:=H) hF h1
   have ey:=mr (H:=H) hF h2
   rw [←ey,←ex] at PL
   have:=sg (n:=n) (s:=⟨F',H⟩) vq hd PL
   rw [ex] at this
   exact this
  ·cases ea
 ·rename_i t d hg vq hd
  split at ea
  ·rename_i q C' h1
   cases ea
   refine ⟨hg,fun F' hF=>?_⟩
   rw [hd]
   simp only [vD]
   have h2:oh P n ⟨F',H⟩ d t h=some (⟨(d,.addr d 0)::cU (er (jM d) F') d,q.H⟩,C):=by
    unfold oh at h1 ⊢
    split at h1
    ·split at h1
     ·split at h1
      ·rename_i s' bY
       cases h1
       unfold gG at bY ⊢
       simp only at bY ⊢
       split at bY
       ·cases bY;rfl
       ·cases bY
      ·cases h1
     ·split at h1
      ·rename_i s' bY
       cases h1
       unfold gG at bY ⊢
       simp only at bY ⊢
       split at bY
       ·cases bY;rfl
       ·cases bY
      ·cases h1
    ·cases h1
   exact va (s:=⟨F',H⟩) vq hd h2
  ·cases ea
 ·rename_i f xs ts d hg vq hd
  split at ea
  ·rename_i p l r LS Ol Ic KQ
   split at ea
   ·rename_i q C' h1
    cases ea
    refine ⟨hg,fun F' hF=>?_⟩
    rw [hd]
    simp only [vD]
    have eo:=ud (H:=H) hF Ic
    have h2:og P n ⟨F',H⟩ (some d) (.value (.func f)) xs.toList h=some (⟨(d,(cy d r).1)::cU (er (fun x=>iV ((cy d r).2.map (·.1)) (iV (fk h.ln) x)) F') d,q.H⟩,C):=by
     unfold og at h1 ⊢
     rw [eo]
     simp only [Ol,callee] at h1 ⊢
     rw [KQ] at h1 ⊢
     simp only [gg] at h1 ⊢
     split at h1
     ·rename_i s1 hE gV
      cases gV
      split at h1
      ·rename_i Hl Hb C2 g1 g2 g3 g4
       have Vt:iT ⟨F',H⟩ h.ln h.ln=some Hl:=by
        have key:∀(ρ l:List (Nat×Nat)),iT ⟨F',H⟩ ρ l=iT ⟨F,H⟩ ρ l:=by
         intro ρ l
         induction l with
         | nil=>rfl
         | cons p l ih=>obtain ⟨c,k⟩:=p;simp only [iT,ih]
        rw [key];exact g1
       have Vs:pF ⟨F',H⟩ h.ho h.ln=some C2:=by
        have key:∀(l:List (Nat×Nat)),pF ⟨F',H⟩ h.ho l=pF ⟨F,H⟩ h.ho l:=by
         intro l
         induction l with
         | nil=>rfl
         | cons p l ih=>obtain ⟨c,k⟩:=p;simp only [pF,ih]
        rw [key];exact g4
       rw [hE]
       simp only
       rw [Vt,g2,g3,Vs]
       simp only
       have em:(xs.toList.map fun x=>rS h.ln (bq ⟨F',H⟩ x))=xs.toList.map fun x=>rS h.ln (bq ⟨F,H⟩ x):=by
        have:=congrArg (List.map (rS h.ln)) eo
        rwa [List.map_map,List.map_map] at this
       rw [em]
       have eB:∀F0,je ⟨F0,H⟩ h.ln Hb=⟨er (iV (fk h.ln)) F0,Hb++ph (a8 ⟨F,H⟩ (fk h.ln)).H (h.ln.map (·.1))⟩:=fun F0=>by
        unfold je
        rw [(iQ (fk h.ln) F0 F H).1,(iQ (fk h.ln) F0 F H).2]
       rw [eB] at h1 ⊢
       split at h1
       ·rename_i s' yZ e9
        cases h1
        have eR:=fun F0=>iQ ((cy d r).2.map (·.1)) F0 (er (iV (fk h.ln)) F) (Hb++ph (a8 ⟨F,H⟩ (fk h.ln)).H (h.ln.map (·.1)))
        rw [yZ,(eR (er (iV (fk h.ln)) F')).1,(eR (er (iV (fk h.ln)) F')).2]
        unfold gG at e9 ⊢
        simp only at e9 ⊢
        split at e9
        ·cases e9
         simp only [lr,lY]
        ·cases e9
       ·cases h1
      ·cases h1
     ·cases h1
    have MR:o.op= .call ⟨.value (.func f),xs,ts⟩:=vq
    rw [←hd] at h2
    exact u_ (s:=⟨F',H⟩) MR h2
   ·cases ea
  ·rename_i x4 r LS Ol Ic
   split at ea
   ·rename_i q C' hb h1
    cases ea
    refine ⟨hg,fun F' hF=>?_⟩
    rw [hd]
    simp only [vD]
    have eo:=ud (H:=H) hF Ic
    have eV:∀(l:List AV),jR ⟨F',H⟩ l=jR ⟨F,H⟩ l:=by
     intro l
     have e0:∀x,jE ⟨F',H⟩ x=jE ⟨F,H⟩ x:=fun x=>rfl
     have eL:∀(m:List AV),oD ⟨F',H⟩ m=oD ⟨F,H⟩ m:=by
      intro m
      induction m with
      | nil=>rfl
      | cons x m ih=>simp only [oD,ih,e0]
     have e1:∀x,view ⟨F',H⟩ x=view ⟨F,H⟩ x:=by
      intro x
      unfold view
      split
      ·rw [eL]
      ·rfl
     induction l with
     | nil=>rfl
     | cons x l ih=>simp only [jR,ih,e1]
    have h2:rA P n ⟨F',H⟩ (some d) (.value (.func f)) xs.toList h=some (⟨(d,(cy d r).1)::cU (er (iV ((cy d r).2.map (·.1))) F') d,q.H⟩,C):=by
     unfold rA at h1 ⊢
     rw [eo]
     simp only [Ol,callee,hb] at h1 ⊢
     rw [eV]
     split at h1
     ·rename_i hE
      split at h1
      ·rename_i vs C2 d0 hv sG Bx
       cases Bx
       split at h1
       ·rename_i s' yZ e9
        cases h1
        have eR:=fun F0=>iQ ((cy d r).2.map (·.1)) F0 F H
        rw [yZ,(eR F').1,(eR F').2]
        unfold gG at e9 ⊢
        simp only at e9 ⊢
        split at e9
        ·cases e9
         simp only [lr]
        ·cases e9
       ·cases h1
      ·rename_i Bx
       cases Bx
      ·cases h1
     ·cases h1
    have MR:o.op= .call ⟨.value (.func f),xs,ts⟩:=vq
    rw [←hd] at h2
    exact wT (s:=⟨F',H⟩) MR h2
   ·cases ea
  ·cases ea
 ·rename_i t x y hg vq hd
  split at ea
  ·rename_i q C' h1 h2 h3 h4
   cases ea
   refine ⟨hg,fun F' hF=>?_⟩
   rw [hd]
   simp only [vD,D_]
   have h5:=BH (F':=F') h3 (mr (H:=H) hF h1) (mr (H:=H) hF h2) h4
   exact sd (s:=⟨F',H⟩) vq hd h5
  ·cases ea
 ·rename_i t len parts d hg vq hd
  split at ea
  ·rename_i h1 h2
   split at ea
   ·rename_i q C' h3
    cases ea
    refine ⟨hg,fun F' hF=>?_⟩
    rw [hd]
    exact Ba (s:=⟨F',H⟩) vq hd (HJ hF h1 h2 h3)
   ·cases ea
  ·cases ea
 ·cases ea
def x8 (P:Program) (ops:List Oper) (n:Nat) (s:AS) (o:Oper) (h:Hint):Option ((AV->AV)×AV×List (Nat×Row)×List Prop) :=
 match o.guard with
 | none=>Ov P n s o h
 | some (j,want)=>(match ops[j]? with
  | some p=>(match p.dst with
   | some d=>(match jS s d,h.g == want,ue s.F (.tmp d),Ov P n s {o with guard:=none} h with
    | .val (.bool b),true,true,some (Tr,X,H',C)=>some (Tr,X,H',(b=h.g)::C)
    | _,_,_,_=>none)
   | none=>none)
  | none=>none)
theorem K9 {P:Program} {ops:List Oper} {n:Nat} {F:List (Nat×AV)} {H H':List (Nat×Row)} {o:Oper} {h:Hint} {Tr:AV->AV} {X:AV} {C:List Prop} (ea:x8 P ops n ⟨F,H⟩ o h=some (Tr,X,H',C)) (hC:bz C) {F':List (Nat×AV)} (hF:∀i x,look F i=some x->look F' i=some x) {S0:bo} {w0 w:World} {a:Act} (hs:iv S0 w0 n ⟨F',H⟩ a w) :
  Region.wanted o (yielded ops.toArray a.tmps)=true∧mc P n ⟨F',H⟩ o ⟨vD o.dst X (er Tr F'),H'⟩ []:=by
 unfold x8 at ea
 split at ea
 ·rename_i hg
  obtain ⟨-,Eo⟩:=IQ ea
  refine ⟨by unfold Region.wanted;rw [hg],fun _=>Eo F' hF hC⟩
 ·rename_i j want hg
  split at ea
  ·rename_i p hp
   split at ea
   ·rename_i d hd
    split at ea
    ·rename_i b QS X' Wi C' uO hw UO he
     cases ea
     obtain ⟨FH,hC⟩:=hC
     obtain ⟨-,Eo⟩:=IQ he
     refine ⟨?_,fun _=>Eo F' hF hC⟩
     obtain ⟨φ,hs⟩:=hs
     have ht:=hs.get d
     have e:jS ⟨F',H⟩ d=jS ⟨F,H⟩ d:=mr (H:=H) hF UO
     rw [e,uO] at ht
     have hy:=mf (ops:=ops) hp hd (qo ht)
     unfold Region.wanted;rw [hg];simp only [hy,FH]
     have:h.g=want:=by simpa using hw
     rw [this];simp
    ·cases ea
   ·cases ea
  ·cases ea
theorem wF {od:Option Nat} {i:Nat} {X:AV} {Tr:AV->AV} {F:List (Nat×AV)} (h:od≠some i):look (vD od X (er Tr F)) i=(look F i).map Tr:=by
 cases od with
 | none=>exact cz _ _ _
 | some d =>
  have cX:d≠i:=fun e=>h (by rw [e])
  simp only [vD]
  rw [aD,if_neg cX,xG cX]
section
variable {P:Program} {ops:List Oper} {S0:bo} {w0:World} {Q:Exit->Act->World->Prop} {n T:Nat} {col col':List AV} {kept:List (Nat×AV)} {H H':List (Nat×Row)} {L:Nat->Bool} {k:Nat} {o:Oper}
theorem vY {h:Hint} {Tr:AV->AV} {X:AV} {C:List Prop} {a:Act} {w:World} (im:(ops.filterMap (·.dst)).Nodup)
  (hk:k<T) (ho:ops[k]?=some o) (FE:∀d∈bm o,L d=true∧d<T) (fy:∀i x,look kept i=some x-> ∀j p,j<T->ops[j]?=some p->p.dst≠some i)
  (ea:x8 P ops n ⟨jn ops col (bm o)++kept,H⟩ o h=some (Tr,X,H',C)) (hC:bz C)
  (vI:∀j z,j<T->j≠k->L j=true->col'[j]?=some z->col[j]?.map Tr=some z∨z= .dead) (PR:col'[k]?=some X)
  (hs:iv S0 w0 n ⟨dR ops col L T++kept,H⟩ a w) :
  if Region.wanted o (yielded ops.toArray a.tmps)=true then o.wp P a w (fun a' w'=>iv S0 w0 n ⟨dR ops col' (eS L k) T++er Tr kept,H'⟩ a' w') Q else iv S0 w0 n ⟨dR ops col' (eS L k) T++er Tr kept,H'⟩ (a.put o.dst undef) w:=by
 have hF:=Al (T:=T) im FE fy (col:=col)
 obtain ⟨hw,ok⟩:=K9 ea hC hF hs
 rw [if_pos hw]
 refine Oper.wp_mono ?_ (ok trivial S0 w0 a w Q hs)
 rintro a' w' ⟨φ,bY⟩
 refine ⟨φ,aJ.sub bY fun i z hz=>?_⟩
 rw [bM] at hz
 cases hl:look (dR ops col' (eS L k) T) i with
 | some z' =>
  rw [hl] at hz
  simp at hz;subst hz
  obtain ⟨j,p,h1,h2,h3,h4,h5⟩:=kK _ _ _ _ _ _ hl
  by_cases vH:j=k
  ·subst vH
   rw [ho] at h3;injection h3 with h3;subst h3
   rw [PR] at h5;injection h5 with h5;subst h5
   left
   rw [h4];simp only [vD];rw [aD,if_pos rfl]
  ·have QJ:L j=true:=by unfold eS at h2;rw [if_neg vH] at h2;exact h2
   have cX:o.dst≠some i:=fun e=>vH (oo (ops:=ops.toArray) (by simpa using im) (by simpa using h3) (by simpa using ho) h4 e)
   rcases vI j z' h1 vH QJ h5 with hc|hc
   ·left
    rw [wF cX,bM]
    cases R5:col[j]? with
    | none=>rw [R5] at hc;cases hc
    | some y' =>
     rw [R5] at hc
     rw [gq im col L T j i p y' h1 QJ h3 h4 R5]
     simpa using hc
   ·exact .inr hc
 | none =>
  rw [hl] at hz
  simp at hz
  rw [cz] at hz
  cases sF:look kept i with
  | none=>rw [sF] at hz;cases hz
  | some y' =>
   rw [sF] at hz
   have cX:o.dst≠some i:=fun e=>fy i y' sF k o hk ho e
   left
   rw [wF cX,bM,jg fun j p hj hp=>fy i y' sF j p hj hp,sF]
   simpa using hz
end
theorem rC (ops:List Oper) (col:List AV) (k:Nat):∀(l:List Nat),(∀d∈l,d<k)->jn ops (col.take k) l=jn ops col l
 | [],_=>rfl
 | d::l,h=>by
  have hd:(col.take k)[d]?=col[d]?:=by rw [List.getElem?_take,if_pos (h d (by simp))]
  simp only [jn,hd,rC ops col k l fun e he=>h e (by simp [he])]
instance:Inhabited nS:=⟨⟨[],[],[]⟩⟩
def nK (P:Program) (n T:Nat) (ops:List Oper) (hs:List (Nat×Hint)) (R:List (List Nat)):List Nat->List Nat->List Nat->Bool->List AV->List (Nat×AV)->List (Nat×Row)->Option (List nS×List Prop)
 | [],done,last,first,old,kept,H=>(match yx P ops hs R done [] last first old kept H (ops.take T) 0 [] with
  | some (col,C)=>some ([⟨col,kept,H⟩],C)
  | none=>none)
 | W::rest,done,last,first,old,kept,H=>(match yx P ops hs R done (W::rest) last first old kept H (ops.take T) 0 [],ops[W]? with
  | some (col,C),some o=>(match x8 P ops n ⟨jn ops col (bm o)++kept,H⟩ o (gw hs W) with
   | some (Tr,x,H',D)=>(match nK P n T ops hs R rest (done++ [W]) [W] false ((col.map Tr).set W x) (er Tr kept) H' with
    | some (l,E)=>some (⟨col,kept,H⟩::l,C++(D++E))
    | none=>none)
   | none=>none)
  | _,_=>none)
def JI (P:Program) (T:Nat) (ops:List Oper) (hs:List (Nat×Hint)) (R:List (List Nat)) (rest done last:List Nat) (first:Bool) (old:List AV) (st:nS):Prop :=
 ∃C,yx P ops hs R done rest last first old st.kept st.H (ops.take T) 0 []=some (st.col,C)∧bz C
theorem vZ {P:Program} {n T:Nat} {ops:List Oper} {hs:List (Nat×Hint)} {R:List (List Nat)}:∀(rest done last:List Nat) (first:Bool) (old:List AV) (kept:List (Nat×AV)) (H:List (Nat×Row)) (l:List nS) (E:List Prop),
  nK P n T ops hs R rest done last first old kept H=some (l,E)->bz E ->
  (l.getD 0 default).kept=kept∧(l.getD 0 default).H=H∧JI P T ops hs R rest done last first old (l.getD 0 default) ∧
  ∀(i W:Nat),rest[i]?=some W-> ∃o Tr x D,ops[W]?=some o∧x8 P ops n ⟨jn ops (l.getD i default).col (bm o)++(l.getD i default).kept,(l.getD i default).H⟩ o (gw hs W)=some (Tr,x,(l.getD (i+1) default).H,D)∧bz D ∧
   (l.getD (i+1) default).kept=er Tr (l.getD i default).kept∧JI P T ops hs R (rest.drop (i+1)) (done++rest.take (i+1)) [W] false (((l.getD i default).col.map Tr).set W x) (l.getD (i+1) default)
 | [],done,last,first,old,kept,H,l,E,he,hE=>by
  simp only [nK] at he
  split at he
  ·rename_i col C hc
   cases he
   exact ⟨rfl,rfl,⟨_,hc,hE⟩,fun i W h=>by simp at h⟩
  ·cases he
 | W::rest,done,last,first,old,kept,H,l,E,he,hE=>by
  simp only [nK] at he
  split at he
  ·rename_i col C o hc ho
   split at he
   ·rename_i Tr x H' D hw
    split at he
    ·rename_i l' E' MQ
     cases he
     obtain ⟨hC,Sn⟩:=bP.1 hE
     obtain ⟨hD,Sm⟩:=bP.1 Sn
     obtain ⟨h1,h2,h3,h4⟩:=vZ rest _ _ _ _ _ _ _ _ MQ Sm
     refine ⟨rfl,rfl,⟨_,hc,hC⟩,fun i W' hi=>?_⟩
     cases i with
     | zero =>
      simp at hi;subst hi
      exact ⟨o,Tr,x,D,ho,by rw [←h2] at hw;exact hw,hD,h1,by simpa using h3⟩
     | succ i =>
      obtain ⟨o',QS,x',D',k1,k2,k3,k4,k5⟩:=h4 i W' (by simpa using hi)
      refine ⟨o',QS,x',D',k1,k2,k3,k4,?_⟩
      have e:done++(W::rest).take (i+1+1)=done++ [W]++rest.take (i+1):=by simp
      rw [e]
      exact k5
    ·cases he
   ·cases he
  ·cases he
def vj (R:List (List Nat)):List Nat->Bool
 | []=>true
 | [_]=>true
 | a::b::l=>match (R.getD b []).any (Nat.beq a) with|true=>vj R (b::l)|false=>false
theorem rE (R:List (List Nat)):∀(l:List Nat),vj R l=true-> ∀(i a b:Nat),l[i]?=some a->l[i+1]?=some b->a∈R.getD b []
 | [],_,i,a,b,h,_=>by simp at h
 | [x],_,i,a,b,h,h2=>by simp at h2
 | x::y::l,hc,i,a,b,h,h2=>by
  simp only [vj] at hc
  split at hc
  ·rename_i hy
   cases i with
   | zero=>simp at h h2;subst h;subst h2;exact any_beq.1 hy
   | succ i=>exact rE R (y::l) hc i a b (by simpa using h) (by simpa using h2)
  ·cases hc
def wW (T:Nat):List Nat->Bool
 | []=>true
 | a::l=>match Nat.blt a T with|true=>wW T l|false=>false
theorem qy (T:Nat):∀(l:List Nat),wW T l=true-> ∀a∈l,a<T
 | [],_,a,h=>by cases h
 | x::l,hc,a,h=>by
  simp only [wW] at hc
  split at hc
  ·rename_i hx
   rcases List.mem_cons.1 h with rfl|h
   ·simpa [Nat.blt_eq] using hx
   ·exact qy T l hc a h
  ·cases hc
def yi (P:Program) (n T:Nat) (Ws:List Nat) (ops:List Oper) (hs:List (Nat×Hint)) (s:AS):Option (AS×List Prop) :=
 match P.follows .mixedOrders,lF ops.toArray n,oF ops.toArray T,vj (mn (ops.take T) []) Ws,wW T Ws,nodupB Ws with
 | true,true,true,true,true,true=>(match nK P n T ops hs (mn (ops.take T) []) Ws [] [] true [] (nB ((ops.take T).filterMap (·.dst)) s.F) s.H with
  | some (l,C)=>(match j6 P n ops hs (ops.drop T) T ⟨jc (ops.take T) (l.getD Ws.length default).col++(l.getD Ws.length default).kept,(l.getD Ws.length default).H⟩ with
   | some (s',D)=>some (s',C++D)
   | none=>none)
  | none=>none)
 | _,_,_,_,_,_=>none
theorem lW:∀ {l:List Nat},l.Nodup-> ∀ {i j x:Nat},l[i]?=some x->l[j]?=some x->i=j
 | [],_,i,j,x,h,_=>by simp at h
 | y::l,hn,i,j,x,h1,h2=>by
  rw [List.nodup_cons] at hn
  cases i with
  | zero =>
   cases j with
   | zero=>rfl
   | succ j =>
    simp at h1 h2;subst h1
    exact absurd (List.mem_of_getElem? h2) hn.1
  | succ i =>
   cases j with
   | zero =>
    simp at h1 h2;subst h2
    exact absurd (List.mem_of_getElem? h1) hn.1
   | succ j=>exact congrArg (· +1) (lW hn.2 (i:=i) (j:=j) (x:=x) (by simpa using h1) (by simpa using h2))
theorem nj (ops:List Oper) (col:List AV) (L:Nat->Bool) (hL:∀k,L k=false):∀T,dR ops col L T= []
 | 0=>rfl
 | k+1=>by simp only [dR,hL k,nj ops col L hL k]
theorem kg {col:List AV} {Tr:AV->AV} {W:Nat} {x:AV} {q:Nat} (hq:q≠W) {z:AV} (h:((col.map Tr).set W x).getD q .dead=z):col[q]?.map Tr=some z∨z= .dead:=by
 rw [List.getD_eq_getElem?_getD,List.getElem?_set_ne (Ne.symm hq),List.getElem?_map] at h
 cases hc:col[q]? with
 | none=>rw [hc] at h;exact .inr h.symm
 | some y=>rw [hc] at h;left;simpa using h
section
variable {P:Program} {ops:List Oper} {S0:bo} {w0:World} {Q:Exit->Act->World->Prop}
theorem CS {n T:Nat} {Ws:List Nat} {hs:List (Nat×Hint)} {s s':AS} {C:List Prop} (he:yi P n T Ws ops hs s=some (s',C)) (hC:bz C) {a:Act} {w:World} (gb:iv S0 w0 n s a w) (hQ:∀a' w',iv S0 w0 n s' a' w'->Q .normal a' w'):P.follows .mixedOrders=true∧wpAny P .any ops.toArray Q ops.toArray.size (Array.replicate ops.toArray.size false) a {w with drawn:=w.drawn+1}:=by
 unfold yi at he
 split at he
 ·rename_i hm hB hT vJ MT KN
  split at he
  ·rename_i l C1 dS
   split at he
   ·rename_i s2 D oN
    cases he
    obtain ⟨iJ,hD⟩:=bP.1 hC
    obtain ⟨s9,im,vr⟩:=fT hB
    have xP:(ops.filterMap (·.dst)).Nodup:=by simpa using im
    unfold oF at hT
    simp only [Bool.and_eq_true,decide_eq_true_eq] at hT
    obtain ⟨⟨⟨Gy,K2⟩,K1⟩,K0⟩:=hT
    have R9:T<ops.length:=by simpa using Gy
    have Cv:∀(k:Nat) (o:Oper),ops[k]?=some o-> ∀d∈bm o,d<k:=fun k o h=>s9 k o (by simpa using h)
    have MV:∀(k:Nat) (o:Oper) (s:Nat),ops[k]?=some o->o.dst=some s->s<n:=fun k o s h=>vr k o s (by simpa using h)
    generalize Sc:mn (ops.take T) []=R at dS vJ
    have hR:tl ops R:=by
     rw [←Sc]
     refine qR ops (ops.take T) [] (fun k o _ L _ _ j hj=>by simp at hj) (fun j o h=>?_) Cv
     simpa using bW _ _ _ _ h
    obtain ⟨xQ,PX,Nb,p9⟩:=vZ _ _ _ _ _ _ _ _ _ dS iJ
    have MT:=qy T Ws MT
    have KN:=iC KN
    generalize MN:(fun i=>l.getD i default)=st at *
    have Qo:∀i,l.getD i default=st i:=fun i=>by rw [←MN]
    simp only [Qo] at xQ PX Nb p9 oN
    have fy:∀i,i≤Ws.length-> ∀(k:Nat) (x:AV),look (st i).kept k=some x-> ∀(j:Nat) (p:Oper),j<T->ops[j]?=some p->p.dst≠some k:=by
     intro i
     induction i with
     | zero =>
      intro _ k x hx j p hj hp
      rw [xQ] at hx
      exact (kq ops T k).1 (fR _ _ _ _ hx).2 j p hj hp
     | succ i ih =>
      intro hi k x hx
      obtain ⟨o,Tr,X,D',-,-,-,k4,-⟩:=p9 i (Ws[i]' aj) (List.getElem?_eq_getElem aj)
      rw [k4,cz] at hx
      cases hl:look (st i).kept k with
      | none=>rw [hl] at hx;cases hx
      | some y=>exact ih aj k y hl
    have vI:∀i,i≤Ws.length-> ∃last first old,JI P T ops hs R (Ws.drop i) (Ws.take i) last first old (st i):=by
     intro i hi
     cases i with
     | zero=>exact ⟨_,_,_,by simpa using Nb⟩
     | succ i =>
      obtain ⟨o,Tr,X,D',-,-,-,-,k5⟩:=p9 i (Ws[i]' aj) (List.getElem?_eq_getElem aj)
      exact ⟨_,_,_,by simpa using k5⟩
    let J:(Nat->Bool)->Act->World->Prop:=fun L a' w'=>∃i,i≤Ws.length∧(∀(j W:Nat),Ws[j]?=some W->(L W=true↔j<i))∧iv S0 w0 n ⟨dR ops (st i).col L T++(st i).kept,(st i).H⟩ a' w'
    obtain ⟨φ,lJ⟩:=gb
    refine ⟨hm,nf (n:=n) Gy K2 K1 K0 hB J ?_ ?_ ops.toArray.size _ a _ ⟨by simp,fun k o hk=>?_⟩ ?_ (fun j _=>by rw [getD_replicate_false]) (by simp)⟩
    ·intro k o L a' w' hk ho AM jd xS Ax ⟨i,hi,hW,gb⟩
     have ra:ops[k]?=some o:=by simpa using ho
     have gm:∀(j:Nat) (p:Oper),L j=true->ops[j]?=some p-> ∀d∈bm p,L d=true:=fun j p hj hp=>xS j p hj (by simpa using hp)
     have pe:∀j∈R.getD k [],L j=true:=hR k o ra L gm jd
     have qa:∀q,L q=true-> ∀j∈R.getD q [],L j=true:=fun q hq j hj=>by
      cases Ib:ops[q]? with
      | some p=>exact hR q p Ib L gm (fun d hd=>gm q p hq Ib d hd) j hj
      | none =>
       exfalso
       have h1:ops.length≤q:=List.getElem?_eq_none_iff.1 Ib
       have:=Ax q aj
       rw [hq] at this;cases this
     have PQ:∀d∈bm o,L d=true∧d<T:=fun d hd=>⟨jd d hd,by have:=Cv k o ra d hd;omega⟩
     have uE:∀i',i≤i'-> ∀q,(∀j∈R.getD q [],L j=true)->hit (R.getD q []) (Ws.drop i')=false:=by
      intro i' jk q hq
      cases hh:hit (R.getD q []) (Ws.drop i') with
      | false=>rfl
      | true =>
       exfalso
       obtain ⟨x,h1,h2⟩:=n_.1 hh
       obtain ⟨j,hj⟩:=List.mem_iff_getElem?.1 h2
       rw [List.getElem?_drop] at hj
       have:=(hW _ x hj).1 (hq x h1)
       omega
     by_cases KP:k∈Ws
     ·obtain ⟨j,hj⟩:=List.mem_iff_getElem?.1 KP
      have MU:j<Ws.length:=(List.getElem?_eq_some_iff.1 hj).1
      have LV:¬j<i:=fun h=>by have:=(hW j k hj).2 h;rw [AM] at this;cases this
      have e:j=i:=by
       rcases Nat.lt_or_ge i j with h|h
       ·obtain ⟨j',rfl⟩:∃j',j=j'+1:=⟨j-1,aj⟩
        have KH:Ws[j']?=some (Ws[j']' aj):=List.getElem?_eq_getElem aj
        have h1:=pe _ (rE R Ws vJ j' _ k KH hj)
        have:=(hW j' _ KH).1 h1
        omega
       ·omega
      subst e
      obtain ⟨o',Tr,x,D',k1,k2,k3,k4,Cc,k5,k6⟩:=p9 j k hj
      rw [ra] at k1;cases k1
      simp only [List.nil_append] at k5
      obtain ⟨c1,c2,c3⟩:=jA _ 0 [] _ _ k5 k6 rfl
      simp only [Nat.zero_add] at c1 c3
      have R_:(ops.take T).length=T:=by rw [List.length_take];omega
      have Of:k ∉ Ws.drop (j+1):=fun hm=>by
       obtain ⟨j2,Bw⟩:=List.mem_iff_getElem?.1 hm
       rw [List.getElem?_drop] at Bw
       have:=lW KN hj Bw
       omega
      have RN:k∈Ws.take (j+1):=List.mem_iff_getElem?.2 ⟨j,by rw [List.getElem?_take,if_pos aj];exact hj⟩
      have hold:((((st j).col.map Tr).set k x).getD k .dead)=x:=by
       obtain ⟨last,first,old,Cd,FG,K3⟩:=vI j hi
       obtain ⟨d1,-,-⟩:=jA _ 0 [] _ _ FG K3 rfl
       rw [Nat.zero_add,R_] at d1
       rw [List.getD_eq_getElem?_getD,List.getElem?_set_self (by rw [List.length_map];omega)];rfl
      have iW:=vY (P:=P) (S0:=S0) (w0:=w0) (Q:=Q) (n:=n) (T:=T) (col':=(st (j+1)).col) (L:=L) (a:=a') (w:=w') xP hk ra PQ (fy j hi) k2 k3 (by
       intro q z hq Pp Si hz
       have Ib:(ops.take T)[q]?=some (ops[q]' aj):=by rw [List.getElem?_take,if_pos hq];exact List.getElem?_eq_getElem aj
       obtain ⟨x',D2,e1,e2,e3⟩:=c3 q _ Ib
       rw [e1] at hz;injection hz with hz;subst hz
       unfold qu at e3
       split at e3
       ·split at e3
        ·split at e3
         ·rename_i xx CC ea
          split at e3
          ·cases e3
           exact kg Pp e2.1
          ·rename_i gh
           exfalso
           cases hh:hit (R.getD q []) [k] with
           | false=>exact gh rfl hh
           | true =>
            obtain ⟨y,h1,h2⟩:=n_.1 hh
            have:y=k:=by simpa using h2
            subst this
            have:=qa q Si y h1
            rw [AM] at this;cases this
         ·cases e3
        ·cases e3
         exact kg Pp rfl
       ·cases e3
        exact .inr rfl) (by
       have Eo:(ops.take T)[k]?=some o:=by rw [List.getElem?_take,if_pos hk];exact ra
       obtain ⟨x',D2,e1,e2,e3⟩:=c3 k _ Eo
       rw [e1]
       unfold qu at e3
       have r1:(Ws.drop (j+1)).any (Nat.beq k)=false:=by
        cases hh:(Ws.drop (j+1)).any (Nat.beq k) with
        | false=>rfl
        | true=>exact absurd (any_beq.1 hh) Of
       have r2:=uE (j+1) aj k pe
       have r3:(Ws.take (j+1)).any (Nat.beq k)=true:=any_beq.2 RN
       rw [r1,r2,r3] at e3
       simp only at e3
       injection e3 with e3;injection e3 with e3 _
       rw [←e3,hold]) gb
      have fin:∀rL fw,iv S0 w0 n ⟨dR ops (st (j+1)).col (eS L k) T++er Tr (st j).kept,(st (j+1)).H⟩ rL fw->J (eS L k) rL fw:=by
       intro rL fw h
       refine ⟨j+1,aj,fun j2 W2 h2=>?_,by rw [k4];exact h⟩
       by_cases e:W2=k
       ·subst e
        have:=lW KN hj h2
        unfold eS;rw [if_pos rfl];simp;omega
       ·unfold eS;rw [if_neg e,hW j2 W2 h2]
        have:j2≠j:=fun e2=>by subst e2;rw [hj] at h2;cases h2;exact e rfl
        omega
      split
      ·rename_i hw
       rw [if_pos hw] at iW
       exact Oper.wp_mono fin iW
      ·rename_i hw
       rw [if_neg hw] at iW
       exact fin _ _ iW
     ·obtain ⟨last,first,old,Cc,k5,k6⟩:=vI i hi
      obtain ⟨c1,c2,c3⟩:=jA _ 0 [] _ _ k5 k6 rfl
      simp only [Nat.zero_add] at c1 c3
      have Eo:(ops.take T)[k]?=some o:=by rw [List.getElem?_take,if_pos hk];exact ra
      obtain ⟨x',D2,e1,e2,e3⟩:=c3 k _ Eo
      unfold qu at e3
      have r1:(Ws.drop i).any (Nat.beq k)=false:=by
       cases hh:(Ws.drop i).any (Nat.beq k) with
       | false=>rfl
       | true=>exact absurd (List.mem_of_mem_drop (any_beq.1 hh)) KP
      have r2:=uE i (Nat.le_refl _) k pe
      have r3:(Ws.take i).any (Nat.beq k)=false:=by
       cases hh:(Ws.take i).any (Nat.beq k) with
       | false=>rfl
       | true=>exact absurd (List.mem_of_mem_take (any_beq.1 hh)) KP
      have r4:(Ws.take i).any (fun W=>(R.getD W []).any (Nat.beq k))=false:=by
       cases hh:(Ws.take i).any (fun W=>(R.getD W []).any (Nat.beq k)) with
       | false=>rfl
       | true =>
        exfalso
        obtain ⟨W,h1,h2⟩:=List.any_eq_true.1 hh
        obtain ⟨j,hj⟩:=List.mem_iff_getElem?.1 h1
        rw [List.getElem?_take] at hj
        split at hj
        ·rename_i LV
         have:=qa W ((hW j W hj).2 LV) k (any_beq.1 h2)
         rw [AM] at this;cases this
        ·cases hj
      rw [r1,r2,r3,r4] at e3
      simp only at e3
      have ea:∃C',sL P ops ⟨jn ops ((st i).col.take k) (bm o)++(st i).kept,(st i).H⟩ o (gw hs k)=some (x',C')∧bz C':=by
       split at e3
       ·rename_i xx CC ea
        split at e3
        ·cases e3;exact ⟨_,ea,e2.2⟩
        ·cases e3;exact ⟨_,ea,e2⟩
       ·cases e3
      obtain ⟨C',ea,PZ⟩:=ea
      rw [rC ops _ k _ (Cv k o ra)] at ea
      have iW:=tJ (P:=P) (S0:=S0) (w0:=w0) (Q:=Q) (n:=n) (T:=T) (L:=L) (a:=a') (w:=w') xP MV hk ra PQ (fy i hi) ea PZ e1 gb
      have fin:∀rL fw,iv S0 w0 n ⟨dR ops (st i).col (eS L k) T++(st i).kept,(st i).H⟩ rL fw->J (eS L k) rL fw:=by
       intro rL fw h
       refine ⟨i,hi,fun j2 W2 h2=>?_,h⟩
       have e:W2≠k:=fun e=>by subst e;exact KP (List.mem_of_getElem? h2)
       unfold eS;rw [if_neg e];exact hW j2 W2 h2
      split
      ·rename_i hw
       rw [if_pos hw] at iW
       exact Oper.wp_mono fin iW
      ·rename_i hw
       rw [if_neg hw] at iW
       exact fin _ _ iW
    ·intro L a' w' gj Ax ⟨i,hi,hW,cE,gb⟩
     have e:i=Ws.length:=by
      rcases Nat.lt_or_ge i Ws.length with h|h
      ·have KH:Ws[i]?=some (Ws[i]'h):=List.getElem?_eq_getElem h
       have:=(hW i _ KH).1 (gj _ (MT _ (List.getElem_mem h)))
       omega
      ·omega
     subst e
     have kf:=jO (S0:=S0) (w0:=w0) (Q:=Q) _ _ _ _ _ oN hD a' w' ⟨cE,aJ.sub gb fun i x hx=>.inl ?_⟩ hQ
     ·simpa using kf
     ·rw [bM] at hx ⊢
      cases hh:look (jc (ops.take T) (st Ws.length).col) i with
      | some y =>
       rw [hh] at hx
       simp at hx;subst hx
       obtain ⟨k,o,h1,h2,h3⟩:=kM _ _ _ _ hh
       have vG:k<T:=by have:=(List.getElem?_eq_some_iff.1 h1).1;rw [List.length_take] at this;omega
       rw [gq xP _ L T k i o y vG (gj k vG) (bW _ _ _ _ h1) h2 h3];rfl
      | none =>
       rw [hh] at hx
       simp at hx
       rw [jg fun j p hj hp=>fy _ (Nat.le_refl _) i x hx j p hj hp]
       simpa using hx
    ·rw [getD_replicate_false] at hk;cases hk
    ·refine ⟨0,aj,fun j W _=>by show (Array.replicate ops.toArray.size false).getD W false=true↔_;rw [getD_replicate_false];simp,φ,?_⟩
     rw [nj _ _ _ (fun k=>getD_replicate_false _ _)]
     have hg:aJ S0 w0 n [] s a w.drew φ:=lJ.grow ((Below.refl _ _).drew)
     rw [PX,xQ]
     exact aJ.sub (F:=s.F) hg fun i x hx=>.inl (fR _ _ _ _ (by simpa using hx)).1
   ·cases he
  ·cases he
 ·cases he
def rq (P:Program) (n T:Nat) (Ws:List Nat) (hs:List (Nat×Hint)) (c:Code) (s:AS):Option (AS×List Prop) :=
 match c with
 | .region _ ⟨l⟩ true=>yi P n T Ws l hs s
 | _=>none
theorem bf.OL {n:Nat} {c:Code} {Q:Exit->AS->Prop} {s s':AS} {C:List Prop} (T:Nat) (Ws:List Nat) (hs:List (Nat×Hint)) (he:rq P n T Ws hs c s=some (s',C)) (hC:bz C) (h:Q .normal s'):bf P n c Q s:=by
 intro S0 w0 a w gb
 unfold rq at he
 split at he
 ·exact CS (S0:=S0) (w0:=w0) he hC gb fun a' w' bY=>⟨s',h,bY.one⟩
 ·cases he
theorem bf.SQ {n:Nat} {c:Code} {Q:Exit->AS->Prop} {s:AS} {C:List Prop} (T:Nat) (Ks:List Nat) (hs:List (Nat×Hint)) (he:oX (rq P n T Ks hs c s)=some C) (hC:bz C) (h:Q .normal (pN (rq P n T Ks hs c s))):bf P n c Q s:=bf.OL T Ks hs (iR he) hC h
end
end Go.Proofs.YtjgbhhnghedgdaaGreatDoor
