import Derived.Test.YtjgbhhnghedgdaaGreatDoorZmRH
set_option linter.all false
namespace Go.Proofs.YtjgbhhnghedgdaaGreatDoor
open Go.RowKit
def eQ (L:Nat->Bool) (k:Nat):Nat->Bool:=fun j=>if j=k then true else L j
structure Rv (ops:Array Oper) (listed:Array Bool):Prop where
 size:listed.size=ops.size
 closed:∀k o,listed.getD k false=true->ops[k]?=some o-> ∀d∈bl o,listed.getD d false=true
section
variable {P:Program} {ops:Array Oper} {Q:Exit->Act->World->Prop}
theorem nr {n T:Nat} (hT:T<ops.size) (Kq:Region.sinkB .any ops T=true) (wj:Region.chainB .any ops T=true) (PM:Region.seqB .any ops (ops.size-T) T ((List.range ops.size).map (decide<| · <T)).toArray=true) (hB:lK ops n=true) (J:(Nat->Bool)->Act->World->Prop)
  (vL:∀k o (L:Nat->Bool) a' w',k<T->ops[k]?=some o->L k=false->(∀d∈bl o,L d=true)->(∀j p,L j=true->ops[j]?=some p-> ∀d∈bl p,L d=true)->(∀j,T≤j->L j=false)->J L a' w' ->
   (if Region.wanted o (yielded ops a'.tmps)=true then o.wp P a' w' (fun r5 fy=>J (eQ L k) r5 fy) Q else J (eQ L k) (a'.put o.dst undef) w'))
  (kk:∀(L:Nat->Bool) a' w',(∀k,k<T->L k=true)->(∀j,T≤j->L j=false)->J L a' w'->wpList P ops Q (ops.toList.drop T) a' w') :
  ∀(fuel:Nat) (listed:Array Bool) (a':Act) (w':World),Rv ops listed->J (fun k=>listed.getD k false) a' w'->(∀j,T≤j->listed.getD j false=false) ->
   (listed.toList.filter (· == false)).length=fuel->wpAny P .any ops Q fuel listed a' w':=by
 obtain ⟨dk,ir,vN⟩:=f_ hB
 have kE:∀(listed:Array Bool),Rv ops listed-> ∀k,k<T->listed.getD k false=false-> ∃i,i<T∧i∈Region.ready .any ops listed:=by
  intro listed I k
  induction k using Nat.strongRecOn with
  | _ k ih =>
   intro hk hl
   have iH:k<listed.size:=by rw [I.size];omega
   have pB:k<ops.size:=ah
   have oK:ops[k]?=some ops[k]:=Array.getElem?_eq_getElem pB
   by_cases fY:∀d∈bl ops[k],listed.getD d false=true
   ·refine ⟨k,hk,?_⟩
    rw [mem_ready]
    refine ⟨?_,ops[k],oK,fun e he hb=>fY e.on ?_⟩
    ·simp [iH] at hl ⊢;exact hl
    ·unfold bl
     exact List.mem_map.2 ⟨e,List.mem_filter.2 ⟨by simpa using he,hb⟩,rfl⟩
   ·have:∃d,d∈bl ops[k]∧listed.getD d false=false:=by
     refine Classical.byContradiction fun fM=>fY fun d hd=>?_
     cases hx:listed.getD d false with
     | true=>rfl
     | false=>exact absurd ⟨d,hd,hx⟩ fM
    obtain ⟨d,hd,hx⟩:=this
    exact ih d (dk k _ oK d hd) (by have:=dk k _ oK d hd;omega) hx
 have rest:∀(fuel:Nat) (listed:Array Bool) (a':Act) (w':World),Rv ops listed->J (fun k=>listed.getD k false) a' w'->(∀j,T≤j->listed.getD j false=false)->(listed.toList.filter (· == false)).length=fuel->(∀k,k<T->listed.getD k false=true)->wpAny P .any ops Q fuel listed a' w':=by
  intro fuel listed a' w' I hJ tail hc all
  have nP:listed=((List.range ops.size).map (decide<| · <T)).toArray:=by
   apply Array.ext_getElem?
   intro x
   by_cases hx:x<ops.size
   ·have G8:x<listed.size:=by rw [I.size];exact hx
    have hr:((List.range ops.size).map (decide<| · <T)).toArray[x]?=some (decide (x<T)):=by simp [hx]
    rw [hr]
    by_cases Bk:x<T
    ·have:=all x Bk;simp [G8] at this ⊢;rw [this,decide_eq_true Bk]
    ·have:=tail x ah;simp [G8] at this ⊢;rw [this,decide_eq_false Bk]
   ·rw [Array.getElem?_eq_none (by rw [I.size];omega),Array.getElem?_eq_none (by simp;omega)]
  have hlen:fuel=(ops.toList.drop T).length:=by
   rw [←hc,nP]
   simp only [List.length_drop,Array.length_toList,List.filter_map,List.length_map]
   have key:∀n,T≤n->((List.range n).filter ((fun x=>x == false) ∘ (decide<| · <T))).length=n-T:=by
    intro n hn
    induction n with
    | zero=>simp
    | succ n ih =>
     rw [List.range_succ,List.filter_append,List.length_append]
     by_cases P5:T≤n
     ·rw [ih P5]
      have:((fun x=>x == false) ∘ (decide<| · <T)) n=true:=by simp;omega
      rw [List.filter_cons_of_pos this];simp;omega
     ·obtain rfl:T=n+1:=ah
      have h1:(List.range n).filter ((fun x=>x == false) ∘ (decide<| · <n+1))= []:=by
       rw [List.filter_eq_nil_iff];intro x hx;have:=List.mem_range.1 hx;simp;omega
      have h2:[n].filter ((fun x=>x == false) ∘ (decide<| · <n+1))= []:=by
       rw [List.filter_eq_nil_iff];intro x hx;simp at hx;subst hx;simp
      rw [h1,h2];simp
   exact key ops.size ah
  rw [hlen]
  refine wpAny_of_seq (ops.toList.drop T) T listed a' w' (fun j=>by rw [List.getElem?_drop];simp) ?_ (kk _ a' w' all tail hJ)
  rw [nP]
  simpa using PM
 intro fuel
 induction fuel with
 | zero =>
  intro listed a' w' I hJ tail hc
  refine rest 0 listed a' w' I hJ tail hc fun k hk=>?_
  cases hx:listed.getD k false with
  | true=>rfl
  | false =>
   exfalso
   have iH:k<listed.size:=by rw [I.size];omega
   have:false∈listed.toList.filter (· == false):=by
    refine List.mem_filter.2 ⟨?_,rfl⟩
    have h1:listed.toList[k]?=some false:=by simp [iH] at hx ⊢;exact hx
    exact List.mem_of_getElem? h1
   have:=List.length_pos_of_mem this
   omega
 | succ fuel ih =>
  intro listed a' w' I hJ tail hc
  by_cases hex:∀k,k<T->listed.getD k false=true
  ·exact rest (fuel+1) listed a' w' I hJ tail hc hex
  have PH:∃k,k<T∧listed.getD k false=false:=by
   refine Classical.byContradiction fun fM=>hex fun k hk=>?_
   cases hx:listed.getD k false with
   | true=>rfl
   | false=>exact absurd ⟨k,hk,hx⟩ fM
  obtain ⟨k0,yz,IC⟩:=PH
  have Qr:HeadInv .any ops T listed:=⟨I.size,fun j oj hj hl e he hb=>I.closed j oj hl hj e.on (by
    unfold bl
    exact List.mem_map.2 ⟨e,List.mem_filter.2 ⟨by simpa using he,hb⟩,rfl⟩),fun t ht PL=>getD_in (by rw [I.size];exact PL) (tail t ht)⟩
  have I3:listed.getD k0 true=false:=getD_in (by rw [I.size];omega) IC
  refine ⟨fun hr=>(by
   obtain ⟨i,_,hi⟩:=kE listed I k0 yz IC
   rw [hr] at hi;cases hi),fun i hi=>?_⟩
  have Qb:i<T:=Classical.byContradiction fun h=>tail_waits Kq wj hT Qr _ k0 rfl yz I3 i ah hi
  obtain ⟨h0,o,ho,fY⟩:=mem_ready.1 hi
  have I4:i<listed.size:=by rw [I.size];exact (Array.getElem?_eq_some_iff.1 ho).1
  have O6:listed.getD i false=false:=by simp [I4] at h0 ⊢;exact h0
  have jc:∀d∈bl o,listed.getD d false=true:=by
   intro d hd
   unfold bl at hd
   obtain ⟨e,he,rfl⟩:=List.mem_map.1 hd
   obtain ⟨My,Lt⟩:=List.mem_filter.1 he
   exact fY e (by simpa using My) Lt
  have next:Rv ops (listed.setIfInBounds i true):=by
   refine ⟨by simpa using I.size,fun k p hk hp d hd=>?_⟩
   by_cases sW:i=k
   ·subst sW
    rw [ho] at hp;injection hp with hp;subst hp
    exact getD_set_true (jc d hd)
   ·rw [getD_set_ne false sW] at hk
    exact getD_set_true (I.closed k p hk hp d hd)
  have ez:(fun k=>(listed.setIfInBounds i true).getD k false)=eQ (fun k=>listed.getD k false) i:=by
   funext k
   unfold eQ
   by_cases sW:k=i
   ·subst sW;rw [if_pos rfl];simp [I4]
   ·rw [if_neg sW,getD_set_ne false (Ne.symm sW)]
  have nL:∀j,T≤j->(listed.setIfInBounds i true).getD j false=false:=fun j hj=>by rw [getD_set_ne false ah];exact tail j hj
  have nO:((listed.setIfInBounds i true).toList.filter (· == false)).length=fuel:=by
   have P8:((listed.setIfInBounds i true).toList.filter (· == false)).length+1=(listed.toList.filter (· == false)).length:=by
    rw [Array.toList_setIfInBounds]
    have ji:listed.toList[i]?=some false:=by simp [I4] at h0 ⊢;exact h0
    exact pJ _ i ji
   omega
  have iP:=vL i o (fun k=>listed.getD k false) a' w' Qb ho O6 jc (fun j p hj hp d hd=>I.closed j p hj hp d hd) tail hJ
  rw [←ez] at iP
  unfold wpOp
  rw [ho]
  simp only
  by_cases hw:Region.wanted o (yielded ops a'.tmps)=true
  ·rw [if_pos hw] at iP ⊢
   left
   exact Oper.wp_mono (fun r5 fy h=>ih _ _ _ next h nL nO) iP
  ·rw [if_neg hw] at iP ⊢
   exact ih _ _ _ next iP nL nO
end
def dQ (ops:List Oper) (col:List AV) (L:Nat->Bool):Nat->List (Nat×AV)
 | 0=>[]
 | k+1=>match L k,ops[k]?,col[k]? with
  | true,some o,some x=>(match o.dst with|some i=>(i,x)::dQ ops col L k|none=>dQ ops col L k)
  | _,_,_=>dQ ops col L k
theorem kL (ops:List Oper) (col:List AV) (L:Nat->Bool):∀(T i:Nat) (x:AV),look (dQ ops col L T) i=some x-> ∃k o,k<T∧L k=true∧ops[k]?=some o∧o.dst=some i∧col[k]?=some x
 | 0,i,x,h=>by cases h
 | k+1,i,x,h=>by
  have step:look (dQ ops col L k) i=some x-> ∃k' o,k'<k+1∧L k'=true∧ops[k']?=some o∧o.dst=some i∧col[k']?=some x:=fun h=>by
   obtain ⟨k',o,h1,h2⟩:=kL ops col L k i x h
   exact ⟨k',o,ah,h2⟩
  simp only [dQ] at h
  split at h
  ·rename_i o y hL ho hy
   split at h
   ·rename_i j hj
    rw [aF] at h
    by_cases e:j=i
    ·rw [if_pos e] at h;injection h with h;subst h;subst e
     exact ⟨k,o,ah,hL,ho,hj,hy⟩
    ·rw [if_neg e] at h;exact step h
   ·exact step h
  ·exact step h
theorem gy {ops:List Oper} (ir:(ops.filterMap (·.dst)).Nodup) (col:List AV) (L:Nat->Bool):∀(T k i:Nat) (o:Oper) (x:AV),k<T->L k=true->ops[k]?=some o->o.dst=some i->col[k]?=some x->look (dQ ops col L T) i=some x
 | 0,k,i,o,x,h,_,_,_,_=>by omega
 | m+1,k,i,o,x,hk,hL,ho,hd,hx=>by
  by_cases Rd:k=m
  ·subst Rd
   simp only [dQ,hL,ho,hx,hd,aF,if_pos]
  ·have ih:=gy ir col L m k i o x ah hL ho hd hx
   simp only [dQ]
   split
   ·rename_i p y _ hp _
    split
    ·rename_i j hj
     rw [aF]
     have cW:j≠i:=fun e=>by
      subst e
      exact Rd (oz (ops:=ops.toArray) (by simpa using ir) (by simpa using ho) (by simpa using hp) hd hj)
     rw [if_neg cW];exact ih
    ·exact ih
   ·exact ih
theorem jf {ops:List Oper} {col:List AV} {L:Nat->Bool} {T i:Nat} (h:∀k o,k<T->ops[k]?=some o->o.dst≠some i):look (dQ ops col L T) i=none:=by
 cases hl:look (dQ ops col L T) i with
 | none=>rfl
 | some x =>
  obtain ⟨k,o,h1,-,h3,h4,-⟩:=kL ops col L T i x hl
  exact absurd h4 (h k o h1 h3)
theorem aO.sub {S0:bn} {w0 w:World} {n:Nat} {O:List Nat} {F F':List (Nat×AV)} {H:List (Nat×Row)} {a:Act} {φ:Nat->Option Nat} (h:aO S0 w0 n O ⟨F,H⟩ a w φ) (hF:∀i x,look F' i=some x->look F i=some x∨x= .dead):aO S0 w0 n O ⟨F',H⟩ a w φ:=by
 refine ⟨h.jS,h.jV,h.cZ,fun i x hx=>?_,h.rows,h.only,h.inj,h.cY,h.apart,h.new⟩
 rcases hF i x hx with h1|h1
 ·exact h.cC i x h1
 ·rw [h1];exact .dead _
section
variable {P:Program} {ops:List Oper} {S0:bn} {w0:World} {Q:Exit->Act->World->Prop} {n T:Nat} {col:List AV} {kept:List (Nat×AV)} {H:List (Nat×Row)} {L:Nat->Bool} {k:Nat} {o:Oper}
theorem A_ (ir:(ops.filterMap (·.dst)).Nodup) (Gk:∀d∈bl o,L d=true∧d<T) (fz:∀i x,look kept i=some x-> ∀j p,j<T->ops[j]?=some p->p.dst≠some i) (i:Nat) (x:AV) (h:look (jo ops col (bl o)++kept) i=some x):look (dQ ops col L T++kept) i=some x:=by
 rw [bQ] at h ⊢
 cases hd:look (jo ops col (bl o)) i with
 | some y =>
  rw [hd] at h
  simp at h;subst h
  obtain ⟨d,p,h1,h2,h3,h4⟩:=oh _ _ _ _ _ hd
  rw [gy ir col L T d i p y (Gk d h1).2 (Gk d h1).1 h2 h3 h4];rfl
 | none =>
  rw [hd] at h
  simp at h
  rw [jf fun j p hj hp=>fz i x h j p hj hp]
  simpa using h
theorem tX {h:Hint} {x:AV} {C:List Prop} {a:Act} {w:World} (ir:(ops.filterMap (·.dst)).Nodup) (vN:∀(k:Nat) (o:Oper) (s:Nat),ops[k]?=some o->o.dst=some s->s<n)
  (hk:k<T) (ho:ops[k]?=some o) (Gk:∀d∈bl o,L d=true∧d<T) (fz:∀i x,look kept i=some x-> ∀j p,j<T->ops[j]?=some p->p.dst≠some i)
  (ea:s6 P ops ⟨jo ops col (bl o)++kept,H⟩ o h=some (x,C)) (hC:bz C) (hx:col[k]?=some x) (hs:ix S0 w0 n ⟨dQ ops col L T++kept,H⟩ a w) :
  if Region.wanted o (yielded ops.toArray a.tmps)=true then o.wp P a w (fun a' w'=>ix S0 w0 n ⟨dQ ops col (eQ L k) T++kept,H⟩ a' w') Q else ix S0 w0 n ⟨dQ ops col (eQ L k) T++kept,H⟩ (a.put o.dst undef) w:=by
 obtain ⟨φ,hs⟩:=hs
 have C_:=hs.sub (F':=jo ops col (bl o)++kept) (fun i y hy=>.inl (A_ ir Gk fz i y hy))
 have iP:=Fj (Q:=Q) ea hC C_ (b:=a) rfl
 have fin:∀v w',Below w.heap.size w w'->Den (az H φ) (aQ S0 w' φ []) w' v x->ix S0 w0 n ⟨dQ ops col (eQ L k) T++kept,H⟩ (a.put o.dst v) w':=by
  intro v w' hb hd
  have hg:=hs.grow hb
  refine ⟨φ,(tR ..).trans hg.jS,(pH ..).trans hg.jV,hg.cZ,fun i y hy=>?_,hg.rows,hg.only,hg.inj,hg.cY,hg.apart,hg.new⟩
  have hy:look (dQ ops col (eQ L k) T++kept) i=some y:=hy
  have same:o.dst≠some i->(a.put o.dst v).tmps.getD i undef=a.tmps.getD i undef:=fun cW=>by
   cases T9:o.dst with
   | none=>rfl
   | some j =>
    have dk:j<a.tmps.size:=by rw [hg.jS];exact vN k o j ho T9
    rw [qa a j i v dk,if_neg (fun e=>cW (by rw [T9,e]))]
  rw [bQ] at hy
  cases hl:look (dQ ops col (eQ L k) T) i with
  | some z =>
   rw [hl] at hy
   simp at hy;subst hy
   obtain ⟨j,p,h1,h2,h3,h4,h5⟩:=kL _ _ _ _ _ _ hl
   by_cases wh:j=k
   ·subst wh
    rw [ho] at h3;injection h3 with h3;subst h3
    rw [hx] at h5;injection h5 with h5;subst h5
    have dk:i<a.tmps.size:=by rw [hg.jS];exact vN j o i ho h4
    rw [h4,qa a i i v dk,if_pos rfl]
    exact hd
   ·have Rj:L j=true:=by unfold eQ at h2;rw [if_neg wh] at h2;exact h2
    have cW:o.dst≠some i:=fun e=>wh (oz (ops:=ops.toArray) (by simpa using ir) (by simpa using h3) (by simpa using ho) h4 e)
    rw [same cW]
    refine hg.cC i z ?_
    show look (dQ ops col L T++kept) i=some z
    rw [bQ,gy ir col L T j i p z h1 Rj h3 h4 h5];rfl
  | none =>
   rw [hl] at hy
   simp at hy
   have cW:o.dst≠some i:=fz i y hy k o hk ho
   rw [same cW]
   refine hg.cC i y ?_
   show look (dQ ops col L T++kept) i=some y
   rw [bQ,jf fun j p hj hp=>fz i y hy j p hj hp]
   simpa using hy
 unfold gS at iP
 split
 ·rename_i hw
  rw [if_pos hw] at iP
  exact Oper.wp_mono (fun a' w' ⟨v,h1,h2,h3,h4⟩=>by subst h1;exact fin v w' h2 h4) iP
 ·rename_i hw
  rw [if_neg hw] at iP
  exact fin undef w (Below.refl _ _) iP.2
end
def J8 (d:Nat):AV->AV->AV
 | .ref id,x=>jO d (jO id x)
 | .pre id _,x=>jO d (jO id x)
 | _,x=>jO d x
def QQ (d:Nat) (X:AV) (F:List (Nat×AV)):List (Nat×AV):=(d,.ref d)::cP (d_ (J8 d X) F) d
theorem l4 {α:Type} (f g:α->α):∀(l:List (Nat×α)),d_ f (d_ g l)=d_ (fun x=>f (g x)) l
 | []=>rfl
 | (k,x)::l=>by simp only [d_,l4 f g l]
theorem HA (P:Program) (F F':List (Nat×AV)) (H:List (Nat×Row)) (xt:TypeId) (z:Nat) (x:AV):qY P ⟨F',H⟩ xt z x=qY P ⟨F,H⟩ xt z x:=by
 cases x<;>rfl
theorem J7 {P:Program} {n:Nat} {F F':List (Nat×AV)} {H:List (Nat×Row)} {d t xt:Nat} {X Y:AV} {h:Hint} {q:AS} {C:List Prop} (he:kV P n ⟨F,H⟩ d t xt X Y h=some (q,C)):kV P n ⟨F',H⟩ d t xt X Y h=some (⟨QQ d X F',q.H⟩,C):=by
 unfold kV at he ⊢
 split at he
 ·rename_i el hu
  split at he
  ·rename_i i hi
   split at he
   ·rename_i zero z b hz dw yG
    split at he
    ·rename_i cells s1 row uP lI gB
     split at he
     ·rename_i C' s' oY ez
      cases he
      have Qi:∃OE,qC ⟨F',H⟩ (z+1) X=some (cells,OE)∧OE.H=s1.H∧d_ (jO d) OE.F=d_ (J8 d X) F':=by
       unfold qC at lI ⊢
       split at lI
       ·cases lI;exact ⟨_,rfl,rfl,rfl⟩
       ·split at lI
        ·rename_i e' _ Om hl
         split at lI
         ·rename_i hb
          cases lI
          refine ⟨cp _ ⟨F',H⟩,?_,rfl,?_⟩
          ·have rC:look (⟨F',H⟩:AS).H _=_:=hl
           simp only [rC,hb]
          ·exact l4 _ _ _
         ·cases lI
        ·cases lI
       ·split at lI
        ·rename_i e' _ Om hl
         split at lI
         ·rename_i hb
          cases lI
          refine ⟨cp _ ⟨F',H⟩,?_,rfl,?_⟩
          ·have rC:look (⟨F',H⟩:AS).H _=_:=hl
           simp only [rC,hb]
          ·exact l4 _ _ _
         ·cases lI
        ·cases lI
       ·split at lI
        ·rename_i hb
         cases lI
         exact ⟨⟨F',H⟩,rfl,rfl,rfl⟩
        ·cases lI
       ·cases lI
      obtain ⟨OE,Hd,z8,Vw⟩:=Qi
      rw [HA P F F'] at *
      simp only [uP,Hd,gB,oY]
      unfold gr at ez ⊢
      simp only at ez ⊢
      split at ez
      ·cases ez
       have e1:(cp d OE).H=(cp d s1).H:=by unfold cp;rw [z8]
       have e2:(cp d OE).F=d_ (J8 d X) F':=Vw
       simp only [lx,e1,e2,QQ]
      ·cases ez
     ·cases he
    ·cases he
   ·cases he
  ·cases he
 ·cases he
section
variable {P:Program} {ops:List Oper} {S0:bn} {w0:World} {Q:Exit->Act->World->Prop} {n T:Nat} {col col':List AV} {kept:List (Nat×AV)} {H H':List (Nat×Row)} {L:Nat->Bool} {k:Nat} {o:Oper}
theorem yn {f:AV->AV} {F:List (Nat×AV)} {d i:Nat} (h:d≠i):look (cP (d_ f F) d) i=(look F i).map f:=by rw [bJ,if_neg h,cy]
def uy (F:List (Nat×AV)):Operand->Bool
 | .tmp i=>(look F i).isSome
 | _=>true
theorem mC {F F':List (Nat×AV)} (hF:∀i x,look F i=some x->look F' i=some x) {y:Operand} (h:uy F y=true):bp ⟨F',H⟩ y=bp ⟨F,H⟩ y:=by
 cases y with
 | tmp i =>
  have h:(look F i).isSome=true:=h
  cases hl:look F i with
  | none=>rw [hl] at h;cases h
  | some x =>
   show jU _ i=jU _ i
   unfold jU
   rw [show look (⟨F',H⟩:AS).F i=some x from hF i x hl,show look (⟨F,H⟩:AS).F i=some x from hl]
 | _=>rfl
end
def Pj:List Nat->List Nat->List Nat
 | [],m=>m
 | x::l,m=>match m.any (Nat.beq x) with|true=>Pj l m|false=>Pj l (x::m)
theorem yi:∀(l m:List Nat) (x:Nat),x∈Pj l m->x∈l∨x∈m
 | [],m,x,h=>.inr h
 | y::l,m,x,h=>by
  simp only [Pj] at h
  split at h
  ·rcases yi l m x h with h|h
   ·exact .inl (by simp [h])
   ·exact .inr h
  ·rcases yi l (y::m) x h with h|h
   ·exact .inl (by simp [h])
   ·rcases List.mem_cons.1 h with h|h
    ·exact .inl (by simp [h])
    ·exact .inr h
def nu (R:List (List Nat)):List Nat->List Nat
 | []=>[]
 | d::l=>Pj (d::R.getD d []) (nu R l)
theorem uE (R:List (List Nat)):∀(l:List Nat) (x:Nat),x∈nu R l-> ∃d∈l,x=d∨x∈R.getD d []
 | [],x,h=>by simp [nu] at h
 | d::l,x,h=>by
  rcases yi _ _ x h with h|h
  ·exact ⟨d,by simp,List.mem_cons.1 h⟩
  ·obtain ⟨e,h1,h2⟩:=uE R l x h
   exact ⟨e,by simp [h1],h2⟩
def mA:List Oper->List (List Nat)->List (List Nat)
 | [],R=>R
 | o::l,R=>mA l (R++ [nu R (bl o)])
def tD (ops:List Oper) (R:List (List Nat)):Prop:=∀(k:Nat) (o:Oper),ops[k]?=some o-> ∀(L:Nat->Bool),(∀j p,L j=true->ops[j]?=some p-> ∀d∈bl p,L d=true)->(∀d∈bl o,L d=true)-> ∀j∈R.getD k [],L j=true
theorem ra (ops:List Oper):∀(l:List Oper) (R:List (List Nat)),tD ops R->(∀j o,l[j]?=some o->ops[R.length+j]?=some o)->(∀(k:Nat) (o:Oper),ops[k]?=some o-> ∀d∈bl o,d<k)->tD ops (mA l R)
 | [],R,h,_,_=>h
 | o::l,R,h,hl,dk=>by
  refine ra ops l _ ?_ (fun j p hp=>?_) dk
  ·intro k p hp L hc hd j hj
   by_cases hk:k<R.length
   ·have:(R++ [nu R (bl o)]).getD k []=R.getD k []:=by
     rw [List.getD_eq_getElem?_getD,List.getD_eq_getElem?_getD,List.getElem?_append_left hk]
    rw [this] at hj
    exact h k p hp L hc hd j hj
   ·by_cases pB:k=R.length
    ·subst pB
     have e:(R++ [nu R (bl o)]).getD R.length []=nu R (bl o):=by
      rw [List.getD_eq_getElem?_getD,List.getElem?_append_right (Nat.le_refl _)];simp
     rw [e] at hj
     have ho:ops[R.length]?=some o:=by have:=hl 0 o rfl;simpa using this
     rw [ho] at hp;injection hp with hp;subst hp
     obtain ⟨d,h1,h2⟩:=uE R _ j hj
     rcases h2 with h2|h2
     ·subst h2;exact hd j h1
     ·cases Ra:ops[d]? with
      | none =>
       exfalso
       have:=dk R.length o ho d h1
       have h3:=(List.getElem?_eq_some_iff.1 ho).1
       rw [List.getElem?_eq_getElem ah] at Ra;cases Ra
      | some q=>exact h d q Ra L hc (fun d' Gl=>hc d q (hd d h1) Ra d' Gl) j h2
    ·have e:(R++ [nu R (bl o)]).getD k []= []:=by
      rw [List.getD_eq_getElem?_getD,List.getElem?_eq_none (by simp;omega)];rfl
     rw [e] at hj;cases hj
  ·rw [List.length_append]
   have:=hl (j+1) p (by simpa using hp)
   simp only [List.length_cons,List.length_nil]
   rwa [show R.length+(j+1)=R.length+(0+1)+j by omega] at this
def hit (l m:List Nat):Bool:=l.any fun x=>m.any (Nat.beq x)
theorem any_beq {m:List Nat} {x:Nat}:m.any (Nat.beq x)=true↔x∈m:=by
 rw [List.any_eq_true]
 exact ⟨fun ⟨y,h1,h2⟩=>by rw [Nat.eq_of_beq_eq_true h2];exact h1,fun h=>⟨x,h,Nat.beq_refl x⟩⟩
theorem om {l m:List Nat}:hit l m=true↔ ∃x,x∈l∧x∈m:=by
 unfold hit
 rw [List.any_eq_true]
 exact ⟨fun ⟨x,h1,h2⟩=>⟨x,h1,any_beq.1 h2⟩,fun ⟨x,h1,h2⟩=>⟨x,h1,any_beq.2 h2⟩⟩
structure n0 where
 col:List AV
 kept:List (Nat×AV)
 H:List (Nat×Row)
def qJ (P:Program) (ops:List Oper) (hs:List (Nat×Hint)) (R:List (List Nat)) (done rest last:List Nat) (first:Bool) (old:List AV) (kept:List (Nat×AV)) (H:List (Nat×Row)) (o:Oper) (k:Nat) (col:List AV):Option (AV×List Prop) :=
 match rest.any (Nat.beq k),hit (R.getD k []) rest with
 | false,false=>(match done.any (Nat.beq k),done.any (fun W=>(R.getD W []).any (Nat.beq k)) with
  | false,false=>(match s6 P ops ⟨jo ops col (bl o)++kept,H⟩ o (gC hs k) with
   | some (x,C)=>(match first,hit (R.getD k []) last with
    | false,false=>some (x,(old.getD k .dead=x)::C)
    | _,_=>some (x,C))
   | none=>none)
  | _,_=>some (old.getD k .dead,[]))
 | _,_=>some (.dead,[])
def zx (P:Program) (ops:List Oper) (hs:List (Nat×Hint)) (R:List (List Nat)) (done rest last:List Nat) (first:Bool) (old:List AV) (kept:List (Nat×AV)) (H:List (Nat×Row)):List Oper->Nat->List AV->Option (List AV×List Prop)
 | [],_,col=>some (col,[])
 | o::l,k,col=>match qJ P ops hs R done rest last first old kept H o k col with
  | some (x,C)=>(match zx P ops hs R done rest last first old kept H l (k+1) (col++ [x]) with|some (col',D)=>some (col',C++D)|none=>none)
  | none=>none
theorem jC {P:Program} {ops:List Oper} {hs:List (Nat×Hint)} {R:List (List Nat)} {done rest last:List Nat} {first:Bool} {old:List AV} {kept:List (Nat×AV)} {H:List (Nat×Row)}:∀(l:List Oper) (i:Nat) (col col':List AV) (C:List Prop),zx P ops hs R done rest last first old kept H l i col=some (col',C)->bz C->col.length=i ->
  col'.length=i+l.length∧col'.take i=col∧ ∀(j:Nat) (o:Oper),l[j]?=some o-> ∃x D,col'[i+j]?=some x∧bz D∧qJ P ops hs R done rest last first old kept H o (i+j) (col'.take (i+j))=some (x,D)
 | [],i,col,col',C,he,hC,hl=>by
  cases he
  exact ⟨by simp [hl],by rw [←hl,List.take_length],fun j o h=>by simp at h⟩
 | o::l,i,col,col',C,he,hC,hl=>by
  simp only [zx] at he
  split at he
  ·rename_i x C1 h1
   split at he
   ·rename_i Wb D h2
    cases he
    obtain ⟨iJ,hD⟩:=bT.1 hC
    obtain ⟨e1,e2,e3⟩:=jC l (i+1) (col++ [x]) col' D h2 hD (by simp [hl])
    have e4:col'.take i=col:=by
     have:=congrArg (List.take i) e2
     rw [List.take_take,Nat.min_eq_left ah,←hl,List.take_left] at this
     rw [←hl];exact this
    have e5:col'[i]?=some x:=by
     have h3:(col'.take (i+1))[i]?=some x:=by rw [e2,List.getElem?_append_right ah,hl];simp
     exact bZ _ _ _ _ h3
    refine ⟨by rw [e1,List.length_cons];omega,e4,fun j p hp=>?_⟩
    cases j with
    | zero =>
     simp at hp;subst hp
     exact ⟨x,C1,by simpa using e5,iJ,by simp only [Nat.add_zero];rw [e4];exact h1⟩
    | succ j =>
     obtain ⟨y,D',h5,h6,h7⟩:=e3 j p (by simpa using hp)
     rw [show i+1+j=i+(j+1) by omega] at h5 h7
     exact ⟨y,D',h5,h6,h7⟩
   ·cases he
  ·cases he
def im:List Nat->AV->AV
 | [],x=>x
 | i::l,x=>im l (jO i x)
theorem iR:∀(l:List Nat) (F F':List (Nat×AV)) (H:List (Nat×Row)),(a6 ⟨F,H⟩ l).F=d_ (im l) F∧(a6 ⟨F,H⟩ l).H=(a6 ⟨F',H⟩ l).H
 | [],F,F',H=>⟨by
   show F=d_ (fun x=>x) F
   induction F with
   | nil=>rfl
   | cons p F ih=>obtain ⟨k,x⟩:=p;simp only [d_,←ih],rfl⟩
 | i::l,F,F',H=>by
  obtain ⟨h1,h2⟩:=iR l (d_ (jO i) F) (d_ (jO i) F') (d_ (cK i) (cP H i))
  refine ⟨?_,h2⟩
  show (a6 ⟨d_ (jO i) F,d_ (cK i) (cP H i)⟩ l).F=_
  rw [h1,l4];rfl
def nE (F:List (Nat×AV)):List Operand->Bool
 | []=>true
 | x::l=>match uy F x with|true=>nE F l|false=>false
def o9 (s:AS) (x y:Operand):Bool :=
 match bp s x with
 | .addr id _=>(match look s.H id with
  | some r=>(match r.pure,oI (bp s y) with
   | false,_=>true
   | true,[]=>true
   | _,_=>false)
  | none=>false)
 | _=>false
def O8 (P:Program) (n:Nat) (s:AS) (o:Oper) (h:Hint):Option ((AV->AV)×AV×List (Nat×Row)×List Prop) :=
 match o.guard,o.op,o.dst with
 | none,.call ⟨.builtin .append,⟨[x,y]⟩,⟨[t,xt]⟩⟩,some d=>(match uy s.F x,uy s.F y,kV P n s d t xt (bp s x) (bp s y) h with
  | true,true,some (q,C)=>some (J8 d (bp s x),.ref d,q.H,C)
  | _,_,_=>none)
 | none,.alloc t,some d=>(match ow P n s d t h with
  | some (q,C)=>some (jO d,.addr d 0,q.H,C)
  | none=>none)
 | none,.call ⟨.value (.func f),xs,_⟩,some d=>(match h.ln,h.av,nE s.F xs.toList,((xs.toList.map (bp s)).flatMap oI).filter fun i=> !(A9 i (h.ln.map (·.1))) with
  | _::_,some r,true,[]=>(match ov P n s (some d) (.value (.func f)) xs.toList h with
   | some (q,C)=>some (fun x=>im ((bO d r).2.map (·.1)) (im (fo h.ln) x),(bO d r).1,q.H,C)
   | none=>none)
  | [],some r,true,I=>(match h.b || I.isEmpty,rQ P n s (some d) (.value (.func f)) xs.toList h with
   | true,some (q,C)=>some (im ((bO d r).2.map (·.1)),(bO d r).1,q.H,C)
   | _,_=>none)
  | _,_,_,_=>none)
 | none,.store t x y,none=>(match uy s.F x,uy s.F y,o9 s x y,kS P s t x y h with
  | true,true,true,some (q,C)=>some (fun x=>x,.dead,q.H,C)
  | _,_,_,_=>none)
 | none,.buildSlice t len ⟨parts⟩,some d=>(match nE s.F (parts.map (·.2)),parts.flatMap (fun p=>oI (bp s p.2)) with
  | true,[]=>(match vm P n s d t len parts h with
   | some (q,C)=>some (jO d,.ref d,q.H,C)
   | none=>none)
  | _,_=>none)
 | _,_,_=>none
def v_ (d:Option Nat) (X:AV) (F:List (Nat×AV)):List (Nat×AV):=match d with|some d=>(d,X)::cP F d|none=>F
theorem EM:∀(F:List (Nat×AV)),d_ (fun x=>x) F=F
 | []=>rfl
 | (k,x)::F=>by simp only [d_,EM F]
theorem Ct {P:Program} {F F':List (Nat×AV)} {H:List (Nat×Row)} {t:TypeId} {x y:Operand} {h:Hint} {q:AS} {C:List Prop} (dC:o9 ⟨F,H⟩ x y=true) (ex:bp ⟨F',H⟩ x=bp ⟨F,H⟩ x) (ey:bp ⟨F',H⟩ y=bp ⟨F,H⟩ y) (he:kS P ⟨F,H⟩ t x y h=some (q,C)):kS P ⟨F',H⟩ t x y h=some (⟨F',q.H⟩,C):=by
 unfold kS at he ⊢
 unfold o9 at dC
 rw [ex,ey]
 split at dC
 ·rename_i id off hx
  split at dC
  ·rename_i r hr
   have hr:look H id=some r:=hr
   cases hz:eC P t with
   | none=>simp only [hx,hr,hz] at he;cases he
   | some z =>
    simp only [hx,hr,hz] at he ⊢
    split at dC
    ·rename_i hp
     rw [hp] at he ⊢
     simp only at he ⊢
     split at he
     ·rename_i l hl
      split at he
      ·rename_i h1 h2
       cases he
       rfl
      ·cases he
     ·cases he
    ·rename_i hp hi
     rw [hp,hi] at he ⊢
     simp only [fT,hr,hx,ex,ey] at he ⊢
     split at he
     ·rename_i r1 l pw CS PT hl hid
      cases PT;cases hid
      split at he
      ·rename_i h1 h2 h3 h4
       cases he
       rfl
      ·cases he
     ·cases he
    ·cases dC
  ·cases dC
 ·cases dC
theorem ux {F F':List (Nat×AV)} {H:List (Nat×Row)} (hF:∀i x,look F i=some x->look F' i=some x):∀ {l:List Operand},nE F l=true->l.map (bp ⟨F',H⟩)=l.map (bp ⟨F,H⟩)
 | [],_=>rfl
 | x::l,h=>by
  simp only [nE] at h
  split at h
  ·rename_i hx
   rw [List.map_cons,List.map_cons,mC (H:=H) hF hx,ux hF h]
  ·cases h
theorem mH {F F':List (Nat×AV)} {H:List (Nat×Row)} {z:Nat} (hF:∀i x,look F i=some x->look F' i=some x):∀(l:List (Nat×Operand)) (i:Nat),nE F (l.map (·.2))=true->gg ⟨F',H⟩ z i l=gg ⟨F,H⟩ z i l∧l.flatMap (fun p=>oI (bp ⟨F',H⟩ p.2))=l.flatMap (fun p=>oI (bp ⟨F,H⟩ p.2))
 | [],_,_=>⟨rfl,rfl⟩
 | (j,x)::l,i,h=>by
  simp only [List.map_cons,nE] at h
  split at h
  ·rename_i hx
   obtain ⟨h1,h2⟩:=mH (H:=H) (z:=z) hF l (i+1) h
   have ex:=mC (H:=H) hF hx
   refine ⟨?_,?_⟩
   ·simp only [gg,ex,h1]
   ·simp only [List.flatMap_cons,ex,h2]
  ·cases h
theorem Ik {P:Program} {n d t len:Nat} {F F':List (Nat×AV)} {H:List (Nat×Row)} {l:List (Nat×Operand)} {h:Hint} {q:AS} {C:List Prop} (hF:∀i x,look F i=some x->look F' i=some x) (ho:nE F (l.map (·.2))=true) (hi:l.flatMap (fun p=>oI (bp ⟨F,H⟩ p.2))= []) (he:vm P n ⟨F,H⟩ d t len l h=some (q,C)) :
  vm P n ⟨F',H⟩ d t len l h=some (⟨(d,.ref d)::cP (d_ (jO d) F') d,q.H⟩,C):=by
 have hc:∀z,gg ⟨F',H⟩ z 0 l=gg ⟨F,H⟩ z 0 l:=fun z=>(mH hF l 0 ho).1
 have ji:=(mH (z:=0) (H:=H) hF l 0 ho).2
 rw [hi] at ji
 unfold vm at he ⊢
 rw [hi] at he
 rw [ji]
 simp only [fT] at he ⊢
 split at he
 ·rename_i el hu
  split at he
  ·rename_i z zero s1 hz hzero gV
   cases gV
   try simp only [hz,hzero,hc]
   split at he
   ·rename_i cells h1 h2 h3
    try simp only [h1,h2,h3]
    split at he
    ·rename_i h4
     try simp only [h4]
     split at he
     ·rename_i row NP
      try simp only [NP]
      split at he
      ·rename_i s' hp b7
       cases he
       unfold gr at b7 ⊢
       try simp only [hp] at b7 ⊢
       split at b7
       ·cases b7
        rfl
       ·cases b7
      ·cases he
     ·rename_i NP
      split at he
      ·rename_i s' hp b7
       cases he
       unfold gr at b7 ⊢
       try simp only [hp] at b7 ⊢
       split at b7
       ·cases b7
        rfl
       ·cases b7
      ·cases he
    ·cases he
   ·cases he
  ·cases he
 ·cases he
theorem Jq {P:Program} {n:Nat} {F:List (Nat×AV)} {H H':List (Nat×Row)} {o:Oper} {h:Hint} {Tr:AV->AV} {X:AV} {C:List Prop} (ea:O8 P n ⟨F,H⟩ o h=some (Tr,X,H',C)) :
  o.guard=none∧ ∀F',(∀i x,look F i=some x->look F' i=some x)->mi P n ⟨F',H⟩ o ⟨v_ o.dst X (d_ Tr F'),H'⟩ C:=by
 unfold O8 at ea
 split at ea
 ·rename_i x y t xt d hg vL hd
  split at ea
  ·rename_i q C' h1 h2 h3
   cases ea
   refine ⟨hg,fun F' hF=>?_⟩
   rw [hd]
   simp only [v_]
   have Qh:=J7 (F':=F') h3
   have ex:=mC (H:=H) hF h1
   have ey:=mC (H:=H) hF h2
   rw [←ey,←ex] at Qh
   have:=sF (n:=n) (s:=⟨F',H⟩) vL hd Qh
   rw [ex] at this
   exact this
  ·cases ea
 ·rename_i t d hg vL hd
  split at ea
  ·rename_i q C' h1
   cases ea
   refine ⟨hg,fun F' hF=>?_⟩
   rw [hd]
   simp only [v_]
   have h2:ow P n ⟨F',H⟩ d t h=some (⟨(d,.addr d 0)::cP (d_ (jO d) F') d,q.H⟩,C):=by
    unfold ow at h1 ⊢
    split at h1
    ·split at h1
     ·split at h1
      ·rename_i s' b7
       cases h1
       unfold gr at b7 ⊢
       simp only at b7 ⊢
       split at b7
       ·cases b7;rfl
       ·cases b7
      ·cases h1
     ·split at h1
      ·rename_i s' b7
       cases h1
       unfold gr at b7 ⊢
       simp only at b7 ⊢
       split at b7
       ·cases b7;rfl
       ·cases b7
      ·cases h1
    ·cases h1
   exact vr (s:=⟨F',H⟩) vL hd h2
  ·cases ea
 ·rename_i f xs ts d hg vL hd
  split at ea
  ·rename_i p l r Ll NP IU Lp
   split at ea
   ·rename_i q C' h1
    cases ea
    refine ⟨hg,fun F' hF=>?_⟩
    rw [hd]
    simp only [v_]
    have eo:=ux (H:=H) hF IU
    have h2:ov P n ⟨F',H⟩ (some d) (.value (.func f)) xs.toList h=some (⟨(d,(bO d r).1)::cP (d_ (fun x=>im ((bO d r).2.map (·.1)) (im (fo h.ln) x)) F') d,q.H⟩,C):=by
     unfold ov at h1 ⊢
     rw [eo]
     simp only [NP,callee] at h1 ⊢
     rw [Lp] at h1 ⊢
     simp only [fT] at h1 ⊢
     split at h1
     ·rename_i s1 hE gV
      cases gV
      split at h1
      ·rename_i Hl Hb C2 g1 g2 g3 g4
       have V7:iU ⟨F',H⟩ h.ln h.ln=some Hl:=by
        have key:∀(ρ l:List (Nat×Nat)),iU ⟨F',H⟩ ρ l=iU ⟨F,H⟩ ρ l:=by
         intro ρ l
         induction l with
         | nil=>rfl
         | cons p l ih=>obtain ⟨c,k⟩:=p;simp only [iU,ih]
        rw [key];exact g1
       have V6:pS ⟨F',H⟩ h.ho h.ln=some C2:=by
        have key:∀(l:List (Nat×Nat)),pS ⟨F',H⟩ h.ho l=pS ⟨F,H⟩ h.ho l:=by
         intro l
         induction l with
         | nil=>rfl
         | cons p l ih=>obtain ⟨c,k⟩:=p;simp only [pS,ih]
        rw [key];exact g4
       rw [hE]
       simp only
       rw [V7,g2,g3,V6]
       simp only
       have em:(xs.toList.map fun x=>se h.ln (bp ⟨F',H⟩ x))=xs.toList.map fun x=>se h.ln (bp ⟨F,H⟩ x):=by
        have:=congrArg (List.map (se h.ln)) eo
        rwa [List.map_map,List.map_map] at this
       rw [em]
       have eB:∀F0,jd ⟨F0,H⟩ h.ln Hb=⟨d_ (im (fo h.ln)) F0,Hb++pE (a6 ⟨F,H⟩ (fo h.ln)).H (h.ln.map (·.1))⟩:=fun F0=>by
        unfold jd
        rw [(iR (fo h.ln) F0 F H).1,(iR (fo h.ln) F0 F H).2]
       rw [eB] at h1 ⊢
       split at h1
       ·rename_i s' xf ez
        cases h1
        have eR:=fun F0=>iR ((bO d r).2.map (·.1)) F0 (d_ (im (fo h.ln)) F) (Hb++pE (a6 ⟨F,H⟩ (fo h.ln)).H (h.ln.map (·.1)))
        rw [xf,(eR (d_ (im (fo h.ln)) F')).1,(eR (d_ (im (fo h.ln)) F')).2]
        unfold gr at ez ⊢
        simp only at ez ⊢
        split at ez
        ·cases ez
         simp only [lx,l4]
        ·cases ez
       ·cases h1
      ·cases h1
     ·cases h1
    have Nu:o.op= .call ⟨.value (.func f),xs,ts⟩:=vL
    rw [←hd] at h2
    exact vq (s:=⟨F',H⟩) Nu h2
   ·cases ea
  ·rename_i x4 r Ll NP IU
   split at ea
   ·rename_i q C' hb h1
    cases ea
    refine ⟨hg,fun F' hF=>?_⟩
    rw [hd]
    simp only [v_]
    have eo:=ux (H:=H) hF IU
    have eV:∀(l:List AV),jT ⟨F',H⟩ l=jT ⟨F,H⟩ l:=by
     intro l
     have e0:∀x,jG ⟨F',H⟩ x=jG ⟨F,H⟩ x:=fun x=>rfl
     have eL:∀(m:List AV),oO ⟨F',H⟩ m=oO ⟨F,H⟩ m:=by
      intro m
      induction m with
      | nil=>rfl
      | cons x m ih=>simp only [oO,ih,e0]
     have e1:∀x,view ⟨F',H⟩ x=view ⟨F,H⟩ x:=by
      intro x
      unfold view
      split
      ·rw [eL]
      ·rfl
     induction l with
     | nil=>rfl
     | cons x l ih=>simp only [jT,ih,e1]
    have eI:h.b=false->(xs.toList.map (bp ⟨F,H⟩)).flatMap oI= []:=fun e=>by
     rw [e,Ll] at hb
     have h0:((xs.toList.map (bp ⟨F,H⟩)).flatMap oI).isEmpty=true:=by
      have e9:∀l:List Nat,l.filter (fun i=> !(A9 i (([]:List (Nat×Nat)).map (·.1))))=l:=fun l=>List.filter_eq_self.2 fun _ _=>rfl
      rw [e9] at hb
      exact hb
     exact List.isEmpty_iff.1 h0
    have h2:rQ P n ⟨F',H⟩ (some d) (.value (.func f)) xs.toList h=some (⟨(d,(bO d r).1)::cP (d_ (im ((bO d r).2.map (·.1))) F') d,q.H⟩,C):=by
     have eP:∀(F0:List (Nat×AV)) (s':AS),gr n ⟨(a6 ⟨F,H⟩ ((bO d r).2.map (·.1))).F,(bO d r).2++(a6 ⟨F,H⟩ ((bO d r).2.map (·.1))).H⟩ (some d) (bO d r).1=some s'->gr n ⟨(a6 ⟨F',H⟩ ((bO d r).2.map (·.1))).F,(bO d r).2++(a6 ⟨F',H⟩ ((bO d r).2.map (·.1))).H⟩ (some d) (bO d r).1=some ⟨(d,(bO d r).1)::cP (d_ (im ((bO d r).2.map (·.1))) F') d,s'.H⟩:=fun F0 s' ez=>by
      have eR:=fun F0=>iR ((bO d r).2.map (·.1)) F0 F H
      rw [(eR F').1,(eR F').2]
      unfold gr at ez ⊢
      simp only at ez ⊢
      split at ez
      ·cases ez
       simp only [lx]
      ·cases ez
     unfold rQ at h1 ⊢
     rw [eo]
     cases rE:h.b with
     | true =>
      simp only [NP,callee,rE] at h1 ⊢
      rw [eV]
      split at h1
      ·rename_i hE
       split at h1
       ·rename_i vs C2 d0 hv tp xh
        cases xh
        split at h1
        ·rename_i s' xf ez
         cases h1
         rw [xf,eP F _ ez]
        ·cases h1
       ·rename_i xh
        cases xh
       ·cases h1
      ·cases h1
     | false =>
      simp only [NP,callee,rE,eI rE,fT] at h1 ⊢
      split at h1
      ·rename_i hE
       split at h1
       ·rename_i d0 wa xh
        cases xh
        split at h1
        ·rename_i s' xf ez
         cases h1
         rw [eo,wa]
         simp only
         rw [xf,eP F _ ez]
        ·cases h1
       ·rename_i xh
        cases xh
       ·cases h1
      ·cases h1
    have Nu:o.op= .call ⟨.value (.func f),xs,ts⟩:=vL
    rw [←hd] at h2
    exact xr (s:=⟨F',H⟩) Nu h2
   ·cases ea
  ·cases ea
 ·rename_i t x y hg vL hd
  split at ea
  ·rename_i q C' h1 h2 h3 h4
   cases ea
   refine ⟨hg,fun F' hF=>?_⟩
   rw [hd]
   simp only [v_,EM]
   have h5:=Ct (F':=F') h3 (mC (H:=H) hF h1) (mC (H:=H) hF h2) h4
   exact sy (s:=⟨F',H⟩) vL hd h5
  ·cases ea
 ·rename_i t len parts d hg vL hd
  split at ea
  ·rename_i h1 h2
   split at ea
   ·rename_i q C' h3
    cases ea
    refine ⟨hg,fun F' hF=>?_⟩
    rw [hd]
    exact BV (s:=⟨F',H⟩) vL hd (Ik hF h1 h2 h3)
   ·cases ea
  ·cases ea
 ·cases ea
def y7 (P:Program) (ops:List Oper) (n:Nat) (s:AS) (o:Oper) (h:Hint):Option ((AV->AV)×AV×List (Nat×Row)×List Prop) :=
 match o.guard with
 | none=>O8 P n s o h
 | some (j,want)=>(match ops[j]? with
  | some p=>(match p.dst with
   | some d=>(match jU s d,h.g == want,uy s.F (.tmp d),O8 P n s {o with guard:=none} h with
    | .val (.bool b),true,true,some (Tr,X,H',C)=>some (Tr,X,H',(b=h.g)::C)
    | _,_,_,_=>none)
   | none=>none)
  | none=>none)
theorem LK {P:Program} {ops:List Oper} {n:Nat} {F:List (Nat×AV)} {H H':List (Nat×Row)} {o:Oper} {h:Hint} {Tr:AV->AV} {X:AV} {C:List Prop} (ea:y7 P ops n ⟨F,H⟩ o h=some (Tr,X,H',C)) (hC:bz C) {F':List (Nat×AV)} (hF:∀i x,look F i=some x->look F' i=some x) {S0:bn} {w0 w:World} {a:Act} (hs:ix S0 w0 n ⟨F',H⟩ a w) :
  Region.wanted o (yielded ops.toArray a.tmps)=true∧mi P n ⟨F',H⟩ o ⟨v_ o.dst X (d_ Tr F'),H'⟩ []:=by
 unfold y7 at ea
 split at ea
 ·rename_i hg
  obtain ⟨-,E0⟩:=Jq ea
  refine ⟨by unfold Region.wanted;rw [hg],fun _=>E0 F' hF hC⟩
 ·rename_i j want hg
  split at ea
  ·rename_i p hp
   split at ea
   ·rename_i d hd
    split at ea
    ·rename_i b Ru X' W1 C' rE hw Vt he
     cases ea
     obtain ⟨Gn,hC⟩:=hC
     obtain ⟨-,E0⟩:=Jq he
     refine ⟨?_,fun _=>E0 F' hF hC⟩
     obtain ⟨φ,hs⟩:=hs
     have ht:=hs.get d
     have e:jU ⟨F',H⟩ d=jU ⟨F,H⟩ d:=mC (H:=H) hF Vt
     rw [e,rE] at ht
     have hy:=mn (ops:=ops) hp hd (qE ht)
     unfold Region.wanted;rw [hg];simp only [hy,Gn]
     have:h.g=want:=by simpa using hw
     rw [this];simp
    ·cases ea
   ·cases ea
  ·cases ea
theorem xb {od:Option Nat} {i:Nat} {X:AV} {Tr:AV->AV} {F:List (Nat×AV)} (h:od≠some i):look (v_ od X (d_ Tr F)) i=(look F i).map Tr:=by
 cases od with
 | none=>exact cy _ _ _
 | some d =>
  have cW:d≠i:=fun e=>h (by rw [e])
  simp only [v_]
  rw [aF,if_neg cW,yn cW]
section
variable {P:Program} {ops:List Oper} {S0:bn} {w0:World} {Q:Exit->Act->World->Prop} {n T:Nat} {col col':List AV} {kept:List (Nat×AV)} {H H':List (Nat×Row)} {L:Nat->Bool} {k:Nat} {o:Oper}
theorem wM {h:Hint} {Tr:AV->AV} {X:AV} {C:List Prop} {a:Act} {w:World} (ir:(ops.filterMap (·.dst)).Nodup)
  (hk:k<T) (ho:ops[k]?=some o) (Gk:∀d∈bl o,L d=true∧d<T) (fz:∀i x,look kept i=some x-> ∀j p,j<T->ops[j]?=some p->p.dst≠some i)
  (ea:y7 P ops n ⟨jo ops col (bl o)++kept,H⟩ o h=some (Tr,X,H',C)) (hC:bz C)
  (wi:∀j z,j<T->j≠k->L j=true->col'[j]?=some z->col[j]?.map Tr=some z∨z= .dead) (Qm:col'[k]?=some X)
  (hs:ix S0 w0 n ⟨dQ ops col L T++kept,H⟩ a w) :
  if Region.wanted o (yielded ops.toArray a.tmps)=true then o.wp P a w (fun a' w'=>ix S0 w0 n ⟨dQ ops col' (eQ L k) T++d_ Tr kept,H'⟩ a' w') Q else ix S0 w0 n ⟨dQ ops col' (eQ L k) T++d_ Tr kept,H'⟩ (a.put o.dst undef) w:=by
 have hF:=A_ (T:=T) ir Gk fz (col:=col)
 obtain ⟨hw,ok⟩:=LK ea hC hF hs
 rw [if_pos hw]
 refine Oper.wp_mono ?_ (ok trivial S0 w0 a w Q hs)
 rintro a' w' ⟨φ,b7⟩
 refine ⟨φ,aO.sub b7 fun i z hz=>?_⟩
 rw [bQ] at hz
 cases hl:look (dQ ops col' (eQ L k) T) i with
 | some z' =>
  rw [hl] at hz
  simp at hz;subst hz
  obtain ⟨j,p,h1,h2,h3,h4,h5⟩:=kL _ _ _ _ _ _ hl
  by_cases wh:j=k
  ·subst wh
   rw [ho] at h3;injection h3 with h3;subst h3
   rw [Qm] at h5;injection h5 with h5;subst h5
   left
   rw [h4];simp only [v_];rw [aF,if_pos rfl]
  ·have Rj:L j=true:=by unfold eQ at h2;rw [if_neg wh] at h2;exact h2
   have cW:o.dst≠some i:=fun e=>wh (oz (ops:=ops.toArray) (by simpa using ir) (by simpa using h3) (by simpa using ho) h4 e)
   rcases wi j z' h1 wh Rj h5 with hc|hc
   ·left
    rw [xb cW,bQ]
    cases SH:col[j]? with
    | none=>rw [SH] at hc;cases hc
    | some y' =>
     rw [SH] at hc
     rw [gy ir col L T j i p y' h1 Rj h3 h4 SH]
     simpa using hc
   ·exact .inr hc
 | none =>
  rw [hl] at hz
  simp at hz
  rw [cy] at hz
  cases sW:look kept i with
  | none=>rw [sW] at hz;cases hz
  | some y' =>
   rw [sW] at hz
   have cW:o.dst≠some i:=fun e=>fz i y' sW k o hk ho e
   left
   rw [xb cW,bQ,jf fun j p hj hp=>fz i y' sW j p hj hp,sW]
   simpa using hz
end
theorem rS (ops:List Oper) (col:List AV) (k:Nat):∀(l:List Nat),(∀d∈l,d<k)->jo ops (col.take k) l=jo ops col l
 | [],_=>rfl
 | d::l,h=>by
  have hd:(col.take k)[d]?=col[d]?:=by rw [List.getElem?_take,if_pos (h d (by simp))]
  simp only [jo,hd,rS ops col k l fun e he=>h e (by simp [he])]
instance:Inhabited n0:=⟨⟨[],[],[]⟩⟩
def nS (P:Program) (n T:Nat) (ops:List Oper) (hs:List (Nat×Hint)) (R:List (List Nat)):List Nat->List Nat->List Nat->Bool->List AV->List (Nat×AV)->List (Nat×Row)->Option (List n0×List Prop)
 | [],done,last,first,old,kept,H=>(match zx P ops hs R done [] last first old kept H (ops.take T) 0 [] with
  | some (col,C)=>some ([⟨col,kept,H⟩],C)
  | none=>none)
 | W::rest,done,last,first,old,kept,H=>(match zx P ops hs R done (W::rest) last first old kept H (ops.take T) 0 [],ops[W]? with
  | some (col,C),some o=>(match y7 P ops n ⟨jo ops col (bl o)++kept,H⟩ o (gC hs W) with
   | some (Tr,x,H',D)=>(match nS P n T ops hs R rest (done++ [W]) [W] false ((col.map Tr).set W x) (d_ Tr kept) H' with
    | some (l,E)=>some (⟨col,kept,H⟩::l,C++(D++E))
    | none=>none)
   | none=>none)
  | _,_=>none)
def Kg (P:Program) (T:Nat) (ops:List Oper) (hs:List (Nat×Hint)) (R:List (List Nat)) (rest done last:List Nat) (first:Bool) (old:List AV) (st:n0):Prop :=
 ∃C,zx P ops hs R done rest last first old st.kept st.H (ops.take T) 0 []=some (st.col,C)∧bz C
theorem wN {P:Program} {n T:Nat} {ops:List Oper} {hs:List (Nat×Hint)} {R:List (List Nat)}:∀(rest done last:List Nat) (first:Bool) (old:List AV) (kept:List (Nat×AV)) (H:List (Nat×Row)) (l:List n0) (E:List Prop),
  nS P n T ops hs R rest done last first old kept H=some (l,E)->bz E ->
  (l.getD 0 default).kept=kept∧(l.getD 0 default).H=H∧Kg P T ops hs R rest done last first old (l.getD 0 default) ∧
  ∀(i W:Nat),rest[i]?=some W-> ∃o Tr x D,ops[W]?=some o∧y7 P ops n ⟨jo ops (l.getD i default).col (bl o)++(l.getD i default).kept,(l.getD i default).H⟩ o (gC hs W)=some (Tr,x,(l.getD (i+1) default).H,D)∧bz D ∧
   (l.getD (i+1) default).kept=d_ Tr (l.getD i default).kept∧Kg P T ops hs R (rest.drop (i+1)) (done++rest.take (i+1)) [W] false (((l.getD i default).col.map Tr).set W x) (l.getD (i+1) default)
 | [],done,last,first,old,kept,H,l,E,he,hE=>by
  simp only [nS] at he
  split at he
  ·rename_i col C hc
   cases he
   exact ⟨rfl,rfl,⟨_,hc,hE⟩,fun i W h=>by simp at h⟩
  ·cases he
 | W::rest,done,last,first,old,kept,H,l,E,he,hE=>by
  simp only [nS] at he
  split at he
  ·rename_i col C o hc ho
   split at he
   ·rename_i Tr x H' D hw
    split at he
    ·rename_i l' E' Nt
     cases he
     obtain ⟨hC,S5⟩:=bT.1 hE
     obtain ⟨hD,S4⟩:=bT.1 S5
     obtain ⟨h1,h2,h3,h4⟩:=wN rest _ _ _ _ _ _ _ _ Nt S4
     refine ⟨rfl,rfl,⟨_,hc,hC⟩,fun i W' hi=>?_⟩
     cases i with
     | zero =>
      simp at hi;subst hi
      exact ⟨o,Tr,x,D,ho,by rw [←h2] at hw;exact hw,hD,h1,by simpa using h3⟩
     | succ i =>
      obtain ⟨o',Ru,x',D',k1,k2,k3,k4,k5⟩:=h4 i W' (by simpa using hi)
      refine ⟨o',Ru,x',D',k1,k2,k3,k4,?_⟩
      have e:done++(W::rest).take (i+1+1)=done++ [W]++rest.take (i+1):=by simp
      rw [e]
      exact k5
    ·cases he
   ·cases he
  ·cases he
def vB (R:List (List Nat)):List Nat->Bool
 | []=>true
 | [_]=>true
 | a::b::l=>match (R.getD b []).any (Nat.beq a) with|true=>vB R (b::l)|false=>false
theorem rU (R:List (List Nat)):∀(l:List Nat),vB R l=true-> ∀(i a b:Nat),l[i]?=some a->l[i+1]?=some b->a∈R.getD b []
 | [],_,i,a,b,h,_=>by simp at h
 | [x],_,i,a,b,h,h2=>by simp at h2
 | x::y::l,hc,i,a,b,h,h2=>by
  simp only [vB] at hc
  split at hc
  ·rename_i hy
   cases i with
   | zero=>simp at h h2;subst h;subst h2;exact any_beq.1 hy
   | succ i=>exact rU R (y::l) hc i a b (by simpa using h) (by simpa using h2)
  ·cases hc
def xy (T:Nat):List Nat->Bool
 | []=>true
 | a::l=>match Nat.blt a T with|true=>xy T l|false=>false
theorem qM (T:Nat):∀(l:List Nat),xy T l=true-> ∀a∈l,a<T
 | [],_,a,h=>by cases h
 | x::l,hc,a,h=>by
  simp only [xy] at hc
  split at hc
  ·rename_i hx
   rcases List.mem_cons.1 h with rfl|h
   ·simpa [Nat.blt_eq] using hx
   ·exact qM T l hc a h
  ·cases hc
def zg (P:Program) (n T:Nat) (Ws:List Nat) (ops:List Oper) (hs:List (Nat×Hint)) (s:AS):Option (AS×List Prop) :=
 match P.follows .mixedOrders,lK ops.toArray n,oQ ops.toArray T,vB (mA (ops.take T) []) Ws,xy T Ws,nodupB Ws with
 | true,true,true,true,true,true=>(match nS P n T ops hs (mA (ops.take T) []) Ws [] [] true [] (nI ((ops.take T).filterMap (·.dst)) s.F) s.H with
  | some (l,C)=>(match j8 P n ops hs (ops.drop T) T ⟨jb (ops.take T) (l.getD Ws.length default).col++(l.getD Ws.length default).kept,(l.getD Ws.length default).H⟩ with
   | some (s',D)=>some (s',C++D)
   | none=>none)
  | none=>none)
 | _,_,_,_,_,_=>none
theorem l0:∀ {l:List Nat},l.Nodup-> ∀ {i j x:Nat},l[i]?=some x->l[j]?=some x->i=j
 | [],_,i,j,x,h,_=>by simp at h
 | y::l,hn,i,j,x,h1,h2=>by
  rw [List.nodup_cons] at hn
  cases i with
  | zero =>
   cases j with
   | zero=>rfl
   | succ j =>
    simp at h1 h2;subst h1
    exact absurd (List.mem_of_getElem? h2) hn.1
  | succ i =>
   cases j with
   | zero =>
    simp at h1 h2;subst h2
    exact absurd (List.mem_of_getElem? h1) hn.1
   | succ j=>exact congrArg (· +1) (l0 hn.2 (i:=i) (j:=j) (x:=x) (by simpa using h1) (by simpa using h2))
theorem nv (ops:List Oper) (col:List AV) (L:Nat->Bool) (hL:∀k,L k=false):∀T,dQ ops col L T= []
 | 0=>rfl
 | k+1=>by simp only [dQ,hL k,nv ops col L hL k]
theorem km {col:List AV} {Tr:AV->AV} {W:Nat} {x:AV} {q:Nat} (hq:q≠W) {z:AV} (h:((col.map Tr).set W x).getD q .dead=z):col[q]?.map Tr=some z∨z= .dead:=by
 rw [List.getD_eq_getElem?_getD,List.getElem?_set_ne (Ne.symm hq),List.getElem?_map] at h
 cases hc:col[q]? with
 | none=>rw [hc] at h;exact .inr h.symm
 | some y=>rw [hc] at h;left;simpa using h
section
variable {P:Program} {ops:List Oper} {S0:bn} {w0:World} {Q:Exit->Act->World->Prop}
theorem DA {n T:Nat} {Ws:List Nat} {hs:List (Nat×Hint)} {s s':AS} {C:List Prop} (he:zg P n T Ws ops hs s=some (s',C)) (hC:bz C) {a:Act} {w:World} (gk:ix S0 w0 n s a w) (hQ:∀a' w',ix S0 w0 n s' a' w'->Q .normal a' w'):P.follows .mixedOrders=true∧wpAny P .any ops.toArray Q ops.toArray.size (Array.replicate ops.toArray.size false) a {w with drawn:=w.drawn+1}:=by
 unfold zg at he
 split at he
 ·rename_i hm hB hT wj Nv Lk
  split at he
  ·rename_i l C1 dC
   split at he
   ·rename_i s2 D oX
    cases he
    obtain ⟨iJ,hD⟩:=bT.1 hC
    obtain ⟨qQ,ir,vN⟩:=f_ hB
    have yy:(ops.filterMap (·.dst)).Nodup:=by simpa using ir
    unfold oQ at hT
    simp only [Bool.and_eq_true,decide_eq_true_eq] at hT
    obtain ⟨⟨⟨He,LC⟩,LB⟩,LA⟩:=hT
    have SK:T<ops.length:=by simpa using He
    have Dd:∀(k:Nat) (o:Oper),ops[k]?=some o-> ∀d∈bl o,d<k:=fun k o h=>qQ k o (by simpa using h)
    have Nw:∀(k:Nat) (o:Oper) (s:Nat),ops[k]?=some o->o.dst=some s->s<n:=fun k o s h=>vN k o s (by simpa using h)
    generalize SP:mA (ops.take T) []=R at dC wj
    have hR:tD ops R:=by
     rw [←SP]
     refine ra ops (ops.take T) [] (fun k o _ L _ _ j hj=>by simp at hj) (fun j o h=>?_) Dd
     simpa using bZ _ _ _ _ h
    obtain ⟨yz,Qt,NN,ql⟩:=wN _ _ _ _ _ _ _ _ _ dC iJ
    have Nv:=qM T Ws Nv
    have Lk:=iD Lk
    generalize Nq:(fun i=>l.getD i default)=st at *
    have QX:∀i,l.getD i default=st i:=fun i=>by rw [←Nq]
    simp only [QX] at yz Qt NN ql oX
    have fz:∀i,i≤Ws.length-> ∀(k:Nat) (x:AV),look (st i).kept k=some x-> ∀(j:Nat) (p:Oper),j<T->ops[j]?=some p->p.dst≠some k:=by
     intro i
     induction i with
     | zero =>
      intro _ k x hx j p hj hp
      rw [yz] at hx
      exact (ku ops T k).1 (fX _ _ _ _ hx).2 j p hj hp
     | succ i ih =>
      intro hi k x hx
      obtain ⟨o,Tr,X,D',-,-,-,k4,-⟩:=ql i (Ws[i]' ah) (List.getElem?_eq_getElem ah)
      rw [k4,cy] at hx
      cases hl:look (st i).kept k with
      | none=>rw [hl] at hx;cases hx
      | some y=>exact ih ah k y hl
    have wi:∀i,i≤Ws.length-> ∃last first old,Kg P T ops hs R (Ws.drop i) (Ws.take i) last first old (st i):=by
     intro i hi
     cases i with
     | zero=>exact ⟨_,_,_,by simpa using NN⟩
     | succ i =>
      obtain ⟨o,Tr,X,D',-,-,-,-,k5⟩:=ql i (Ws[i]' ah) (List.getElem?_eq_getElem ah)
      exact ⟨_,_,_,by simpa using k5⟩
    let J:(Nat->Bool)->Act->World->Prop:=fun L a' w'=>∃i,i≤Ws.length∧(∀(j W:Nat),Ws[j]?=some W->(L W=true↔j<i))∧ix S0 w0 n ⟨dQ ops (st i).col L T++(st i).kept,(st i).H⟩ a' w'
    obtain ⟨φ,lP⟩:=gk
    refine ⟨hm,nr (n:=n) He LC LB LA hB J ?_ ?_ ops.toArray.size _ a _ ⟨by simp,fun k o hk=>?_⟩ ?_ (fun j _=>by rw [getD_replicate_false]) (by simp)⟩
    ·intro k o L a' w' hk ho BB jc yE Bl ⟨i,hi,hW,gk⟩
     have rA:ops[k]?=some o:=by simpa using ho
     have gF:∀(j:Nat) (p:Oper),L j=true->ops[j]?=some p-> ∀d∈bl p,L d=true:=fun j p hj hp=>yE j p hj (by simpa using hp)
     have pA:∀j∈R.getD k [],L j=true:=hR k o rA L gF jc
     have qn:∀q,L q=true-> ∀j∈R.getD q [],L j=true:=fun q hq j hj=>by
      cases IQ:ops[q]? with
      | some p=>exact hR q p IQ L gF (fun d hd=>gF q p hq IQ d hd) j hj
      | none =>
       exfalso
       have h1:ops.length≤q:=List.getElem?_eq_none_iff.1 IQ
       have:=Bl q ah
       rw [hq] at this;cases this
     have Ql:∀d∈bl o,L d=true∧d<T:=fun d hd=>⟨jc d hd,by have:=Dd k o rA d hd;omega⟩
     have uT:∀i',i≤i'-> ∀q,(∀j∈R.getD q [],L j=true)->hit (R.getD q []) (Ws.drop i')=false:=by
      intro i' ji q hq
      cases hh:hit (R.getD q []) (Ws.drop i') with
      | false=>rfl
      | true =>
       exfalso
       obtain ⟨x,h1,h2⟩:=om.1 hh
       obtain ⟨j,hj⟩:=List.mem_iff_getElem?.1 h2
       rw [List.getElem?_drop] at hj
       have:=(hW _ x hj).1 (hq x h1)
       omega
     by_cases Ln:k∈Ws
     ·obtain ⟨j,hj⟩:=List.mem_iff_getElem?.1 Ln
      have Mu:j<Ws.length:=(List.getElem?_eq_some_iff.1 hj).1
      have Mv:¬j<i:=fun h=>by have:=(hW j k hj).2 h;rw [BB] at this;cases this
      have e:j=i:=by
       rcases Nat.lt_or_ge i j with h|h
       ·obtain ⟨j',rfl⟩:∃j',j=j'+1:=⟨j-1,ah⟩
        have Le:Ws[j']?=some (Ws[j']' ah):=List.getElem?_eq_getElem ah
        have h1:=pA _ (rU R Ws wj j' _ k Le hj)
        have:=(hW j' _ Le).1 h1
        omega
       ·omega
      subst e
      obtain ⟨o',Tr,x,D',k1,k2,k3,k4,Cc,k5,k6⟩:=ql j k hj
      rw [rA] at k1;cases k1
      simp only [List.nil_append] at k5
      obtain ⟨c1,c2,c3⟩:=jC _ 0 [] _ _ k5 k6 rfl
      simp only [Nat.zero_add] at c1 c3
      have SL:(ops.take T).length=T:=by rw [List.length_take];omega
      have OT:k ∉ Ws.drop (j+1):=fun hm=>by
       obtain ⟨j2,yC⟩:=List.mem_iff_getElem?.1 hm
       rw [List.getElem?_drop] at yC
       have:=l0 Lk hj yC
       omega
      have Sq:k∈Ws.take (j+1):=List.mem_iff_getElem?.2 ⟨j,by rw [List.getElem?_take,if_pos ah];exact hj⟩
      have hold:((((st j).col.map Tr).set k x).getD k .dead)=x:=by
       obtain ⟨last,first,old,Cd,Gm,LD⟩:=wi j hi
       obtain ⟨d1,-,-⟩:=jC _ 0 [] _ _ Gm LD rfl
       rw [Nat.zero_add,SL] at d1
       rw [List.getD_eq_getElem?_getD,List.getElem?_set_self (by rw [List.length_map];omega)];rfl
      have iX:=wM (P:=P) (S0:=S0) (w0:=w0) (Q:=Q) (n:=n) (T:=T) (col':=(st (j+1)).col) (L:=L) (a:=a') (w:=w') yy hk rA Ql (fz j hi) k2 k3 (by
       intro q z hq PV SW hz
       have IQ:(ops.take T)[q]?=some (ops[q]' ah):=by rw [List.getElem?_take,if_pos hq];exact List.getElem?_eq_getElem ah
       obtain ⟨x',D2,e1,e2,e3⟩:=c3 q _ IQ
       rw [e1] at hz;injection hz with hz;subst hz
       unfold qJ at e3
       split at e3
       ·split at e3
        ·split at e3
         ·rename_i xx CC ea
          split at e3
          ·cases e3
           exact km PV e2.1
          ·rename_i fM
           exfalso
           cases hh:hit (R.getD q []) [k] with
           | false=>exact fM rfl hh
           | true =>
            obtain ⟨y,h1,h2⟩:=om.1 hh
            have:y=k:=by simpa using h2
            subst this
            have:=qn q SW y h1
            rw [BB] at this;cases this
         ·cases e3
        ·cases e3
         exact km PV rfl
       ·cases e3
        exact .inr rfl) (by
       have E0:(ops.take T)[k]?=some o:=by rw [List.getElem?_take,if_pos hk];exact rA
       obtain ⟨x',D2,e1,e2,e3⟩:=c3 k _ E0
       rw [e1]
       unfold qJ at e3
       have r1:(Ws.drop (j+1)).any (Nat.beq k)=false:=by
        cases hh:(Ws.drop (j+1)).any (Nat.beq k) with
        | false=>rfl
        | true=>exact absurd (any_beq.1 hh) OT
       have r2:=uT (j+1) ah k pA
       have r3:(Ws.take (j+1)).any (Nat.beq k)=true:=any_beq.2 Sq
       rw [r1,r2,r3] at e3
       simp only at e3
       injection e3 with e3;injection e3 with e3 _
       rw [←e3,hold]) gk
      have fin:∀r5 fy,ix S0 w0 n ⟨dQ ops (st (j+1)).col (eQ L k) T++d_ Tr (st j).kept,(st (j+1)).H⟩ r5 fy->J (eQ L k) r5 fy:=by
       intro r5 fy h
       refine ⟨j+1,ah,fun j2 W2 h2=>?_,by rw [k4];exact h⟩
       by_cases e:W2=k
       ·subst e
        have:=l0 Lk hj h2
        unfold eQ;rw [if_pos rfl];simp;omega
       ·unfold eQ;rw [if_neg e,hW j2 W2 h2]
        have:j2≠j:=fun e2=>by subst e2;rw [hj] at h2;cases h2;exact e rfl
        omega
      split
      ·rename_i hw
       rw [if_pos hw] at iX
       exact Oper.wp_mono fin iX
      ·rename_i hw
       rw [if_neg hw] at iX
       exact fin _ _ iX
     ·obtain ⟨last,first,old,Cc,k5,k6⟩:=wi i hi
      obtain ⟨c1,c2,c3⟩:=jC _ 0 [] _ _ k5 k6 rfl
      simp only [Nat.zero_add] at c1 c3
      have E0:(ops.take T)[k]?=some o:=by rw [List.getElem?_take,if_pos hk];exact rA
      obtain ⟨x',D2,e1,e2,e3⟩:=c3 k _ E0
      unfold qJ at e3
      have r1:(Ws.drop i).any (Nat.beq k)=false:=by
       cases hh:(Ws.drop i).any (Nat.beq k) with
       | false=>rfl
       | true=>exact absurd (List.mem_of_mem_drop (any_beq.1 hh)) Ln
      have r2:=uT i (Nat.le_refl _) k pA
      have r3:(Ws.take i).any (Nat.beq k)=false:=by
       cases hh:(Ws.take i).any (Nat.beq k) with
       | false=>rfl
       | true=>exact absurd (List.mem_of_mem_take (any_beq.1 hh)) Ln
      have r4:(Ws.take i).any (fun W=>(R.getD W []).any (Nat.beq k))=false:=by
       cases hh:(Ws.take i).any (fun W=>(R.getD W []).any (Nat.beq k)) with
       | false=>rfl
       | true =>
        exfalso
        obtain ⟨W,h1,h2⟩:=List.any_eq_true.1 hh
        obtain ⟨j,hj⟩:=List.mem_iff_getElem?.1 h1
        rw [List.getElem?_take] at hj
        split at hj
        ·rename_i Mv
         have:=qn W ((hW j W hj).2 Mv) k (any_beq.1 h2)
         rw [BB] at this;cases this
        ·cases hj
      rw [r1,r2,r3,r4] at e3
      simp only at e3
      have ea:∃C',s6 P ops ⟨jo ops ((st i).col.take k) (bl o)++(st i).kept,(st i).H⟩ o (gC hs k)=some (x',C')∧bz C':=by
       split at e3
       ·rename_i xx CC ea
        split at e3
        ·cases e3;exact ⟨_,ea,e2.2⟩
        ·cases e3;exact ⟨_,ea,e2⟩
       ·cases e3
      obtain ⟨C',ea,Qv⟩:=ea
      rw [rS ops _ k _ (Dd k o rA)] at ea
      have iX:=tX (P:=P) (S0:=S0) (w0:=w0) (Q:=Q) (n:=n) (T:=T) (L:=L) (a:=a') (w:=w') yy Nw hk rA Ql (fz i hi) ea Qv e1 gk
      have fin:∀r5 fy,ix S0 w0 n ⟨dQ ops (st i).col (eQ L k) T++(st i).kept,(st i).H⟩ r5 fy->J (eQ L k) r5 fy:=by
       intro r5 fy h
       refine ⟨i,hi,fun j2 W2 h2=>?_,h⟩
       have e:W2≠k:=fun e=>by subst e;exact Ln (List.mem_of_getElem? h2)
       unfold eQ;rw [if_neg e];exact hW j2 W2 h2
      split
      ·rename_i hw
       rw [if_pos hw] at iX
       exact Oper.wp_mono fin iX
      ·rename_i hw
       rw [if_neg hw] at iX
       exact fin _ _ iX
    ·intro L a' w' fY Bl ⟨i,hi,hW,cA,gk⟩
     have e:i=Ws.length:=by
      rcases Nat.lt_or_ge i Ws.length with h|h
      ·have Le:Ws[i]?=some (Ws[i]'h):=List.getElem?_eq_getElem h
       have:=(hW i _ Le).1 (fY _ (Nv _ (List.getElem_mem h)))
       omega
      ·omega
     subst e
     have kk:=jQ (S0:=S0) (w0:=w0) (Q:=Q) _ _ _ _ _ oX hD a' w' ⟨cA,aO.sub gk fun i x hx=>.inl ?_⟩ hQ
     ·simpa using kk
     ·rw [bQ] at hx ⊢
      cases hh:look (jb (ops.take T) (st Ws.length).col) i with
      | some y =>
       rw [hh] at hx
       simp at hx;subst hx
       obtain ⟨k,o,h1,h2,h3⟩:=kN _ _ _ _ hh
       have wg:k<T:=by have:=(List.getElem?_eq_some_iff.1 h1).1;rw [List.length_take] at this;omega
       rw [gy yy _ L T k i o y wg (fY k wg) (bZ _ _ _ _ h1) h2 h3];rfl
      | none =>
       rw [hh] at hx
       simp at hx
       rw [jf fun j p hj hp=>fz _ (Nat.le_refl _) i x hx j p hj hp]
       simpa using hx
    ·rw [getD_replicate_false] at hk;cases hk
    ·refine ⟨0,ah,fun j W _=>by show (Array.replicate ops.toArray.size false).getD W false=true↔_;rw [getD_replicate_false];simp,φ,?_⟩
     rw [nv _ _ _ (fun k=>getD_replicate_false _ _)]
     have hg:aO S0 w0 n [] s a w.drew φ:=lP.grow ((Below.refl _ _).drew)
     rw [Qt,yz]
     exact aO.sub (F:=s.F) hg fun i x hx=>.inl (fX _ _ _ _ (by simpa using hx)).1
   ·cases he
  ·cases he
 ·cases he
def rK (P:Program) (n T:Nat) (Ws:List Nat) (hs:List (Nat×Hint)) (c:Code) (s:AS):Option (AS×List Prop) :=
 match c with
 | .region _ ⟨l⟩ true=>zg P n T Ws l hs s
 | _=>none
theorem bf.Po {n:Nat} {c:Code} {Q:Exit->AS->Prop} {s s':AS} {C:List Prop} (T:Nat) (Ws:List Nat) (hs:List (Nat×Hint)) (he:rK P n T Ws hs c s=some (s',C)) (hC:bz C) (h:Q .normal s'):bf P n c Q s:=by
 intro S0 w0 a w gk
 unfold rK at he
 split at he
 ·exact DA (S0:=S0) (w0:=w0) he hC gk fun a' w' b7=>⟨s',h,b7.one⟩
 ·cases he
theorem bf.Tz {n:Nat} {c:Code} {Q:Exit->AS->Prop} {s:AS} {C:List Prop} (T:Nat) (Ks:List Nat) (hs:List (Nat×Hint)) (he:pd (rK P n T Ks hs c s)=some C) (hC:bz C) (h:Q .normal (pZ (rK P n T Ks hs c s))):bf P n c Q s:=bf.Po T Ks hs (iS he) hC h
end
end Go.Proofs.YtjgbhhnghedgdaaGreatDoor
