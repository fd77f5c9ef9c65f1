import Derived.Test.YtejpabdmiagnnaaGreatDoorZrV8
set_option linter.all false
namespace Go.Proofs.YtejpabdmiagnnaaGreatDoor
open Go.RowKit
def putL (L:Nat->Bool) (k:Nat):Nat->Bool:=fun j=>if j=k then true else L j
structure Lst (ops:Array Oper) (listed:Array Bool):Prop where
 size:listed.size=ops.size
 closed:∀k o,listed.getD k false=true->ops[k]?=some o-> ∀d∈depsOf o,listed.getD d false=true
section
variable {P:Program} {ops:Array Oper} {Q:Exit->Act->World->Prop}
theorem wpAny_state {n T:Nat} (hT:T<ops.size) (hsk:Region.sinkB .any ops T=true) (hch:Region.chainB .any ops T=true) (hsq:Region.seqB .any ops (ops.size-T) T ((List.range ops.size).map (decide<| · <T)).toArray=true) (hB:factsB ops n=true) (J:(Nat->Bool)->Act->World->Prop)
  (hop:∀k o (L:Nat->Bool) a' w',k<T->ops[k]?=some o->L k=false->(∀d∈depsOf o,L d=true)->(∀j p,L j=true->ops[j]?=some p-> ∀d∈depsOf p,L d=true)->(∀j,T≤j->L j=false)->J L a' w' ->
   (if Region.wanted o (yielded ops a'.tmps)=true then o.wp P a' w' (fun a'' w''=>J (putL L k) a'' w'') Q else J (putL L k) (a'.put o.dst undef) w'))
  (hfin:∀(L:Nat->Bool) a' w',(∀k,k<T->L k=true)->(∀j,T≤j->L j=false)->J L a' w'->wpList P ops Q (ops.toList.drop T) a' w') :
  ∀(fuel:Nat) (listed:Array Bool) (a':Act) (w':World),Lst ops listed->J (fun k=>listed.getD k false) a' w'->(∀j,T≤j->listed.getD j false=false) ->
   (listed.toList.filter (· == false)).length=fuel->wpAny P .any ops Q fuel listed a' w':=by
 obtain ⟨hlt,hnd,hin⟩:=factsB_parts hB
 have some_ready:∀(listed:Array Bool),Lst ops listed-> ∀k,k<T->listed.getD k false=false-> ∃i,i<T∧i∈Region.ready .any ops listed:=by
  intro listed I k
  induction k using Nat.strongRecOn with
  | _ k ih =>
   intro hk hl
   have hkl:k<listed.size:=by rw [I.size];omega
   have hk2:k<ops.size:=by omega
   have hk':ops[k]?=some ops[k]:=Array.getElem?_eq_getElem hk2
   by_cases hall:∀d∈depsOf ops[k],listed.getD d false=true
   ·refine ⟨k,hk,?_⟩
    rw [mem_ready]
    refine ⟨?_,ops[k],hk',fun e he hb=>hall e.on ?_⟩
    ·simp [hkl] at hl ⊢;exact hl
    ·unfold depsOf
     exact List.mem_map.2 ⟨e,List.mem_filter.2 ⟨by simpa using he,hb⟩,rfl⟩
   ·have:∃d,d∈depsOf ops[k]∧listed.getD d false=false:=by
     refine Classical.byContradiction fun hno=>hall fun d hd=>?_
     cases hx:listed.getD d false with
     | true=>rfl
     | false=>exact absurd ⟨d,hd,hx⟩ hno
    obtain ⟨d,hd,hx⟩:=this
    exact ih d (hlt k _ hk' d hd) (by have:=hlt k _ hk' d hd;omega) hx
 have rest:∀(fuel:Nat) (listed:Array Bool) (a':Act) (w':World),Lst ops listed->J (fun k=>listed.getD k false) a' w'->(∀j,T≤j->listed.getD j false=false)->(listed.toList.filter (· == false)).length=fuel->(∀k,k<T->listed.getD k false=true)->wpAny P .any ops Q fuel listed a' w':=by
  intro fuel listed a' w' I hJ tail hc all
  have hcanon:listed=((List.range ops.size).map (decide<| · <T)).toArray:=by
   apply Array.ext_getElem?
   intro x
   by_cases hx:x<ops.size
   ·have hxl:x<listed.size:=by rw [I.size];exact hx
    have hr:((List.range ops.size).map (decide<| · <T)).toArray[x]?=some (decide (x<T)):=by simp [hx]
    rw [hr]
    by_cases hxT:x<T
    ·have:=all x hxT;simp [hxl] at this ⊢;rw [this,decide_eq_true hxT]
    ·have:=tail x (by omega);simp [hxl] at this ⊢;rw [this,decide_eq_false hxT]
   ·rw [Array.getElem?_eq_none (by rw [I.size];omega),Array.getElem?_eq_none (by simp;omega)]
  have hlen:fuel=(ops.toList.drop T).length:=by
   rw [←hc,hcanon]
   simp only [List.length_drop,Array.length_toList,List.filter_map,List.length_map]
   have key:∀n,T≤n->((List.range n).filter ((fun x=>x == false) ∘ (decide<| · <T))).length=n-T:=by
    intro n hn
    induction n with
    | zero=>simp
    | succ n ih =>
     rw [List.range_succ,List.filter_append,List.length_append]
     by_cases hnT:T≤n
     ·rw [ih hnT]
      have:((fun x=>x == false) ∘ (decide<| · <T)) n=true:=by simp;omega
      rw [List.filter_cons_of_pos this];simp;omega
     ·obtain rfl:T=n+1:=by omega
      have h1:(List.range n).filter ((fun x=>x == false) ∘ (decide<| · <n+1))= []:=by
       rw [List.filter_eq_nil_iff];intro x hx;have:=List.mem_range.1 hx;simp;omega
      have h2:[n].filter ((fun x=>x == false) ∘ (decide<| · <n+1))= []:=by
       rw [List.filter_eq_nil_iff];intro x hx;simp at hx;subst hx;simp
      rw [h1,h2];simp
   exact key ops.size (by omega)
  rw [hlen]
  refine wpAny_of_seq (ops.toList.drop T) T listed a' w' (fun j=>by rw [List.getElem?_drop];simp) ?_ (hfin _ a' w' all tail hJ)
  rw [hcanon]
  simpa using hsq
 intro fuel
 induction fuel with
 | zero =>
  intro listed a' w' I hJ tail hc
  refine rest 0 listed a' w' I hJ tail hc fun k hk=>?_
  cases hx:listed.getD k false with
  | true=>rfl
  | false =>
   exfalso
   have hkl:k<listed.size:=by rw [I.size];omega
   have:false∈listed.toList.filter (· == false):=by
    refine List.mem_filter.2 ⟨?_,rfl⟩
    have h1:listed.toList[k]?=some false:=by simp [hkl] at hx ⊢;exact hx
    exact List.mem_of_getElem? h1
   have:=List.length_pos_of_mem this
   omega
 | succ fuel ih =>
  intro listed a' w' I hJ tail hc
  by_cases hex:∀k,k<T->listed.getD k false=true
  ·exact rest (fuel+1) listed a' w' I hJ tail hc hex
  have hun:∃k,k<T∧listed.getD k false=false:=by
   refine Classical.byContradiction fun hno=>hex fun k hk=>?_
   cases hx:listed.getD k false with
   | true=>rfl
   | false=>exact absurd ⟨k,hk,hx⟩ hno
  obtain ⟨k0,hk0,hx0⟩:=hun
  have hHI:HeadInv .any ops T listed:=⟨I.size,fun j oj hj hl e he hb=>I.closed j oj hl hj e.on (by
    unfold depsOf
    exact List.mem_map.2 ⟨e,List.mem_filter.2 ⟨by simpa using he,hb⟩,rfl⟩),fun t ht ht'=>getD_in (by rw [I.size];exact ht') (tail t ht)⟩
  have hk0l:listed.getD k0 true=false:=getD_in (by rw [I.size];omega) hx0
  refine ⟨fun hr=>(by
   obtain ⟨i,_,hi⟩:=some_ready listed I k0 hk0 hx0
   rw [hr] at hi;cases hi),fun i hi=>?_⟩
  have hiT:i<T:=Classical.byContradiction fun h=>tail_waits hsk hch hT hHI _ k0 rfl hk0 hk0l i (by omega) hi
  obtain ⟨h0,o,ho,hall⟩:=mem_ready.1 hi
  have hil:i<listed.size:=by rw [I.size];exact (Array.getElem?_eq_some_iff.1 ho).1
  have h0':listed.getD i false=false:=by simp [hil] at h0 ⊢;exact h0
  have hdeps:∀d∈depsOf o,listed.getD d false=true:=by
   intro d hd
   unfold depsOf at hd
   obtain ⟨e,he,rfl⟩:=List.mem_map.1 hd
   obtain ⟨he1,he2⟩:=List.mem_filter.1 he
   exact hall e (by simpa using he1) he2
  have next:Lst ops (listed.setIfInBounds i true):=by
   refine ⟨by simpa using I.size,fun k p hk hp d hd=>?_⟩
   by_cases hki:i=k
   ·subst hki
    rw [ho] at hp;injection hp with hp;subst hp
    exact getD_set_true (hdeps d hd)
   ·rw [getD_set_ne false hki] at hk
    exact getD_set_true (I.closed k p hk hp d hd)
  have hput:(fun k=>(listed.setIfInBounds i true).getD k false)=putL (fun k=>listed.getD k false) i:=by
   funext k
   unfold putL
   by_cases hki:k=i
   ·subst hki;rw [if_pos rfl];simp [hil]
   ·rw [if_neg hki,getD_set_ne false (Ne.symm hki)]
  have htail':∀j,T≤j->(listed.setIfInBounds i true).getD j false=false:=fun j hj=>by rw [getD_set_ne false (by omega)];exact tail j hj
  have hcount:((listed.setIfInBounds i true).toList.filter (· == false)).length=fuel:=by
   have hlt':((listed.setIfInBounds i true).toList.filter (· == false)).length+1=(listed.toList.filter (· == false)).length:=by
    rw [Array.toList_setIfInBounds]
    have hi':listed.toList[i]?=some false:=by simp [hil] at h0 ⊢;exact h0
    exact count_set1 _ i hi'
   omega
  have rule:=hop i o (fun k=>listed.getD k false) a' w' hiT ho h0' hdeps (fun j p hj hp d hd=>I.closed j p hj hp d hd) tail hJ
  rw [←hput] at rule
  unfold wpOp
  rw [ho]
  simp only
  by_cases hw:Region.wanted o (yielded ops a'.tmps)=true
  ·rw [if_pos hw] at rule ⊢
   left
   exact Oper.wp_mono (fun a'' w'' h=>ih _ _ _ next h htail' hcount) rule
  ·rw [if_neg hw] at rule ⊢
   exact ih _ _ _ next rule htail' hcount
end
def slotL (ops:List Oper) (col:List AV) (L:Nat->Bool):Nat->List (Nat×AV)
 | 0=>[]
 | k+1=>match L k,ops[k]?,col[k]? with
  | true,some o,some x=>(match o.dst with|some i=>(i,x)::slotL ops col L k|none=>slotL ops col L k)
  | _,_,_=>slotL ops col L k
theorem look_slotL (ops:List Oper) (col:List AV) (L:Nat->Bool):∀(T i:Nat) (x:AV),look (slotL ops col L T) i=some x-> ∃k o,k<T∧L k=true∧ops[k]?=some o∧o.dst=some i∧col[k]?=some x
 | 0,i,x,h=>by cases h
 | k+1,i,x,h=>by
  have step:look (slotL ops col L k) i=some x-> ∃k' o,k'<k+1∧L k'=true∧ops[k']?=some o∧o.dst=some i∧col[k']?=some x:=fun h=>by
   obtain ⟨k',o,h1,h2⟩:=look_slotL ops col L k i x h
   exact ⟨k',o,by omega,h2⟩
  simp only [slotL] at h
  split at h
  ·rename_i o y hL ho hy
   split at h
   ·rename_i j hj
    rw [look_cons] at h
    by_cases e:j=i
    ·rw [if_pos e] at h;injection h with h;subst h;subst e
     exact ⟨k,o,by omega,hL,ho,hj,hy⟩
    ·rw [if_neg e] at h;exact step h
   ·exact step h
  ·exact step h
theorem slotL_look {ops:List Oper} (hnd:(ops.filterMap (·.dst)).Nodup) (col:List AV) (L:Nat->Bool):∀(T k i:Nat) (o:Oper) (x:AV),k<T->L k=true->ops[k]?=some o->o.dst=some i->col[k]?=some x->look (slotL ops col L T) i=some x
 | 0,k,i,o,x,h,_,_,_,_=>by omega
 | m+1,k,i,o,x,hk,hL,ho,hd,hx=>by
  by_cases hkm:k=m
  ·subst hkm
   simp only [slotL,hL,ho,hx,hd,look_cons,if_pos]
  ·have ih:=slotL_look hnd col L m k i o x (by omega) hL ho hd hx
   simp only [slotL]
   split
   ·rename_i p y _ hp _
    split
    ·rename_i j hj
     rw [look_cons]
     have hne:j≠i:=fun e=>by
      subst e
      exact hkm (dst_inj (ops:=ops.toArray) (by simpa using hnd) (by simpa using ho) (by simpa using hp) hd hj)
     rw [if_neg hne];exact ih
    ·exact ih
   ·exact ih
theorem slotL_none {ops:List Oper} {col:List AV} {L:Nat->Bool} {T i:Nat} (h:∀k o,k<T->ops[k]?=some o->o.dst≠some i):look (slotL ops col L T) i=none:=by
 cases hl:look (slotL ops col L T) i with
 | none=>rfl
 | some x =>
  obtain ⟨k,o,h1,-,h3,h4,-⟩:=look_slotL ops col L T i x hl
  exact absurd h4 (h k o h1 h3)
theorem SimO.sub {S0:Zone} {w0 w:World} {n:Nat} {O:List Nat} {F F':List (Nat×AV)} {H:List (Nat×Row)} {a:Act} {φ:Nat->Option Nat} (h:SimO S0 w0 n O ⟨F,H⟩ a w φ) (hF:∀i x,look F' i=some x->look F i=some x∨x= .dead):SimO S0 w0 n O ⟨F',H⟩ a w φ:=by
 refine ⟨h.tsz,h.dfr,h.bel,fun i x hx=>?_,h.rows,h.only,h.inj,h.rng,h.apart,h.new⟩
 rcases hF i x hx with h1|h1
 ·exact h.slots i x h1
 ·rw [h1];exact .dead _
section
variable {P:Program} {ops:List Oper} {S0:Zone} {w0:World} {Q:Exit->Act->World->Prop} {n T:Nat} {col:List AV} {kept:List (Nat×AV)} {H:List (Nat×Row)} {L:Nat->Bool} {k:Nat} {o:Oper}
theorem look_min (hnd:(ops.filterMap (·.dst)).Nodup) (hdep:∀d∈depsOf o,L d=true∧d<T) (hkept:∀i x,look kept i=some x-> ∀j p,j<T->ops[j]?=some p->p.dst≠some i) (i:Nat) (x:AV) (h:look (depF ops col (depsOf o)++kept) i=some x):look (slotL ops col L T++kept) i=some x:=by
 rw [look_append] at h ⊢
 cases hd:look (depF ops col (depsOf o)) i with
 | some y =>
  rw [hd] at h
  simp at h;subst h
  obtain ⟨d,p,h1,h2,h3,h4⟩:=look_depF _ _ _ _ _ hd
  rw [slotL_look hnd col L T d i p y (hdep d h1).2 (hdep d h1).1 h2 h3 h4];rfl
 | none =>
  rw [hd] at h
  simp at h
  rw [slotL_none fun j p hj hp=>hkept i x h j p hj hp]
  simpa using h
theorem state_step {h:Hint} {x:AV} {C:List Prop} {a:Act} {w:World} (hnd:(ops.filterMap (·.dst)).Nodup) (hin:∀(k:Nat) (o:Oper) (s:Nat),ops[k]?=some o->o.dst=some s->s<n)
  (hk:k<T) (ho:ops[k]?=some o) (hdep:∀d∈depsOf o,L d=true∧d<T) (hkept:∀i x,look kept i=some x-> ∀j p,j<T->ops[j]?=some p->p.dst≠some i)
  (hev:evHG P ops ⟨depF ops col (depsOf o)++kept,H⟩ o h=some (x,C)) (hC:AllP C) (hx:col[k]?=some x) (hs:Sim S0 w0 n ⟨slotL ops col L T++kept,H⟩ a w) :
  if Region.wanted o (yielded ops.toArray a.tmps)=true then o.wp P a w (fun a' w'=>Sim S0 w0 n ⟨slotL ops col (putL L k) T++kept,H⟩ a' w') Q else Sim S0 w0 n ⟨slotL ops col (putL L k) T++kept,H⟩ (a.put o.dst undef) w:=by
 obtain ⟨φ,hs⟩:=hs
 have hmin:=hs.sub (F':=depF ops col (depsOf o)++kept) (fun i y hy=>.inl (look_min hnd hdep hkept i y hy))
 have rule:=evHG_ok (Q:=Q) hev hC hmin (b:=a) rfl
 have fin:∀v w',Below w.heap.size w w'->Den (infoOf H φ) (Free S0 w' φ []) w' v x->Sim S0 w0 n ⟨slotL ops col (putL L k) T++kept,H⟩ (a.put o.dst v) w':=by
  intro v w' hb hd
  have hg:=hs.grow hb
  refine ⟨φ,(tmps_put ..).trans hg.tsz,(defers_put ..).trans hg.dfr,hg.bel,fun i y hy=>?_,hg.rows,hg.only,hg.inj,hg.rng,hg.apart,hg.new⟩
  have hy:look (slotL ops col (putL L k) T++kept) i=some y:=hy
  have same:o.dst≠some i->(a.put o.dst v).tmps.getD i undef=a.tmps.getD i undef:=fun hne=>by
   cases hdo:o.dst with
   | none=>rfl
   | some j =>
    have hlt:j<a.tmps.size:=by rw [hg.tsz];exact hin k o j ho hdo
    rw [put_getD a j i v hlt,if_neg (fun e=>hne (by rw [hdo,e]))]
  rw [look_append] at hy
  cases hl:look (slotL ops col (putL L k) T) i with
  | some z =>
   rw [hl] at hy
   simp at hy;subst hy
   obtain ⟨j,p,h1,h2,h3,h4,h5⟩:=look_slotL _ _ _ _ _ _ hl
   by_cases hjk:j=k
   ·subst hjk
    rw [ho] at h3;injection h3 with h3;subst h3
    rw [hx] at h5;injection h5 with h5;subst h5
    have hlt:i<a.tmps.size:=by rw [hg.tsz];exact hin j o i ho h4
    rw [h4,put_getD a i i v hlt,if_pos rfl]
    exact hd
   ·have hLj:L j=true:=by unfold putL at h2;rw [if_neg hjk] at h2;exact h2
    have hne:o.dst≠some i:=fun e=>hjk (dst_inj (ops:=ops.toArray) (by simpa using hnd) (by simpa using h3) (by simpa using ho) h4 e)
    rw [same hne]
    refine hg.slots i z ?_
    show look (slotL ops col L T++kept) i=some z
    rw [look_append,slotL_look hnd col L T j i p z h1 hLj h3 h4 h5];rfl
  | none =>
   rw [hl] at hy
   simp at hy
   have hne:o.dst≠some i:=hkept i y hy k o hk ho
   rw [same hne]
   refine hg.slots i y ?_
   show look (slotL ops col L T++kept) i=some y
   rw [look_append,slotL_none fun j p hj hp=>hkept i y hy j p hj hp]
   simpa using hy
 unfold opRule at rule
 split
 ·rename_i hw
  rw [if_pos hw] at rule
  exact Oper.wp_mono (fun a' w' ⟨v,h1,h2,h3,h4⟩=>by subst h1;exact fin v w' h2 h4) rule
 ·rename_i hw
  rw [if_neg hw] at rule
  exact fin undef w (Below.refl _ _) rule.2
end
def appT (d:Nat):AV->AV->AV
 | .ref id,x=>kill2 d (kill2 id x)
 | .pre id _,x=>kill2 d (kill2 id x)
 | _,x=>kill2 d x
def appF (d:Nat) (X:AV) (F:List (Nat×AV)):List (Nat×AV):=(d,.ref d)::drop_ (mapv (appT d X) F) d
theorem mapv_mapv {α:Type} (f g:α->α):∀(l:List (Nat×α)),mapv f (mapv g l)=mapv (fun x=>f (g x)) l
 | []=>rfl
 | (k,x)::l=>by simp only [mapv,mapv_mapv f g l]
theorem srcAny_H (P:Program) (F F':List (Nat×AV)) (H:List (Nat×Row)) (xt:TypeId) (z:Nat) (x:AV):srcAny P ⟨F',H⟩ xt z x=srcAny P ⟨F,H⟩ xt z x:=by
 cases x<;>rfl
theorem app_lift {P:Program} {n:Nat} {F F':List (Nat×AV)} {H:List (Nat×Row)} {d t xt:Nat} {X Y:AV} {h:Hint} {q:AS} {C:List Prop} (he:evAppend P n ⟨F,H⟩ d t xt X Y h=some (q,C)):evAppend P n ⟨F',H⟩ d t xt X Y h=some (⟨appF d X F',q.H⟩,C):=by
 unfold evAppend at he ⊢
 split at he
 ·rename_i el hu
  split at he
  ·rename_i i hi
   split at he
   ·rename_i zero z b hz hsz hby
    split at he
    ·rename_i cells s1 row hzs hdst hsrc
     split at he
     ·rename_i C' s' hpl hput
      cases he
      have hdst':∃s1',dstOf ⟨F',H⟩ (z+1) X=some (cells,s1')∧s1'.H=s1.H∧mapv (kill2 d) s1'.F=mapv (appT d X) F':=by
       unfold dstOf at hdst ⊢
       split at hdst
       ·cases hdst;exact ⟨_,rfl,rfl,rfl⟩
       ·split at hdst
        ·rename_i e' _ cells' hl
         split at hdst
         ·rename_i hb
          cases hdst
          refine ⟨retire _ ⟨F',H⟩,?_,rfl,?_⟩
          ·have hl':look (⟨F',H⟩:AS).H _=_:=hl
           simp only [hl',hb]
          ·exact mapv_mapv _ _ _
         ·cases hdst
        ·cases hdst
       ·split at hdst
        ·rename_i e' _ cells' hl
         split at hdst
         ·rename_i hb
          cases hdst
          refine ⟨retire _ ⟨F',H⟩,?_,rfl,?_⟩
          ·have hl':look (⟨F',H⟩:AS).H _=_:=hl
           simp only [hl',hb]
          ·exact mapv_mapv _ _ _
         ·cases hdst
        ·cases hdst
       ·cases hdst
      obtain ⟨s1',hd1,hd2,hd3⟩:=hdst'
      rw [srcAny_H P F F'] at *
      simp only [hzs,hd1,hsrc,hpl]
      unfold putD at hput ⊢
      simp only at hput ⊢
      split at hput
      ·cases hput
       have e1:(retire d s1').H=(retire d s1).H:=by unfold retire;rw [hd2]
       have e2:(retire d s1').F=mapv (appT d X) F':=hd3
       simp only [setF,e1,e2,appF]
      ·cases hput
     ·cases he
    ·cases he
   ·cases he
  ·cases he
 ·cases he
section
variable {P:Program} {ops:List Oper} {S0:Zone} {w0:World} {Q:Exit->Act->World->Prop} {n T:Nat} {col col':List AV} {kept:List (Nat×AV)} {H H':List (Nat×Row)} {L:Nat->Bool} {k:Nat} {o:Oper}
theorem look_mapdrop {f:AV->AV} {F:List (Nat×AV)} {d i:Nat} (h:d≠i):look (drop_ (mapv f F) d) i=(look F i).map f:=by rw [look_drop,if_neg h,look_mapv]
def opdOK (F:List (Nat×AV)):Operand->Bool
 | .tmp i=>(look F i).isSome
 | _=>true
theorem opd_min {F F':List (Nat×AV)} (hF:∀i x,look F i=some x->look F' i=some x) {y:Operand} (h:opdOK F y=true):opd ⟨F',H⟩ y=opd ⟨F,H⟩ y:=by
 cases y with
 | tmp i =>
  have h:(look F i).isSome=true:=h
  cases hl:look F i with
  | none=>rw [hl] at h;cases h
  | some x =>
   show getF _ i=getF _ i
   unfold getF
   rw [show look (⟨F',H⟩:AS).F i=some x from hF i x hl,show look (⟨F,H⟩:AS).F i=some x from hl]
 | _=>rfl
end
def uni:List Nat->List Nat->List Nat
 | [],m=>m
 | x::l,m=>match m.any (Nat.beq x) with|true=>uni l m|false=>uni l (x::m)
theorem mem_uni:∀(l m:List Nat) (x:Nat),x∈uni l m->x∈l∨x∈m
 | [],m,x,h=>.inr h
 | y::l,m,x,h=>by
  simp only [uni] at h
  split at h
  ·rcases mem_uni l m x h with h|h
   ·exact .inl (by simp [h])
   ·exact .inr h
  ·rcases mem_uni l (y::m) x h with h|h
   ·exact .inl (by simp [h])
   ·rcases List.mem_cons.1 h with h|h
    ·exact .inl (by simp [h])
    ·exact .inr h
def uniAll (R:List (List Nat)):List Nat->List Nat
 | []=>[]
 | d::l=>uni (d::R.getD d []) (uniAll R l)
theorem mem_uniAll (R:List (List Nat)):∀(l:List Nat) (x:Nat),x∈uniAll R l-> ∃d∈l,x=d∨x∈R.getD d []
 | [],x,h=>by simp [uniAll] at h
 | d::l,x,h=>by
  rcases mem_uni _ _ x h with h|h
  ·exact ⟨d,by simp,List.mem_cons.1 h⟩
  ·obtain ⟨e,h1,h2⟩:=mem_uniAll R l x h
   exact ⟨e,by simp [h1],h2⟩
def reachT:List Oper->List (List Nat)->List (List Nat)
 | [],R=>R
 | o::l,R=>reachT l (R++ [uniAll R (depsOf o)])
def ReachOK (ops:List Oper) (R:List (List Nat)):Prop:=∀(k:Nat) (o:Oper),ops[k]?=some o-> ∀(L:Nat->Bool),(∀j p,L j=true->ops[j]?=some p-> ∀d∈depsOf p,L d=true)->(∀d∈depsOf o,L d=true)-> ∀j∈R.getD k [],L j=true
theorem reachT_ok (ops:List Oper):∀(l:List Oper) (R:List (List Nat)),ReachOK ops R->(∀j o,l[j]?=some o->ops[R.length+j]?=some o)->(∀(k:Nat) (o:Oper),ops[k]?=some o-> ∀d∈depsOf o,d<k)->ReachOK ops (reachT l R)
 | [],R,h,_,_=>h
 | o::l,R,h,hl,hlt=>by
  refine reachT_ok ops l _ ?_ (fun j p hp=>?_) hlt
  ·intro k p hp L hc hd j hj
   by_cases hk:k<R.length
   ·have:(R++ [uniAll R (depsOf o)]).getD k []=R.getD k []:=by
     rw [List.getD_eq_getElem?_getD,List.getD_eq_getElem?_getD,List.getElem?_append_left hk]
    rw [this] at hj
    exact h k p hp L hc hd j hj
   ·by_cases hk2:k=R.length
    ·subst hk2
     have e:(R++ [uniAll R (depsOf o)]).getD R.length []=uniAll R (depsOf o):=by
      rw [List.getD_eq_getElem?_getD,List.getElem?_append_right (Nat.le_refl _)];simp
     rw [e] at hj
     have ho:ops[R.length]?=some o:=by have:=hl 0 o rfl;simpa using this
     rw [ho] at hp;injection hp with hp;subst hp
     obtain ⟨d,h1,h2⟩:=mem_uniAll R _ j hj
     rcases h2 with h2|h2
     ·subst h2;exact hd j h1
     ·cases hod:ops[d]? with
      | none =>
       exfalso
       have:=hlt R.length o ho d h1
       have h3:=(List.getElem?_eq_some_iff.1 ho).1
       rw [List.getElem?_eq_getElem (by omega)] at hod;cases hod
      | some q=>exact h d q hod L hc (fun d' hd'=>hc d q (hd d h1) hod d' hd') j h2
    ·have e:(R++ [uniAll R (depsOf o)]).getD k []= []:=by
      rw [List.getD_eq_getElem?_getD,List.getElem?_eq_none (by simp;omega)];rfl
     rw [e] at hj;cases hj
  ·rw [List.length_append]
   have:=hl (j+1) p (by simpa using hp)
   simp only [List.length_cons,List.length_nil]
   rwa [show R.length+(j+1)=R.length+(0+1)+j by omega] at this
def hit (l m:List Nat):Bool:=l.any fun x=>m.any (Nat.beq x)
theorem any_beq {m:List Nat} {x:Nat}:m.any (Nat.beq x)=true↔x∈m:=by
 rw [List.any_eq_true]
 exact ⟨fun ⟨y,h1,h2⟩=>by rw [Nat.eq_of_beq_eq_true h2];exact h1,fun h=>⟨x,h,Nat.beq_refl x⟩⟩
theorem hit_iff {l m:List Nat}:hit l m=true↔ ∃x,x∈l∧x∈m:=by
 unfold hit
 rw [List.any_eq_true]
 exact ⟨fun ⟨x,h1,h2⟩=>⟨x,h1,any_beq.1 h2⟩,fun ⟨x,h1,h2⟩=>⟨x,h1,any_beq.2 h2⟩⟩
structure Stage where
 col:List AV
 kept:List (Nat×AV)
 H:List (Nat×Row)
def cellP (P:Program) (ops:List Oper) (hs:List (Nat×Hint)) (R:List (List Nat)) (done rest last:List Nat) (first:Bool) (old:List AV) (kept:List (Nat×AV)) (H:List (Nat×Row)) (o:Oper) (k:Nat) (col:List AV):Option (AV×List Prop) :=
 match rest.any (Nat.beq k),hit (R.getD k []) rest with
 | false,false=>(match done.any (Nat.beq k),done.any (fun W=>(R.getD W []).any (Nat.beq k)) with
  | false,false=>(match evHG P ops ⟨depF ops col (depsOf o)++kept,H⟩ o (hintAt hs k) with
   | some (x,C)=>(match first,hit (R.getD k []) last with
    | false,false=>some (x,(old.getD k .dead=x)::C)
    | _,_=>some (x,C))
   | none=>none)
  | _,_=>some (old.getD k .dead,[]))
 | _,_=>some (.dead,[])
def colP (P:Program) (ops:List Oper) (hs:List (Nat×Hint)) (R:List (List Nat)) (done rest last:List Nat) (first:Bool) (old:List AV) (kept:List (Nat×AV)) (H:List (Nat×Row)):List Oper->Nat->List AV->Option (List AV×List Prop)
 | [],_,col=>some (col,[])
 | o::l,k,col=>match cellP P ops hs R done rest last first old kept H o k col with
  | some (x,C)=>(match colP P ops hs R done rest last first old kept H l (k+1) (col++ [x]) with|some (col',D)=>some (col',C++D)|none=>none)
  | none=>none
theorem colP_at {P:Program} {ops:List Oper} {hs:List (Nat×Hint)} {R:List (List Nat)} {done rest last:List Nat} {first:Bool} {old:List AV} {kept:List (Nat×AV)} {H:List (Nat×Row)}:∀(l:List Oper) (i:Nat) (col col':List AV) (C:List Prop),colP P ops hs R done rest last first old kept H l i col=some (col',C)->AllP C->col.length=i ->
  col'.length=i+l.length∧col'.take i=col∧ ∀(j:Nat) (o:Oper),l[j]?=some o-> ∃x D,col'[i+j]?=some x∧AllP D∧cellP P ops hs R done rest last first old kept H o (i+j) (col'.take (i+j))=some (x,D)
 | [],i,col,col',C,he,hC,hl=>by
  cases he
  exact ⟨by simp [hl],by rw [←hl,List.take_length],fun j o h=>by simp at h⟩
 | o::l,i,col,col',C,he,hC,hl=>by
  simp only [colP] at he
  split at he
  ·rename_i x C1 h1
   split at he
   ·rename_i col2 D h2
    cases he
    obtain ⟨hC1,hD⟩:=allP_app.1 hC
    obtain ⟨e1,e2,e3⟩:=colP_at l (i+1) (col++ [x]) col' D h2 hD (by simp [hl])
    have e4:col'.take i=col:=by
     have:=congrArg (List.take i) e2
     rw [List.take_take,Nat.min_eq_left (by omega),←hl,List.take_left] at this
     rw [←hl];exact this
    have e5:col'[i]?=some x:=by
     have h3:(col'.take (i+1))[i]?=some x:=by rw [e2,List.getElem?_append_right (by omega),hl];simp
     exact take_get _ _ _ _ h3
    refine ⟨by rw [e1,List.length_cons];omega,e4,fun j p hp=>?_⟩
    cases j with
    | zero =>
     simp at hp;subst hp
     exact ⟨x,C1,by simpa using e5,hC1,by simp only [Nat.add_zero];rw [e4];exact h1⟩
    | succ j =>
     obtain ⟨y,D',h5,h6,h7⟩:=e3 j p (by simpa using hp)
     rw [show i+1+j=i+(j+1) by omega] at h5 h7
     exact ⟨y,D',h5,h6,h7⟩
   ·cases he
  ·cases he
end Go.Proofs.YtejpabdmiagnnaaGreatDoor
