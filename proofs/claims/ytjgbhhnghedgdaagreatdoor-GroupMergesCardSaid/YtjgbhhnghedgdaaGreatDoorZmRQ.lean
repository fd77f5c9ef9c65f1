import Derived.Test.YtjgbhhnghedgdaaGreatDoorZmRF
set_option linter.all false
namespace Go.Proofs.YtjgbhhnghedgdaaGreatDoor
open Go.RowKit
def pI (id n:Nat):AV->AV
 | .ref i=>match Nat.beq i id with|true=>.dead|false=>.ref i
 | .pre i k=>match Nat.beq i id with|true=>(match Nat.beq k n with|true=>.ref id|false=>.dead)|false=>.pre i k
 | .js i o k=>match Nat.beq i id with|true=>.dead|false=>.js i o k
 | .addr i o=>match Nat.beq i id with|true=>.dead|false=>.addr i o
 | .agg _=>.dead
 | .bk _=>.dead
 | x=>x
theorem JV (id n:Nat):pI id n (.pre id n)= .ref id:=by
 have h:∀k:Nat,Nat.beq k k=true:=fun k=>Nat.beq_refl k
 simp only [pI,h]
def LV (id n:Nat):AV->AV
 | .agg cs=>.agg (cs.map (pI id n))
 | x=>pI id n x
def LU (id n:Nat):AV->AV
 | .bk cs=>.bk (cs.map (LV id n))
 | x=>LV id n x
def kW (id n:Nat) (r:Row):Row:=match r.pure with|true=>r|false=>⟨r.e,false,r.full,r.cells.map (pI id n)⟩
theorem vx (id n:Nat) (r:Row):(kW id n r).e=r.e∧(kW id n r).cells.length=r.cells.length∧(kW id n r).pure=r.pure∧(kW id n r).full=r.full:=by
 unfold kW;cases h:r.pure<;>simp [h]
def JU (id n:Nat) (r:Row) (s:AS):AS:=⟨d_ (LU id n) s.F,(id,⟨r.e,true,false,r.cells.take n⟩)::d_ (kW id n) (cP s.H id)⟩
theorem DZ (id n:Nat) (y:AV) (h:∀cs,y≠ .agg cs):LV id n y=pI id n y:=by
 cases y with
 | agg cs=>exact absurd rfl (h cs)
 | _=>rfl
theorem DY (id n:Nat) (y:AV) (h:∀cs,y≠ .bk cs):LU id n y=LV id n y:=by
 cases y with
 | bk cs=>exact absurd rfl (h cs)
 | _=>rfl
section
variable {I I':Info} {S:Nat->Prop} {w:World}
theorem Fl (id n:Nat) (hI:∀i x,i≠id->I i=some x->I' i=some x) (hc:∀e m b,I id=some (e,m,b)->n≤m->I' id=some (e,n,b)):jX I I' S S w (pI id n) where
 agg:=fun _=>rfl
 bk:=fun _=>rfl
 leaf:=fun v x hx h1 h2=>by
  cases hx with
  | rep h=>cases h with
   | val v=>exact .rep (.val v)
   | nil=>exact .rep .nil
   | agg vs cs _ _=>exact absurd rfl (h1 cs)
   | bk vs cs _ _=>exact absurd rfl (h2 cs)
   | arr vs cs hl h=>exact .rep (.arr vs cs hl h)
   | sl A n c e us row hl hn hc hm ha h=>exact .rep (.sl A n c e us row hl hn hc hm ha h)
   | pC A n e us row hl hn hm ha h=>exact .rep (.pC A n e us row hl hn hm ha h)
   | ptr ad us row off hl hs ha h=>exact .rep (.ptr ad us row off hl hs ha h)
   | kX f vs cs hl h=>exact .rep (.kX f vs cs hl h)
  | agg vs cs _ _=>exact absurd rfl (h1 cs)
  | bk vs cs _ _=>exact absurd rfl (h2 cs)
  | ref i e m g l c hi hm hc hx hs =>
   rcases bK i id with ⟨h,e⟩|⟨h,e⟩<;>simp only [pI,h]
   ·exact .dead _
   ·exact .ref i _ m g l c (hI _ _ e hi) hm hc hx hs
  | cD i e hi =>
   rcases bK i id with ⟨h,e⟩|⟨h,e⟩<;>simp only [pI,h]
   ·exact .dead _
   ·exact .cD i _ (hI _ _ e hi)
  | pre i k e m g l c hi hn hm OY hx hs =>
   rcases bK i id with ⟨h,e⟩|⟨h,e⟩<;>simp only [pI,h]
   ·rcases bK k n with ⟨h3,e3⟩|⟨h3,e3⟩<;>simp only [h3]
    ·subst e;subst e3
     exact .ref i _ k g l c (hc _ _ _ hi hm) hn OY hx hs
    ·exact .dead _
   ·exact .pre i k _ m g l c (hI _ _ e hi) hn hm OY hx hs
  | dB i e hi =>
   rcases bK i id with ⟨h,e⟩|⟨h,e⟩<;>simp only [pI,h]
   ·rcases bK 0 n with ⟨h3,e3⟩|⟨h3,e3⟩<;>simp only [h3]
    ·subst e;subst e3
     exact .cD i _ (hc _ _ _ hi (Nat.le_refl _))
    ·exact .dead _
   ·exact .dB i _ (hI _ _ e hi)
  | js i off k e m l c g A hi hn hm hc hx ha =>
   rcases bK i id with ⟨h,e⟩|⟨h,e⟩<;>simp only [pI,h]
   ·exact .dead _
   ·exact .js i off k _ m l c g A (hI _ _ e hi) hn hm hc hx ha
  | addr i off e m g hi =>
   rcases bK i id with ⟨h,e⟩|⟨h,e⟩<;>simp only [pI,h]
   ·exact .dead _
   ·exact .addr i off _ m g (hI _ _ e hi)
  | dead v=>exact .dead _
theorem Den.cut (id n:Nat) (hI:∀i x,i≠id->I i=some x->I' i=some x) (hc:∀e m b,I id=some (e,m,b)->n≤m->I' id=some (e,n,b)) {v:Value} {x:AV} (h:Den I S w v x):Den I' S w v (LU id n x) :=
 (Fl id n hI hc).two h (fun _=>rfl) (DZ id n) (fun _=>rfl) (DY id n)
end
theorem bU.cut {s:AS} (id n:Nat) {r:Row} (hr:look s.H id=some r) (hp:r.pure=true) (hn:n≤r.cells.length):bU s (JU id n r s):=by
 intro S0 w0 N a w ⟨φ,hs⟩
 have lH:∀i,look (JU id n r s).H i=if id=i then some ⟨r.e,true,false,r.cells.take n⟩ else (look s.H i).map (kW id n):=by
  intro i
  unfold JU
  simp only
  rw [aF,cy,bJ]
  by_cases e:id=i<;>simp [e]
 have hI:∀i x,i≠id->az s.H φ i=some x->az (JU id n r s).H φ i=some x:=by
  intro i x hi hx
  unfold az at hx ⊢
  rw [lH,if_neg (Ne.symm hi)]
  cases hl:look s.H i with
  | none=>rw [hl] at hx;cases hx
  | some q =>
   rw [hl] at hx
   obtain ⟨m1,m2,-,-⟩:=vx id n q
   simpa [m1,m2] using hx
 have hc:∀e m b,az s.H φ id=some (e,m,b)->n≤m->az (JU id n r s).H φ id=some (e,n,b):=by
  intro e m b hx _
  unfold az at hx ⊢
  rw [lH,if_pos rfl]
  rw [hr] at hx
  simp only [Option.map_some,Option.some.injEq,Prod.mk.injEq] at hx ⊢
  obtain ⟨h1,-,h3⟩:=hx
  exact ⟨h1,by rw [List.length_take];omega,h3⟩
 refine ⟨φ,hs.jS,hs.jV,hs.cZ,fun i av hi=>?_,fun i q hq=>?_,fun i hi=>?_,hs.inj,hs.cY,hs.apart,hs.new⟩
 ·have hi:look (d_ (LU id n) s.F) i=some av:=hi
  rw [cy] at hi
  cases hl:look s.F i with
  | none=>rw [hl] at hi;cases hi
  | some x =>
   rw [hl] at hi;injection hi with hi;subst hi
   exact (hs.cC i x hl).cut id n hI hc
 ·rw [lH] at hq
  by_cases e:id=i
  ·subst e
   rw [if_pos rfl] at hq;injection hq with hq;subst hq
   have aR:=hs.rows id r hr
   unfold bR at aR ⊢
   cases hg:φ id with
   | none=>rw [hg] at aR;simp only at aR ⊢;rw [aR];simp
   | some g =>
    rw [hg] at aR
    obtain ⟨cur,te,fr,u1,u2,u3,u4,u5⟩:=aR
    refine ⟨cur,te,fr,u1,u2,by simp only [List.length_take];omega,fun h=>(by cases h),fun k u x hu hx=>?_⟩
    simp only [List.getElem?_take] at hx
    split at hx
    ·have:=u5 k u x hu hx
     unfold bh at this ⊢
     rw [hp] at this
     exact this
    ·cases hx
  ·rw [if_neg e] at hq
   cases hl:look s.H i with
   | none=>rw [hl] at hq;cases hq
   | some q0 =>
    rw [hl] at hq;injection hq with hq;subst hq
    obtain ⟨m1,m2,m3,m4⟩:=vx id n q0
    have aR:=hs.rows i q0 hl
    unfold bR at aR ⊢
    cases hg:φ i with
    | none =>
     rw [hg] at aR
     simp only at aR ⊢
     exact List.eq_nil_of_length_eq_zero (by rw [m2,aR];rfl)
    | some g =>
     rw [hg] at aR
     obtain ⟨cur,te,fr,u1,u2,u3,u4,u5⟩:=aR
     refine ⟨cur,te,fr,u1,u2,by rw [m2];exact u3,fun h=>by rw [m2];exact u4 (by rw [←m4];exact h),fun k u x hu hx=>?_⟩
     unfold bh
     cases IM:q0.pure with
     | true =>
      have e1:kW id n q0=q0:=by unfold kW;rw [IM]
      rw [e1] at hx ⊢
      have:=u5 k u x hu hx
      unfold bh at this
      rw [IM] at this ⊢
      exact this
     | false =>
      have e1:(kW id n q0).cells=q0.cells.map (pI id n):=by unfold kW;rw [IM]
      rw [m3,IM]
      rw [e1,List.getElem?_map] at hx
      cases hj:q0.cells[k]? with
      | none=>rw [hj] at hx;cases hx
      | some y =>
       rw [hj] at hx;injection hx with hx;subst hx
       have:=u5 k u y hu hj
       unfold bh at this
       rw [IM] at this
       exact (Fl id n hI hc).all this
 ·rw [lH] at hi
  by_cases e:id=i
  ·subst e;rw [if_pos rfl] at hi;cases hi
  ·rw [if_neg e] at hi
   exact hs.only i (by simpa using hi)
theorem bU.add {s:AS} (new e:Nat) (hn:look s.H new=none):bU s ⟨s.F,(new,⟨e,true,false,[]⟩)::s.H⟩:=by
 intro S0 w0 n a w ⟨φ,hs⟩
 have ct:φ new=none:=hs.only new hn
 have hI:∀i x,az s.H φ i=some x->az ((new,(⟨e,true,false,[]⟩:Row))::s.H) φ i=some x:=by
  intro i x hx
  unfold az at hx ⊢
  rw [aF]
  by_cases e1:new=i
  ·subst e1;rw [hn] at hx;cases hx
  ·rw [if_neg e1];exact hx
 refine ⟨φ,hs.jS,hs.jV,hs.cZ,fun i av hi=>(hs.cC i av hi).mono hI (fun b hb=>⟨hb,rfl⟩) (fun _ _ _ _ _=>rfl),fun i q hq=>?_,fun i hi=>?_,hs.inj,hs.cY,hs.apart,hs.new⟩
 ·rw [aF] at hq
  by_cases e1:new=i
  ·subst e1
   rw [if_pos rfl] at hq;injection hq with hq;subst hq
   unfold bR;rw [ct]
  ·rw [if_neg e1] at hq
   have aR:=hs.rows i q hq
   unfold bR at aR ⊢
   cases hg:φ i with
   | none=>rw [hg] at aR;exact aR
   | some g =>
    rw [hg] at aR
    obtain ⟨cur,te,fr,u1,u2,u3,u4,u5⟩:=aR
    refine ⟨cur,te,fr,u1,u2,u3,u4,fun k u x hu hx=>?_⟩
    have:=u5 k u x hu hx
    unfold bh at this ⊢
    cases IM:q.pure with
    | true=>rw [IM] at this;exact this
    | false=>rw [IM] at this;exact this.mono hI (fun b hb=>⟨hb,rfl⟩) (fun _ _ _ _ _=>rfl)
 ·rw [aF] at hi
  by_cases e1:new=i
  ·subst e1;rw [if_pos rfl] at hi;cases hi
  ·rw [if_neg e1] at hi;exact hs.only i hi
def pc (P:Program) (s:AS) (rs:List ResultVar) (r:AV):List Nat :=
 match FM P s rs with
 | some (xs,_)=>(match (match xs with| [x]=>lk s x r|xs=>lk s (.bk xs) r) with
  | some (ids,_)=>ids
  | none=>[])
 | none=>[]
theorem FN {P:Program} {s:AS} {rs:List ResultVar} {r:AV} {xs:List AV} {C1:List Prop} {ids:List Nat} {D:List Prop} (hg:(match xs with| [x]=>lk s x r|xs=>lk s (.bk xs) r)=some (ids,D)) (hr:FM P s rs=some (xs,C1)):pc P s rs r=ids:=by
 unfold pc
 rw [hr]
 cases xs with
 | nil =>
  have hg:lk s (.bk []) r=some (ids,D):=hg
  show (match lk s (.bk []) r with|some (ids,_)=>ids|none=>[])=ids
  rw [hg]
 | cons x t =>
  cases t with
  | nil =>
   have hg:lk s x r=some (ids,D):=hg
   show (match lk s x r with|some (ids,_)=>ids|none=>[])=ids
   rw [hg]
  | cons y t =>
   have hg:lk s (.bk (x::y::t)) r=some (ids,D):=hg
   show (match lk s (.bk (x::y::t)) r with|some (ids,_)=>ids|none=>[])=ids
   rw [hg]
section
variable {P:Program} {S0:bn} {w0 w:World} {n:Nat} {s:AS} {a:Act} {φ:Nat->Option Nat}
theorem Gv (hs:aO S0 w0 n [] s a w φ) {fn:Func} {r:AV} {C:List Prop} (he:nU P s fn.results.toList r=some C) (hC:bz C) :
  ∃v,(results fn a.tmps).run P w= .ok v w∧(blocks φ (pc P s fn.results.toList r)).Nodup∧s_ (aQ S0 w φ []) w v r (blocks φ (pc P s fn.results.toList r)):=by
 unfold nU at he
 split at he
 ·rename_i xs C1 hr
  split at he
  ·rename_i ids D hg
   split at he
   ·rename_i hn
    cases he
    have Lp:pc P s fn.results.toList r=ids:=FN hg hr
    obtain ⟨iJ,hD⟩:=bT.1 hC
    obtain ⟨vs,cw,hl,hd⟩:=xR hs _ _ _ hr iJ
    have hm:(fn.results.mapM (nz a)).run P w= .ok vs.toArray w:=by
     rw [Array.mapM_eq_mapM_toList,Sem.run_map,cw];rfl
    have IK:(results fn a.tmps).run P w= .ok (if h:vs.toArray.size=1 then vs.toArray[0] else .tuple vs.toArray) w:=by
     have he:results fn a.tmps=(do let vs ←fn.results.mapM (nz a);pure (if h:vs.size=1 then vs[0] else .tuple vs):Sem Value):=by
      unfold results
      congr 1
     rw [he,Sem.run_bind,hm]
     rfl
    rw [Lp]
    refine ⟨_,IK,ki hs (iD hn),?_⟩
    split at hg
    ·rename_i x
     cases vs with
     | nil=>simp at hl
     | cons v vs =>
      have:vs= []:=by simpa using hl
      subst this
      exact qs hs (hd 0 v x rfl rfl) hg hD
    ·rename_i cW
     have dw:¬vs.toArray.size=1:=by
      intro h1
      have h2:xs.length=1:=by rw [←hl];simpa using h1
      obtain ⟨x,rfl⟩:=List.length_eq_one_iff.1 h2
      exact cW x rfl
     rw [dif_neg dw]
     exact qs hs (.bk vs xs hl hd) hg hD
   ·cases he
  ·cases he
 ·cases he
end
def EA (s:AS):List (Nat×Row)->Option (List Prop)
 | []=>some []
 | (k,q)::l=>match look s.H k,EA s l with
  | some ⟨e,p,f,cs⟩,some C=>(match Nat.beq e q.e,p == q.pure,(!q.full || f) with|true,true,true=>some ((cs=q.cells)::C)|_,_,_=>none)
  | _,_=>none
theorem AA {s:AS}:∀ {l:List (Nat×Row)} {C:List Prop},EA s l=some C->bz C-> ∀k q,look l k=some q-> ∃q0,look s.H k=some q0∧q0.e=q.e∧q0.pure=q.pure∧(q.full=true->q0.full=true)∧q0.cells=q.cells
 | [],C,h,hC,k,q,hq=>by cases hq
 | (k',q')::l,C,h,hC,k,q,hq=>by
  simp only [EA] at h
  split at h
  ·rename_i e p f cs C1 h1 h2
   split at h
   ·rename_i he hp hf
    cases h
    rw [aF] at hq
    by_cases ek:k'=k
    ·rw [if_pos ek] at hq;injection hq with hq;subst hq;subst ek
     refine ⟨_,h1,Nat.eq_of_beq_eq_true he,by simpa using hp,fun hq=>?_,hC.1⟩
     simp only [hq,Bool.not_true,Bool.false_or] at hf
     exact hf
    ·rw [if_neg ek] at hq;exact AA h2 hC.2 k q hq
   ·cases h
  ·cases h
def nT (P:Program) (s:AS) (rs:List ResultVar) (r:AV) (H':List (Nat×Row)):Option (List Prop) :=
 match nU P s rs r,EA (a6 s (pc P s rs r++gj (H'.map (·.1)) s.H)) H' with
 | some C,some D=>some (C++D)
 | _,_=>none
def lq (P:Program) (rs:List ResultVar) (r:AV) (H':List (Nat×Row)):Exit->AS->Prop
 | .normal,s=>∃l s2 C,wk l s=some s2∧nT P s2 rs r H'=some C∧bz C
 | .ret,s=>∃l s2 C,wk l s=some s2∧nT P s2 rs r H'=some C∧bz C
 | _,_=>False
theorem yo {H:List (Nat×Row)}:∀ {k:Nat},k∈H.map (·.1)-> ∃q,look H k=some q:=by
 induction H with
 | nil=>intro k h;cases h
 | cons p H ih =>
  obtain ⟨j,x⟩:=p
  intro k h
  rw [aF]
  by_cases e:j=k
  ·exact ⟨x,by rw [if_pos e]⟩
  ·rw [if_neg e]
   simp only [List.map_cons,List.mem_cons] at h
   exact ih (h.resolve_left (Ne.symm e))
theorem gm.qe {P:Program} {f:FuncId} {fn:Func} {c:Code} {args:List AV} {H H':List (Nat×Row)} {r:AV} (hf:P.funcs[f]?=some fn) (hb:fn.body=some c) (n:Nat) (hn:fn.ntmps=n) (iE:args.length≤n) (h:bf P n c (lq P fn.results.toList r H') ⟨k7 0 args,H⟩):gm P f args H r H':=by
 intro w S φ vs j7 Sb hL hl b_
 let Z:bn:=⟨fun b=>S b∨w.heap.size≤b∨lQ φ b,fun b=>lQ φ b,fun id=>if 1000000000000≤id then φ id else none,[]⟩
 have uX:∀b,S b->aQ Z w φ [] b:=fun b hb=>⟨(hL.sep b hb).1,by simp,fun id hid=>(hL.sep b hb).2 ⟨id,hid⟩,Or.inl hb⟩
 have MA:aO Z w n [] ⟨k7 0 args,H⟩ {tmps:=vs.toArray++Array.replicate (fn.ntmps-vs.toArray.size) undef,defers:=[]} w φ:=by
  refine ⟨by simp;omega,rfl,⟨rfl,rfl,rfl,Nat.le_refl _,fun _ _ _=>rfl,j7,fun b hb ⟨id,hid⟩=>Sb id b hid hb⟩,fun i av hi=>?_,fun id q hq=>?_,hL.only,hL.inj,fun id g hg=>⟨⟨?_,.inr ⟨id,hg⟩⟩,hL.lt id g hg⟩,fun _ _ _ h=>(by cases h),fun b hb=>.inr hb⟩
  ·obtain ⟨k,rfl,hk⟩:=mG args 0 i av hi
   have iH:k<vs.length:=by have:=(List.getElem?_eq_some_iff.1 hk).1;omega
   have hv:vs[k]?=some vs[k]:=List.getElem?_eq_getElem iH
   have e:(vs.toArray++Array.replicate (fn.ntmps-vs.toArray.size) undef).getD (0+k) undef=vs[k]:=by
    rw [Nat.zero_add,Array.getD_eq_getD_getElem?,Array.getElem?_append_left (by simpa using iH)]
    simp [iH]
   simp only [e]
   exact (b_ k vs[k] av hv hk).mono (fun _ _ h=>h) (fun b hb=>⟨uX b hb,rfl⟩) (fun _ _ _ _ _=>rfl)
  ·have aR:=hL.rows id q hq
   unfold bR at aR ⊢
   cases hg:φ id with
   | none=>rw [hg] at aR;exact aR
   | some g =>
    rw [hg] at aR
    obtain ⟨cur,te,fr,u1,u2,u3,u4,u5⟩:=aR
    refine ⟨cur,te,fr,u1,u2,u3,u4,fun j u x hu hx=>?_⟩
    have:=u5 j u x hu hx
    unfold bh at this ⊢
    cases hp:q.pure with
    | true=>rw [hp] at this;exact this.mono fun b hb=>⟨uX b hb,rfl⟩
    | false=>rw [hp] at this;exact this.mono (fun _ _ h=>h) (fun b hb=>⟨uX b hb,rfl⟩) (fun _ _ _ _ _=>rfl)
  ·rcases Nat.lt_or_ge id 1000000000000 with h|h
   ·exact .inl h
   ·right;show (if 1000000000000≤id then φ id else none)=some g;rw [if_pos h];exact hg
 refine qK hf hb (Z:=Z) rfl (fun b hb=>.inr hb) (Q:=lq P fn.results.toList r H') (fun e s hq=>by cases e<;>first|exact .inl rfl|exact .inr rfl|exact hq.elim) (h Z w _ w ⟨φ,MA⟩) fun e s0 a' w' hq _ ⟨Rw,lP⟩=>?_
 have Te:∀(s':AS) (iI:Nat->Option Nat),aO Z w n [] s' a' w' iI->(∃C,nT P s' fn.results.toList r H'=some C∧bz C)-> ∃v,(results fn a'.tmps).run P w'= .ok v w'∧ ∃v' O cA,Ending.returned v= .returned v'∧L9 S w w' φ cA O H' v' r:=by
  rintro s' iI b7 ⟨C,he,hC⟩
  unfold nT at he
  split at he
  ·rename_i C1 D h1 h2
   cases he
   obtain ⟨iJ,hD⟩:=bT.1 hC
   obtain ⟨v,cw,ir,uV⟩:=Gv b7 h1 iJ
   generalize Lp:pc P s' fn.results.toList r=ids at *
   obtain ⟨O',hR,VI,-,SR,Bm,-⟩:=xQ (ids++gj (H'.map (·.1)) s'.H) s' iI [] b7
   have gh:=AA h2 hD
   generalize RP:(fun id=>if id∈ids++gj (H'.map (·.1)) s'.H then none else iI id)=j9 at hR
   have e2:∀id,j9 id=if id∈ids++gj (H'.map (·.1)) s'.H then none else iI id:=fun id=>by rw [←RP]
   have sub:∀id g,j9 id=some g->iI id=some g∧id ∉ ids:=fun id g hg=>by
    rw [e2] at hg
    split at hg
    ·cases hg
    ·rename_i fM;exact ⟨hg,fun hm=>fM (by simp [hm])⟩
   let cA:Nat->Option Nat:=fun id=>if (look H' id).isSome then j9 id else none
   have e':∀id g,cA id=some g->j9 id=some g∧(look H' id).isSome:=fun id g hg=>by
    have hg:(if (look H' id).isSome then j9 id else none)=some g:=hg
    split at hg
    ·rename_i h;exact ⟨hg,h⟩
    ·cases hg
   have all:∀id q,look (a6 s' (ids++gj (H'.map (·.1)) s'.H)).H id=some q-> ∃q',look H' id=some q':=by
    intro id q hq
    obtain ⟨fM,q0,Q_,-⟩:=Bm id q hq
    refine yo (Classical.byContradiction fun hm=>?_)
    rcases nF (H'.map (·.1)) s'.H id hm with h|h
    ·rw [Q_] at h;cases h
    ·exact fM (by simp [h])
   have hO:∀g,g∈blocks iI ids->g∈O':=fun g hg=>by
    obtain ⟨i,hi,NA⟩:=ik hg
    exact SR i (by simp [hi]) g NA
   have Pl:∀id g,iI id=some g->w.heap.size≤g∨lQ φ g:=fun id g hg=>(b7.cY id g hg).1.2
   have Qq:∀b,aQ Z w' j9 O' b->Fy S w w' φ cA (blocks iI ids) b:=by
    intro b ⟨f1,f2,f3,f4⟩
    refine ⟨?_,fun hm=>f2 (hO b hm),fun ⟨id,hid⟩=>f3 id (e' id b hid).1⟩
    rcases f4 with h|h|h
    ·exact .inl h
    ·exact .inr ⟨.inl h,f1⟩
    ·exact .inr ⟨.inr h,f1⟩
   refine ⟨v,cw,v,blocks iI ids,cA,rfl,⟨b7.cZ.os,b7.cZ.tape,b7.cZ.output,b7.cZ.size,fun b hb hx=>b7.cZ.block b hb hx,ir,fun g hg=>?_,fun id g hg=>Pl id g (sub id g (e' id g hg).1).1,fun id g uW hg=>?_,⟨fun b hb=>⟨?_,hb.2.2⟩,fun id hid=>?_,fun id pw g hg ja=>?_,fun id g hg=>?_,fun id q hq=>?_⟩,uV.mono fun b hb=>?_⟩⟩
   ·obtain ⟨i,hi,NA⟩:=ik hg
    refine ⟨Pl i g NA,(b7.cY i g NA).2,fun ⟨id,hid⟩=>?_⟩
    obtain ⟨s1,s2⟩:=sub id g (e' id g hid).1
    exact s2 (b7.inj id i g s1 NA ▸ hi)
   ·rcases (b7.cY id g (sub id g (e' id g hg).1).1).1.1 with h|h
    ·omega
    ·have h:(if 1000000000000≤id then φ id else none)=some g:=h
     rw [if_pos uW] at h;exact h
   ·rcases hb.1 with h|h
    ·exact Nat.lt_of_lt_of_le (hL.sep b h).1 b7.cZ.size
    ·exact h.2
   ·show (if (look H' id).isSome then j9 id else none)=none
    rw [hid];rfl
   ·exact b7.inj id pw g (sub id g (e' id g hg).1).1 (sub pw g (e' pw g ja).1).1
   ·exact (b7.cY id g (sub id g (e' id g hg).1).1).2
   ·obtain ⟨q0,u1,u2,u3,u4,u5⟩:=gh id q hq
    have aR:=hR.rows id q0 u1
    have e:cA id=j9 id:=by
     show (if (look H' id).isSome then j9 id else none)=j9 id
     rw [hq];rfl
    rw [e]
    have hI:∀i x,az (a6 s' (ids++gj (H'.map (·.1)) s'.H)).H j9 i=some x->az H' cA i=some x:=by
     intro i x hx
     obtain ⟨ee,m,b⟩:=x
     obtain ⟨p,hp,h3,h4,h5⟩:=aT hx
     obtain ⟨p',EZ⟩:=all i p hp
     obtain ⟨p0,v1,v2,-,-,v5⟩:=gh i p' EZ
     rw [hp] at v1;injection v1 with v1;subst v1
     rw [bu EZ,←v2,←v5,h3,h4]
     have:cA i=j9 i:=by
      show (if (look H' i).isSome then j9 i else none)=j9 i
      rw [EZ];rfl
     rw [this,h5]
    unfold bR at aR ⊢
    cases hg:j9 id with
    | none=>rw [hg] at aR;exact u5 ▸ aR
    | some g =>
     rw [hg] at aR
     obtain ⟨cur,te,fr,v1,v2,v3,v4,v5⟩:=aR
     refine ⟨cur,te,fr,v1,v2,by rw [←u5];exact v3,fun m7=>by rw [←u5];exact v4 (u4 m7),fun j u x hu hx=>?_⟩
     have:=v5 j u x hu (by rw [u5];exact hx)
     unfold bh at this ⊢
     rw [u3] at this
     cases hp:q.pure with
     | true=>rw [hp] at this;exact this.mono fun b hb=>⟨Qq b hb,rfl⟩
     | false=>rw [hp] at this;exact this.mono hI (fun b hb=>⟨Qq b hb,rfl⟩) (fun _ _ _ _ _=>rfl)
   ·refine ⟨?_,fun hm=>?_,fun ⟨id,hid⟩=>hb.2.2.1 id (sub id b (e' id b hid).1).1⟩
    ·rcases hb.2.2.2 with h|h|h
     ·exact .inl h
     ·exact .inr ⟨.inl h,hb.1⟩
     ·exact .inr ⟨.inr h,hb.1⟩
    ·obtain ⟨i,-,NA⟩:=ik hm
     exact hb.2.2.1 i NA
  ·cases he
 have fin:(∃l s2 C,wk l s0=some s2∧nT P s2 fn.results.toList r H'=some C∧bz C)-> ∃v,(results fn a'.tmps).run P w'= .ok v w'∧ ∃v' O cA,Ending.returned v= .returned v'∧L9 S w w' φ cA O H' v' r:=by
  rintro ⟨l,s2,C,hw,he,hC⟩
  obtain ⟨j9,h2⟩:=wB l hw Z w n a' w' ⟨Rw,lP⟩
  exact Te s2 j9 h2 ⟨C,he,hC⟩
 cases e with
 | normal=>exact fin hq
 | ret=>exact fin hq
 | _=>exact hq.elim
theorem gm.H8 {P:Program} {f:FuncId} {fn:Func} {args:List AV} {H H':List (Nat×Row)} {r:AV} (hf:P.funcs[f]?=some fn) (hb:fn.body.isSome=true) (n:Nat) (hn:fn.ntmps=n) (iE:Nat.ble args.length n=true) (h:bf P n (du fn) (lq P fn.results.toList r H') ⟨k7 0 args,H⟩):gm P f args H r H':=by
 cases u6:fn.body with
 | none=>rw [u6] at hb;cases hb
 | some c =>
  have e:du fn=c:=by unfold du;rw [u6]
  rw [e] at h
  exact gm.qe hf u6 n hn (Nat.le_of_ble_eq_true iE) h
theorem lq.KQ {P:Program} {rs:List ResultVar} {r:AV} {H':List (Nat×Row)} {s s2:AS} {C:List Prop} (l:List Wk) (hw:wk l s=some s2) (he:nT P s2 rs r H'=some C) (hC:bz C):lq P rs r H' .ret s:=⟨l,s2,C,hw,he,hC⟩
theorem lq.tg {P:Program} {rs:List ResultVar} {r:AV} {H':List (Nat×Row)} {s s2:AS} {C:List Prop} (l:List Wk) (hw:wk l s=some s2) (he:nT P s2 rs r H'=some C) (hC:bz C):lq P rs r H' .normal s:=⟨l,s2,C,hw,he,hC⟩
structure St where
 v0:UInt64
 v1:UInt64
 v2:UInt64
 v3:UInt64
def rotl (x k:UInt64):UInt64:=x<<<k|||x>>>(64-k)
def aV (s:St):St :=
 let a0:=s.v0+s.v1
 let a1:=rotl s.v1 13^^^a0
 let b0:=rotl a0 32
 let a2:=s.v2+s.v3
 let a3:=rotl s.v3 16^^^a2
 let c0:=b0+a3
 let b3:=rotl a3 21^^^c0
 let b2:=a2+a1
 let b1:=rotl a1 17^^^b2
 let c2:=rotl b2 32
 ⟨c0,b1,c2,b3⟩
def kH:Nat->St->St
 | 0,s=>s
 | n+1,s=>aV (kH n s)
def jF (s:St) (m:UInt64):St:=⟨s.v0,s.v1,s.v2,s.v3^^^m⟩
def KA (s:St) (m:UInt64):St:=⟨s.v0^^^m,s.v1,s.v2,s.v3⟩
def cR (s:St) (m:UInt64):St:=⟨s.v0,s.v1,s.v2^^^m,s.v3⟩
def lO (s:St) (m:UInt64):St:=KA (kH 2 (jF s m)) m
def start (k0 k1:UInt64):St:=⟨k0^^^8317987319222330741,k1^^^7237128888997146477,k0^^^7816392313619706465,k1^^^8387220255154660723⟩
def le:List UInt8->UInt64
 | []=>0
 | b::bs=>le bs<<<8|||b.toUInt64
def nh (k0 k1:UInt64) (b:List UInt8):Nat->St
 | 0=>start k0 k1
 | i+1=>lO (nh k0 k1 b i) (le ((b.drop (8*i)).take 8))
def iV (b:List UInt8):UInt64:=le (b.drop (8*(b.length/8)))|||UInt64.ofNat b.length<<<56
def LJ (s:St):UInt64:=let t:=kH 4 (cR s 255);t.v0^^^t.v1^^^t.v2^^^t.v3
def sum (k0 k1:UInt64) (b:List UInt8):UInt64:=LJ (lO (nh k0 k1 b (b.length/8)) (iV b))
attribute [irreducible] sum
def be (x:UInt64):List UInt8:=[(x>>>56).toUInt8,(x>>>48).toUInt8,(x>>>40).toUInt8,(x>>>32).toUInt8,(x>>>24).toUInt8,(x>>>16).toUInt8,(x>>>8).toUInt8,(x>>>0).toUInt8]
def words:List UInt64->List UInt8
 | []=>[]
 | x::l=>be x++words l
theorem wA (l m:List UInt64):words (l++m)=words l++words m:=by
 induction l with
 | nil=>rfl
 | cons x l ih=>simp [words,ih]
theorem dW (l:List UInt64):(words l).length=8*l.length:=by
 induction l with
 | nil=>rfl
 | cons x l ih=>simp [words,be,ih];omega
theorem M0 (a b c:UInt64):(a|||b)<<<c=a<<<c|||b<<<c:=by
 apply UInt64.eq_of_toBitVec_eq;simp [BitVec.shiftLeft_or_distrib]
theorem KL (c:UInt64) (n:Nat) (h:n+8<64):(c<<<UInt64.ofNat n)<<<8=c<<<UInt64.ofNat (n+8):=by
 rw [show UInt64.ofNat (n+8)=UInt64.ofNat n+8 by rw [UInt64.ofNat_add];rfl]
 rw [UInt64.shiftLeft_add (by rw [UInt64.lt_iff_toNat_lt,UInt64.toNat_ofNat_of_lt' (by show n<2^64;omega)];show n<64;omega) (by decide) (by
  rw [UInt64.lt_iff_toNat_lt,UInt64.toNat_add,UInt64.toNat_ofNat_of_lt' (by show n<2^64;omega)];show (n+8)%2^64<64;omega)]
theorem yq (bs:List UInt8) (c:UInt8) (h:bs.length<8):le (bs++ [c])=le bs|||c.toUInt64<<<UInt64.ofNat (8*bs.length):=by
 induction bs with
 | nil=>simp [le]
 | cons b bs ih =>
  simp only [List.length_cons] at h
  simp only [List.cons_append,le,ih ah,List.length_cons]
  rw [M0,KL _ _ ah,UInt64.or_assoc,UInt64.or_comm (c.toUInt64<<<_),←UInt64.or_assoc]
  rfl
theorem le_zero (bs:List UInt8) (k:Nat) (h:bs.length+k≤8):le (bs++List.replicate k 0)=le bs:=by
 induction k with
 | zero=>simp
 | succ k ih =>
  rw [List.replicate_succ',←List.append_assoc,yq _ _ (by simp;omega),ih ah]
  simp
theorem Fo (x:UInt64) (j:Nat) (h:j<8):(be x).take (j+1)=(be x).take j++ [(x>>>UInt64.ofNat (56-8*j)).toUInt8]:=by
 match j,h with
 | 0,_=>rfl
 | 1,_=>rfl
 | 2,_=>rfl
 | 3,_=>rfl
 | 4,_=>rfl
 | 5,_=>rfl
 | 6,_=>rfl
 | 7,_=>rfl
set_option maxHeartbeats 1600000 in
def hash (d:Int) (b:List UInt8):UInt64:=sum (u64 d) 0 b
def z1 (key:UInt64) (d:Int) (b:List UInt8):UInt64:=sum key (1+u64 d) b
def derive (key:UInt64) (label:List UInt8) (n:Int):UInt64:=z1 key 4 (label++0::words [u64 n])
def eG (f:Nat->UInt8):Nat->UInt64
 | 0=>0
 | t+1=>eG f t<<<8|||(f (7-t)).toUInt64
theorem sx (f:Nat->UInt8):eG f 8=le [f 0,f 1,f 2,f 3,f 4,f 5,f 6,f 7]:=rfl
def dt (b:List UInt8) (j k:Nat):UInt8:=if 8*j+k<b.length then b.getD (8*j+k) 0 else if k=7 then UInt8.ofNat b.length else 0
theorem Mj (f:Nat->UInt8):[f 0,f 1,f 2,f 3,f 4,f 5,f 6,f 7]=(List.range 8).map f:=rfl
theorem FD (b:List UInt8) (j:Nat) (h:8*j+8≤b.length):eG (dt b j) 8=le ((b.drop (8*j)).take 8):=by
 rw [sx,Mj]
 congr 1
 apply List.ext_getElem?
 intro i
 by_cases hi:i<8
 ·rw [List.getElem?_map,List.getElem?_range hi,List.getElem?_take,if_pos hi,List.getElem?_drop]
  simp [dt,show 8*j+i<b.length by omega]
 ·rw [List.getElem?_eq_none (by simp;omega),List.getElem?_eq_none (by simp;omega)]
theorem Iq (n:Nat):(UInt8.ofNat n).toUInt64<<<56=UInt64.ofNat n<<<56:=by
 apply UInt64.toNat_inj.1
 rw [UInt64.toNat_shiftLeft,UInt64.toNat_shiftLeft,UInt8.toNat_toUInt64]
 simp only [UInt8.toNat_ofNat',UInt64.toNat_ofNat',Nat.shiftLeft_eq]
 show n%256*72057594037927936%18446744073709551616=n%18446744073709551616*72057594037927936%18446744073709551616
 omega
theorem FC (b:List UInt8):eG (dt b (b.length/8)) 8=iV b:=by
 have Nr:(List.range 8).map (dt b (b.length/8))=(b.drop (8*(b.length/8))++List.replicate (7-b.length%8) 0)++ [UInt8.ofNat b.length]:=by
  apply List.ext_getElem?
  intro i
  by_cases hi:i<8
  ·rw [List.getElem?_map,List.getElem?_range hi,List.getElem?_append,List.getElem?_append]
   have hl:(b.drop (8*(b.length/8))).length=b.length%8:=by simp;omega
   simp only [List.length_append,hl,List.length_replicate,Option.map_some]
   by_cases h1:i<b.length%8
   ·rw [if_pos ah,if_pos h1,List.getElem?_drop]
    simp [dt,show 8*(b.length/8)+i<b.length by omega]
   ·by_cases h2:i<7
    ·rw [if_pos ah,if_neg h1,List.getElem?_replicate,if_pos ah]
     simp [dt,show ¬8*(b.length/8)+i<b.length by omega,show i≠7 by omega]
    ·obtain rfl:i=7:=ah
     rw [if_neg ah]
     simp [dt,show ¬8*(b.length/8)+7<b.length by omega,show 7-(b.length%8+(7-b.length%8))=0 by omega]
  ·rw [List.getElem?_eq_none (by simp;omega),List.getElem?_eq_none (by simp;omega)]
 rw [sx,Mj,Nr,yq _ _ (by simp;omega),le_zero _ _ (by simp;omega)]
 have V2:8*(b.drop (8*(b.length/8))++List.replicate (7-b.length%8) (0:UInt8)).length=56:=by simp;omega
 rw [V2]
 unfold iV
 rw [←Iq]
 rfl
def wq (k0 k1:UInt64) (b:List UInt8) (j:Nat):St:=if j≤b.length/8 then nh k0 k1 b j else lO (nh k0 k1 b (b.length/8)) (iV b)
theorem G4 (k0 k1:UInt64) (b:List UInt8) (j:Nat) (h:j≤b.length/8):wq k0 k1 b (j+1)=lO (wq k0 k1 b j) (eG (dt b j) 8):=by
 unfold wq
 rw [if_pos h]
 by_cases h2:j+1≤b.length/8
 ·rw [if_pos h2,FD b j ah];rfl
 ·obtain rfl:j=b.length/8:=ah
  rw [if_neg h2,FC]
theorem G5 (k0 k1:UInt64) (b:List UInt8):LJ (wq k0 k1 b (b.length/8+1))=sum k0 k1 b:=by
 unfold wq sum;rw [if_neg ah]
theorem Mk:(Tryz.prog.info? 5).map (fun i=>(i.zero,i.size,i.bytes))=some (some (.int .u8 0),1,1):=by kernel_rfl
theorem E8:Cf Tryz.prog 25 5 (.int .u8 0) 1:=by
 obtain ⟨i,h,h1,h2,h3⟩:=info_parts Mk
 exact ⟨Tryz.underlying25,⟨i,h,h1,h2,h3⟩,rfl,by decide⟩
def qP (w:World) (e:Ending) (w':World) (bs:List UInt8):Prop :=
 ∃v,e= .returned v∧wu w' w.heap.size v (sM bs)∧Below w.heap.size w w'
theorem KR {S:Nat->Prop} {w:World} {v u:Value} (h:cB S w v (.val u)):v=u:=by cases h;rfl
theorem bC.A7 {P:Program} {f:FuncId} {args:List AV} {bs:List UInt8} (h:∀(w:World) (vs:List Value),vs.length=args.length->(∀(j:Nat) v x,vs[j]?=some v->args[j]?=some x->cB (fun b=>b<w.heap.size) w v x) ->
  Calls P f vs.toArray w fun e w'=>qP w e w' bs):bC P f args (.own 1 (ag bs)):=by
 intro w S vs _ hS hl hr
 refine (h w vs hl fun j v x hv hx=>(hr j v x hv hx).mono fun b hb=>⟨hS b hb,rfl⟩).mono fun e w' ⟨v,he,ho,hb⟩=>?_
 rcases ho with ⟨rfl,hn⟩|⟨g,cap,cur,te,fr,rfl,Bu,hg,Gh,tq,xi,Mn,gJ⟩
 ·have:bs= []:=by cases bs with
   | nil=>rfl
   | cons a l=>simp [sM] at hn
  subst this
  exact ⟨_,[],he,hb,List.nodup_nil,by simp,.inl (.inl (.nil 1))⟩
 ·have dk:g<w'.heap.size:=by
   rcases Nat.lt_or_ge g w'.heap.size with h|h
   ·exact h
   ·rw [Array.getElem?_eq_none h] at hg;cases hg
  refine ⟨_,[g],he,hb,by simp,by simp [Bu,dk],.inl (.inl (.own g _ cap 1 (ag bs) cur te fr hg (fun j hj=>gJ j ah) (by rw [aD,gn,Nat.one_mul]) Gh tq ah ?_))⟩
  intro j u x hu hx
  have hj:j<bs.length:=by have:=(List.getElem?_eq_some_iff.1 hx).1;rwa [aD] at this
  have Kn:x= .val (.int .u8 (bv bs[j])):=by simp [ag,hj] at hx;exact hx.symm
  subst Kn
  have IG:(sM bs)[j]?=some u:=by
   rw [←Mn,List.getElem?_take_of_lt (by rw [gn];exact hj)];simpa using hu
  have:u= .int .u8 (bv bs[j]):=by simp [sM,hj] at IG;exact IG.symm
  subst this
  exact .val _
theorem Fq {vs:List Value} {xs:List AV} (h:vs.length=xs.length) (hx:xs.length=1):∃v,vs= [v]:=by
 match vs,h with
 | [v],_=>exact ⟨v,rfl⟩
 | [],h=>simp at h;omega
 | _::_::_,h=>simp at h;omega
theorem QP {vs:List Value} {xs:List AV} (h:vs.length=xs.length) (hx:xs.length=2):∃v u,vs= [v,u]:=by
 match vs,h with
 | [v,u],_=>exact ⟨v,u,rfl⟩
 | [],h=>simp at h;omega
 | [_],h=>simp at h;omega
 | _::_::_::_,h=>simp at h;omega
theorem QO {vs:List Value} {xs:List AV} (h:vs.length=xs.length) (hx:xs.length=3):∃v u t,vs= [v,u,t]:=by
 match vs,h with
 | [v,u,t],_=>exact ⟨v,u,t,rfl⟩
 | [],h=>simp at h;omega
 | [_],h=>simp at h;omega
 | [_,_],h=>simp at h;omega
 | _::_::_::_::_,h=>simp at h;omega
end Go.Proofs.YtjgbhhnghedgdaaGreatDoor
