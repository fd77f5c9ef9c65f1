import Derived.Test.YtjgbhhnghedgdaaGreatDoorZaRF
set_option linter.all false
namespace Go.Proofs.YtjgbhhnghedgdaaGreatDoor
open Go.RowKit
def pt (id n:Nat):AV->AV
 | .ref i=>match Nat.beq i id with|true=>.dead|false=>.ref i
 | .pre i k=>match Nat.beq i id with|true=>(match Nat.beq k n with|true=>.ref id|false=>.dead)|false=>.pre i k
 | .js i o k=>match Nat.beq i id with|true=>.dead|false=>.js i o k
 | .addr i o=>match Nat.beq i id with|true=>.dead|false=>.addr i o
 | .agg _=>.dead
 | .bq _=>.dead
 | x=>x
theorem Ju (id n:Nat):pt id n (.pre id n)= .ref id:=by
 have h:∀k:Nat,Nat.beq k k=true:=fun k=>Nat.beq_refl k
 simp only [pt,h]
def Lx (id n:Nat):AV->AV
 | .agg cs=>.agg (cs.map (pt id n))
 | x=>pt id n x
def Lw (id n:Nat):AV->AV
 | .bq cs=>.bq (cs.map (Lx id n))
 | x=>Lx id n x
def kS (id n:Nat) (r:Row):Row:=match r.pure with|true=>r|false=>⟨r.e,false,r.full,r.cells.map (pt id n)⟩
theorem ve (id n:Nat) (r:Row):(kS id n r).e=r.e∧(kS id n r).cells.length=r.cells.length∧(kS id n r).pure=r.pure∧(kS id n r).full=r.full:=by
 unfold kS;cases h:r.pure<;>simp [h]
def Jt (id n:Nat) (r:Row) (s:AS):AS:=⟨eg (Lw id n) s.F,(id,⟨r.e,true,false,r.cells.take n⟩)::eg (kS id n) (cS s.H id)⟩
theorem Du (id n:Nat) (y:AV) (h:∀cs,y≠ .agg cs):Lx id n y=pt id n y:=by
 cases y with
 | agg cs=>exact absurd rfl (h cs)
 | _=>rfl
theorem Dt (id n:Nat) (y:AV) (h:∀cs,y≠ .bq cs):Lw id n y=Lx id n y:=by
 cases y with
 | bq cs=>exact absurd rfl (h cs)
 | _=>rfl
section
variable {I I':Info} {S:Nat->Prop} {w:World}
theorem EO (id n:Nat) (hI:∀i x,i≠id->I i=some x->I' i=some x) (hc:∀e m b,I id=some (e,m,b)->n≤m->I' id=some (e,n,b)):jU I I' S S w (pt id n) where
 agg:=fun _=>rfl
 bq:=fun _=>rfl
 leaf:=fun v x hx h1 h2=>by
  cases hx with
  | rep h=>cases h with
   | val v=>exact .rep (.val v)
   | nil=>exact .rep .nil
   | agg vs cs _ _=>exact absurd rfl (h1 cs)
   | bq vs cs _ _=>exact absurd rfl (h2 cs)
   | arr vs cs hl h=>exact .rep (.arr vs cs hl h)
   | sl A n c e us row hl hn hc hm ha h=>exact .rep (.sl A n c e us row hl hn hc hm ha h)
   | pg A n e us row hl hn hm ha h=>exact .rep (.pg A n e us row hl hn hm ha h)
   | ptr ad us row off hl hs ha h=>exact .rep (.ptr ad us row off hl hs ha h)
   | lI f vs cs hl h=>exact .rep (.lI f vs cs hl h)
  | agg vs cs _ _=>exact absurd rfl (h1 cs)
  | bq vs cs _ _=>exact absurd rfl (h2 cs)
  | ref i e m g l c hi hm hc hx hs =>
   rcases bJ i id with ⟨h,e⟩|⟨h,e⟩<;>simp only [pt,h]
   ·exact .dead _
   ·exact .ref i _ m g l c (hI _ _ e hi) hm hc hx hs
  | cD i e hi =>
   rcases bJ i id with ⟨h,e⟩|⟨h,e⟩<;>simp only [pt,h]
   ·exact .dead _
   ·exact .cD i _ (hI _ _ e hi)
  | pre i k e m g l c hi hn hm Oz hx hs =>
   rcases bJ i id with ⟨h,e⟩|⟨h,e⟩<;>simp only [pt,h]
   ·rcases bJ k n with ⟨h3,e3⟩|⟨h3,e3⟩<;>simp only [h3]
    ·subst e;subst e3
     exact .ref i _ k g l c (hc _ _ _ hi hm) hn Oz hx hs
    ·exact .dead _
   ·exact .pre i k _ m g l c (hI _ _ e hi) hn hm Oz hx hs
  | dC i e hi =>
   rcases bJ i id with ⟨h,e⟩|⟨h,e⟩<;>simp only [pt,h]
   ·rcases bJ 0 n with ⟨h3,e3⟩|⟨h3,e3⟩<;>simp only [h3]
    ·subst e;subst e3
     exact .cD i _ (hc _ _ _ hi (Nat.le_refl _))
    ·exact .dead _
   ·exact .dC i _ (hI _ _ e hi)
  | js i off k e m l c g A hi hn hm hc hx ha =>
   rcases bJ i id with ⟨h,e⟩|⟨h,e⟩<;>simp only [pt,h]
   ·exact .dead _
   ·exact .js i off k _ m l c g A (hI _ _ e hi) hn hm hc hx ha
  | addr i off e m g hi =>
   rcases bJ i id with ⟨h,e⟩|⟨h,e⟩<;>simp only [pt,h]
   ·exact .dead _
   ·exact .addr i off _ m g (hI _ _ e hi)
  | dead v=>exact .dead _
theorem Den.cut (id n:Nat) (hI:∀i x,i≠id->I i=some x->I' i=some x) (hc:∀e m b,I id=some (e,m,b)->n≤m->I' id=some (e,n,b)) {v:Value} {x:AV} (h:Den I S w v x):Den I' S w v (Lw id n x) :=
 (EO id n hI hc).two h (fun _=>rfl) (Du id n) (fun _=>rfl) (Dt id n)
end
theorem bS.cut {s:AS} (id n:Nat) {r:Row} (hr:look s.H id=some r) (hp:r.pure=true) (hn:n≤r.cells.length):bS s (Jt id n r s):=by
 intro S0 w0 N a w ⟨φ,hs⟩
 have lB:∀i,look (Jt id n r s).H i=if id=i then some ⟨r.e,true,false,r.cells.take n⟩ else (look s.H i).map (kS id n):=by
  intro i
  unfold Jt
  simp only
  rw [aE,cy,bI]
  by_cases e:id=i<;>simp [e]
 have hI:∀i x,i≠id->az s.H φ i=some x->az (Jt id n r s).H φ i=some x:=by
  intro i x hi hx
  unfold az at hx ⊢
  rw [lB,if_neg (Ne.symm hi)]
  cases hl:look s.H i with
  | none=>rw [hl] at hx;cases hx
  | some q =>
   rw [hl] at hx
   obtain ⟨m1,m2,-,-⟩:=ve id n q
   simpa [m1,m2] using hx
 have hc:∀e m b,az s.H φ id=some (e,m,b)->n≤m->az (Jt id n r s).H φ id=some (e,n,b):=by
  intro e m b hx _
  unfold az at hx ⊢
  rw [lB,if_pos rfl]
  rw [hr] at hx
  simp only [Option.map_some,Option.some.injEq,Prod.mk.injEq] at hx ⊢
  obtain ⟨h1,-,h3⟩:=hx
  exact ⟨h1,by rw [List.length_take];omega,h3⟩
 refine ⟨φ,hs.jP,hs.jS,hs.cX,fun i av hi=>?_,fun i q hq=>?_,fun i hi=>?_,hs.inj,hs.cW,hs.apart,hs.new⟩
 ·have hi:look (eg (Lw id n) s.F) i=some av:=hi
  rw [cy] at hi
  cases hl:look s.F i with
  | none=>rw [hl] at hi;cases hi
  | some x =>
   rw [hl] at hi;injection hi with hi;subst hi
   exact (hs.cC i x hl).cut id n hI hc
 ·rw [lB] at hq
  by_cases e:id=i
  ·subst e
   rw [if_pos rfl] at hq;injection hq with hq;subst hq
   have aP:=hs.rows id r hr
   unfold bN at aP ⊢
   cases hg:φ id with
   | none=>rw [hg] at aP;simp only at aP ⊢;rw [aP];simp
   | some g =>
    rw [hg] at aP
    obtain ⟨cur,te,fr,u1,u2,u3,u4,u5⟩:=aP
    refine ⟨cur,te,fr,u1,u2,by simp only [List.length_take];omega,fun h=>(by cases h),fun k u x hu hx=>?_⟩
    simp only [List.getElem?_take] at hx
    split at hx
    ·have:=u5 k u x hu hx
     unfold bg at this ⊢
     rw [hp] at this
     exact this
    ·cases hx
  ·rw [if_neg e] at hq
   cases hl:look s.H i with
   | none=>rw [hl] at hq;cases hq
   | some q0 =>
    rw [hl] at hq;injection hq with hq;subst hq
    obtain ⟨m1,m2,m3,m4⟩:=ve id n q0
    have aP:=hs.rows i q0 hl
    unfold bN at aP ⊢
    cases hg:φ i with
    | none =>
     rw [hg] at aP
     simp only at aP ⊢
     exact List.eq_nil_of_length_eq_zero (by rw [m2,aP];rfl)
    | some g =>
     rw [hg] at aP
     obtain ⟨cur,te,fr,u1,u2,u3,u4,u5⟩:=aP
     refine ⟨cur,te,fr,u1,u2,by rw [m2];exact u3,fun h=>by rw [m2];exact u4 (by rw [←m4];exact h),fun k u x hu hx=>?_⟩
     unfold bg
     cases Ii:q0.pure with
     | true =>
      have e1:kS id n q0=q0:=by unfold kS;rw [Ii]
      rw [e1] at hx ⊢
      have:=u5 k u x hu hx
      unfold bg at this
      rw [Ii] at this ⊢
      exact this
     | false =>
      have e1:(kS id n q0).cells=q0.cells.map (pt id n):=by unfold kS;rw [Ii]
      rw [m3,Ii]
      rw [e1,List.getElem?_map] at hx
      cases hj:q0.cells[k]? with
      | none=>rw [hj] at hx;cases hx
      | some y =>
       rw [hj] at hx;injection hx with hx;subst hx
       have:=u5 k u y hu hj
       unfold bg at this
       rw [Ii] at this
       exact (EO id n hI hc).all this
 ·rw [lB] at hi
  by_cases e:id=i
  ·subst e;rw [if_pos rfl] at hi;cases hi
  ·rw [if_neg e] at hi
   exact hs.only i (by simpa using hi)
theorem bS.add {s:AS} (new e:Nat) (hn:look s.H new=none):bS s ⟨s.F,(new,⟨e,true,false,[]⟩)::s.H⟩:=by
 intro S0 w0 n a w ⟨φ,hs⟩
 have cm:φ new=none:=hs.only new hn
 have hI:∀i x,az s.H φ i=some x->az ((new,(⟨e,true,false,[]⟩:Row))::s.H) φ i=some x:=by
  intro i x hx
  unfold az at hx ⊢
  rw [aE]
  by_cases e1:new=i
  ·subst e1;rw [hn] at hx;cases hx
  ·rw [if_neg e1];exact hx
 refine ⟨φ,hs.jP,hs.jS,hs.cX,fun i av hi=>(hs.cC i av hi).mono hI (fun b hb=>⟨hb,rfl⟩) (fun _ _ _ _ _=>rfl),fun i q hq=>?_,fun i hi=>?_,hs.inj,hs.cW,hs.apart,hs.new⟩
 ·rw [aE] at hq
  by_cases e1:new=i
  ·subst e1
   rw [if_pos rfl] at hq;injection hq with hq;subst hq
   unfold bN;rw [cm]
  ·rw [if_neg e1] at hq
   have aP:=hs.rows i q hq
   unfold bN at aP ⊢
   cases hg:φ i with
   | none=>rw [hg] at aP;exact aP
   | some g =>
    rw [hg] at aP
    obtain ⟨cur,te,fr,u1,u2,u3,u4,u5⟩:=aP
    refine ⟨cur,te,fr,u1,u2,u3,u4,fun k u x hu hx=>?_⟩
    have:=u5 k u x hu hx
    unfold bg at this ⊢
    cases Ii:q.pure with
    | true=>rw [Ii] at this;exact this
    | false=>rw [Ii] at this;exact this.mono hI (fun b hb=>⟨hb,rfl⟩) (fun _ _ _ _ _=>rfl)
 ·rw [aE] at hi
  by_cases e1:new=i
  ·subst e1;rw [if_pos rfl] at hi;cases hi
  ·rw [if_neg e1] at hi;exact hs.only i hi
def oX (P:Program) (s:AS) (rs:List ResultVar) (r:AV):List Nat :=
 match Fe P s rs with
 | some (xs,_)=>(match (match xs with| [x]=>lb s x r|xs=>lb s (.bq xs) r) with
  | some (ids,_)=>ids
  | none=>[])
 | none=>[]
theorem Ff {P:Program} {s:AS} {rs:List ResultVar} {r:AV} {xs:List AV} {C1:List Prop} {ids:List Nat} {D:List Prop} (hg:(match xs with| [x]=>lb s x r|xs=>lb s (.bq xs) r)=some (ids,D)) (hr:Fe P s rs=some (xs,C1)):oX P s rs r=ids:=by
 unfold oX
 rw [hr]
 cases xs with
 | nil =>
  have hg:lb s (.bq []) r=some (ids,D):=hg
  show (match lb s (.bq []) r with|some (ids,_)=>ids|none=>[])=ids
  rw [hg]
 | cons x t =>
  cases t with
  | nil =>
   have hg:lb s x r=some (ids,D):=hg
   show (match lb s x r with|some (ids,_)=>ids|none=>[])=ids
   rw [hg]
  | cons y t =>
   have hg:lb s (.bq (x::y::t)) r=some (ids,D):=hg
   show (match lb s (.bq (x::y::t)) r with|some (ids,_)=>ids|none=>[])=ids
   rw [hg]
section
variable {P:Program} {S0:bm} {w0 w:World} {n:Nat} {s:AS} {a:Act} {φ:Nat->Option Nat}
theorem FY (hs:aL S0 w0 n [] s a w φ) {fn:Func} {r:AV} {C:List Prop} (he:nL P s fn.results.toList r=some C) (hC:bx C) :
  ∃v,(results fn a.tmps).run P w= .ok v w∧(blocks φ (oX P s fn.results.toList r)).Nodup∧sP (aN S0 w φ []) w v r (blocks φ (oX P s fn.results.toList r)):=by
 unfold nL at he
 split at he
 ·rename_i xs C1 hr
  split at he
  ·rename_i ids D hg
   split at he
   ·rename_i hn
    cases he
    have K2:oX P s fn.results.toList r=ids:=Ff hg hr
    obtain ⟨iI,hD⟩:=bQ.1 hC
    obtain ⟨vs,cp,hl,hd⟩:=xm hs _ _ _ hr iI
    have hm:(fn.results.mapM (nk a)).run P w= .ok vs.toArray w:=by
     rw [Array.mapM_eq_mapM_toList,Sem.run_map,cp];rfl
    have Ig:(results fn a.tmps).run P w= .ok (if h:vs.toArray.size=1 then vs.toArray[0] else .tuple vs.toArray) w:=by
     have he:results fn a.tmps=(do let vs ←fn.results.mapM (nk a);pure (if h:vs.size=1 then vs[0] else .tuple vs):Sem Value):=by
      unfold results
      congr 1
     rw [he,Sem.run_bind,hm]
     rfl
    rw [K2]
    refine ⟨_,Ig,ka hs (iB hn),?_⟩
    split at hg
    ·rename_i x
     cases vs with
     | nil=>simp at hl
     | cons v vs =>
      have:vs= []:=by simpa using hl
      subst this
      exact qe hs (hd 0 v x rfl rfl) hg hD
    ·rename_i cV
     have dw:¬vs.toArray.size=1:=by
      intro h1
      have h2:xs.length=1:=by rw [←hl];simpa using h1
      obtain ⟨x,rfl⟩:=List.length_eq_one_iff.1 h2
      exact cV x rfl
     rw [dif_neg dw]
     exact qe hs (.bq vs xs hl hd) hg hD
   ·cases he
  ·cases he
 ·cases he
end
def D7 (s:AS):List (Nat×Row)->Option (List Prop)
 | []=>some []
 | (k,q)::l=>match look s.H k,D7 s l with
  | some ⟨e,p,f,cs⟩,some C=>(match Nat.beq e q.e,p == q.pure,(!q.full || f) with|true,true,true=>some ((cs=q.cells)::C)|_,_,_=>none)
  | _,_=>none
theorem zY {s:AS}:∀ {l:List (Nat×Row)} {C:List Prop},D7 s l=some C->bx C-> ∀k q,look l k=some q-> ∃q0,look s.H k=some q0∧q0.e=q.e∧q0.pure=q.pure∧(q.full=true->q0.full=true)∧q0.cells=q.cells
 | [],C,h,hC,k,q,hq=>by cases hq
 | (k',q')::l,C,h,hC,k,q,hq=>by
  simp only [D7] at h
  split at h
  ·rename_i e p f cs C1 h1 h2
   split at h
   ·rename_i he hp hf
    cases h
    rw [aE] at hq
    by_cases ek:k'=k
    ·rw [if_pos ek] at hq;injection hq with hq;subst hq;subst ek
     refine ⟨_,h1,Nat.eq_of_beq_eq_true he,by simpa using hp,fun hq=>?_,hC.1⟩
     simp only [hq,Bool.not_true,Bool.false_or] at hf
     exact hf
    ·rw [if_neg ek] at hq;exact zY h2 hC.2 k q hq
   ·cases h
  ·cases h
def nK (P:Program) (s:AS) (rs:List ResultVar) (r:AV) (H':List (Nat×Row)):Option (List Prop) :=
 match nL P s rs r,D7 (ba s (oX P s rs r++fY (H'.map (·.1)) s.H)) H' with
 | some C,some D=>some (C++D)
 | _,_=>none
def lh (P:Program) (rs:List ResultVar) (r:AV) (H':List (Nat×Row)):Exit->AS->Prop
 | .normal,s=>∃l s2 C,wk l s=some s2∧nK P s2 rs r H'=some C∧bx C
 | .ret,s=>∃l s2 C,wk l s=some s2∧nK P s2 rs r H'=some C∧bx C
 | _,_=>False
theorem xL {H:List (Nat×Row)}:∀ {k:Nat},k∈H.map (·.1)-> ∃q,look H k=some q:=by
 induction H with
 | nil=>intro k h;cases h
 | cons p H ih =>
  obtain ⟨j,x⟩:=p
  intro k h
  rw [aE]
  by_cases e:j=k
  ·exact ⟨x,by rw [if_pos e]⟩
  ·rw [if_neg e]
   simp only [List.map_cons,List.mem_cons] at h
   exact ih (h.resolve_left (Ne.symm e))
theorem ga.pV {P:Program} {f:FuncId} {fn:Func} {c:Code} {args:List AV} {H H':List (Nat×Row)} {r:AV} (hf:P.funcs[f]?=some fn) (hb:fn.body=some c) (n:Nat) (hn:fn.ntmps=n) (iC:args.length≤n) (h:bf P n c (lh P fn.results.toList r H') ⟨kV 0 args,H⟩):ga P f args H r H':=by
 intro w S φ vs jZ RL hL hl bZ
 let Z:bm:=⟨fun b=>S b∨w.heap.size≤b∨lJ φ b,fun b=>lJ φ b,fun id=>if 1000000000000≤id then φ id else none,[]⟩
 have uH:∀b,S b->aN Z w φ [] b:=fun b hb=>⟨(hL.sep b hb).1,by simp,fun id hid=>(hL.sep b hb).2 ⟨id,hid⟩,Or.inl hb⟩
 have Me:aL Z w n [] ⟨kV 0 args,H⟩ {tmps:=vs.toArray++Array.replicate (fn.ntmps-vs.toArray.size) undef,defers:=[]} w φ:=by
  refine ⟨by simp;omega,rfl,⟨rfl,rfl,rfl,Nat.le_refl _,fun _ _ _=>rfl,jZ,fun b hb ⟨id,hid⟩=>RL id b hid hb⟩,fun i av hi=>?_,fun id q hq=>?_,hL.only,hL.inj,fun id g hg=>⟨⟨?_,.inr ⟨id,hg⟩⟩,hL.lt id g hg⟩,fun _ _ _ h=>(by cases h),fun b hb=>.inr hb⟩
  ·obtain ⟨k,rfl,hk⟩:=mw args 0 i av hi
   have iG:k<vs.length:=by have:=(List.getElem?_eq_some_iff.1 hk).1;omega
   have hv:vs[k]?=some vs[k]:=List.getElem?_eq_getElem iG
   have e:(vs.toArray++Array.replicate (fn.ntmps-vs.toArray.size) undef).getD (0+k) undef=vs[k]:=by
    rw [Nat.zero_add,Array.getD_eq_getD_getElem?,Array.getElem?_append_left (by simpa using iG)]
    simp [iG]
   simp only [e]
   exact (bZ k vs[k] av hv hk).mono (fun _ _ h=>h) (fun b hb=>⟨uH b hb,rfl⟩) (fun _ _ _ _ _=>rfl)
  ·have aP:=hL.rows id q hq
   unfold bN at aP ⊢
   cases hg:φ id with
   | none=>rw [hg] at aP;exact aP
   | some g =>
    rw [hg] at aP
    obtain ⟨cur,te,fr,u1,u2,u3,u4,u5⟩:=aP
    refine ⟨cur,te,fr,u1,u2,u3,u4,fun j u x hu hx=>?_⟩
    have:=u5 j u x hu hx
    unfold bg at this ⊢
    cases hp:q.pure with
    | true=>rw [hp] at this;exact this.mono fun b hb=>⟨uH b hb,rfl⟩
    | false=>rw [hp] at this;exact this.mono (fun _ _ h=>h) (fun b hb=>⟨uH b hb,rfl⟩) (fun _ _ _ _ _=>rfl)
  ·rcases Nat.lt_or_ge id 1000000000000 with h|h
   ·exact .inl h
   ·right;show (if 1000000000000≤id then φ id else none)=some g;rw [if_pos h];exact hg
 refine qv hf hb (Z:=Z) rfl (fun b hb=>.inr hb) (Q:=lh P fn.results.toList r H') (fun e s hq=>by cases e<;>first|exact .inl rfl|exact .inr rfl|exact hq.elim) (h Z w _ w ⟨φ,Me⟩) fun e s0 a' w' hq _ ⟨Q7,lH⟩=>?_
 have SI:∀(s':AS) (iH:Nat->Option Nat),aL Z w n [] s' a' w' iH->(∃C,nK P s' fn.results.toList r H'=some C∧bx C)-> ∃v,(results fn a'.tmps).run P w'= .ok v w'∧ ∃v' O cB,Ending.returned v= .returned v'∧LK S w w' φ cB O H' v' r:=by
  rintro s' iH bY ⟨C,he,hC⟩
  unfold nK at he
  split at he
  ·rename_i C1 D h1 h2
   cases he
   obtain ⟨iI,hD⟩:=bQ.1 hC
   obtain ⟨v,cp,ik,uF⟩:=FY bY h1 iI
   generalize K2:oX P s' fn.results.toList r=ids at *
   obtain ⟨O',hR,Vm,-,Ss,AL,-⟩:=xl (ids++fY (H'.map (·.1)) s'.H) s' iH [] bY
   have gh:=zY h2 hD
   generalize Rq:(fun id=>if id∈ids++fY (H'.map (·.1)) s'.H then none else iH id)=j6 at hR
   have e2:∀id,j6 id=if id∈ids++fY (H'.map (·.1)) s'.H then none else iH id:=fun id=>by rw [←Rq]
   have sub:∀id g,j6 id=some g->iH id=some g∧id ∉ ids:=fun id g hg=>by
    rw [e2] at hg
    split at hg
    ·cases hg
    ·rename_i gf;exact ⟨hg,fun hm=>gf (by simp [hm])⟩
   let cB:Nat->Option Nat:=fun id=>if (look H' id).isSome then j6 id else none
   have e':∀id g,cB id=some g->j6 id=some g∧(look H' id).isSome:=fun id g hg=>by
    have hg:(if (look H' id).isSome then j6 id else none)=some g:=hg
    split at hg
    ·rename_i h;exact ⟨hg,h⟩
    ·cases hg
   have all:∀id q,look (ba s' (ids++fY (H'.map (·.1)) s'.H)).H id=some q-> ∃q',look H' id=some q':=by
    intro id q hq
    obtain ⟨gf,q0,QN,-⟩:=AL id q hq
    refine xL (Classical.byContradiction fun hm=>?_)
    rcases nw (H'.map (·.1)) s'.H id hm with h|h
    ·rw [QN] at h;cases h
    ·exact gf (by simp [h])
   have hO:∀g,g∈blocks iH ids->g∈O':=fun g hg=>by
    obtain ⟨i,hi,Nc⟩:=ie hg
    exact Ss i (by simp [hi]) g Nc
   have OW:∀id g,iH id=some g->w.heap.size≤g∨lJ φ g:=fun id g hg=>(bY.cW id g hg).1.2
   have P9:∀b,aN Z w' j6 O' b->E0 S w w' φ cB (blocks iH ids) b:=by
    intro b ⟨f1,f2,f3,f4⟩
    refine ⟨?_,fun hm=>f2 (hO b hm),fun ⟨id,hid⟩=>f3 id (e' id b hid).1⟩
    rcases f4 with h|h|h
    ·exact .inl h
    ·exact .inr ⟨.inl h,f1⟩
    ·exact .inr ⟨.inr h,f1⟩
   refine ⟨v,cp,v,blocks iH ids,cB,rfl,⟨bY.cX.os,bY.cX.tape,bY.cX.output,bY.cX.size,fun b hb hx=>bY.cX.block b hb hx,ik,fun g hg=>?_,fun id g hg=>OW id g (sub id g (e' id g hg).1).1,fun id g uG hg=>?_,⟨fun b hb=>⟨?_,hb.2.2⟩,fun id hid=>?_,fun id pd g hg ja=>?_,fun id g hg=>?_,fun id q hq=>?_⟩,uF.mono fun b hb=>?_⟩⟩
   ·obtain ⟨i,hi,Nc⟩:=ie hg
    refine ⟨OW i g Nc,(bY.cW i g Nc).2,fun ⟨id,hid⟩=>?_⟩
    obtain ⟨s1,s2⟩:=sub id g (e' id g hid).1
    exact s2 (bY.inj id i g s1 Nc ▸ hi)
   ·rcases (bY.cW id g (sub id g (e' id g hg).1).1).1.1 with h|h
    ·omega
    ·have h:(if 1000000000000≤id then φ id else none)=some g:=h
     rw [if_pos uG] at h;exact h
   ·rcases hb.1 with h|h
    ·exact Nat.lt_of_lt_of_le (hL.sep b h).1 bY.cX.size
    ·exact h.2
   ·show (if (look H' id).isSome then j6 id else none)=none
    rw [hid];rfl
   ·exact bY.inj id pd g (sub id g (e' id g hg).1).1 (sub pd g (e' pd g ja).1).1
   ·exact (bY.cW id g (sub id g (e' id g hg).1).1).2
   ·obtain ⟨q0,u1,u2,u3,u4,u5⟩:=gh id q hq
    have aP:=hR.rows id q0 u1
    have e:cB id=j6 id:=by
     show (if (look H' id).isSome then j6 id else none)=j6 id
     rw [hq];rfl
    rw [e]
    have hI:∀i x,az (ba s' (ids++fY (H'.map (·.1)) s'.H)).H j6 i=some x->az H' cB i=some x:=by
     intro i x hx
     obtain ⟨ee,m,b⟩:=x
     obtain ⟨p,hp,h3,h4,h5⟩:=aQ hx
     obtain ⟨p',Ew⟩:=all i p hp
     obtain ⟨p0,v1,v2,-,-,v5⟩:=gh i p' Ew
     rw [hp] at v1;injection v1 with v1;subst v1
     rw [br Ew,←v2,←v5,h3,h4]
     have:cB i=j6 i:=by
      show (if (look H' i).isSome then j6 i else none)=j6 i
      rw [Ew];rfl
     rw [this,h5]
    unfold bN at aP ⊢
    cases hg:j6 id with
    | none=>rw [hg] at aP;exact u5 ▸ aP
    | some g =>
     rw [hg] at aP
     obtain ⟨cur,te,fr,v1,v2,v3,v4,v5⟩:=aP
     refine ⟨cur,te,fr,v1,v2,by rw [←u5];exact v3,fun mS=>by rw [←u5];exact v4 (u4 mS),fun j u x hu hx=>?_⟩
     have:=v5 j u x hu (by rw [u5];exact hx)
     unfold bg at this ⊢
     rw [u3] at this
     cases hp:q.pure with
     | true=>rw [hp] at this;exact this.mono fun b hb=>⟨P9 b hb,rfl⟩
     | false=>rw [hp] at this;exact this.mono hI (fun b hb=>⟨P9 b hb,rfl⟩) (fun _ _ _ _ _=>rfl)
   ·refine ⟨?_,fun hm=>?_,fun ⟨id,hid⟩=>hb.2.2.1 id (sub id b (e' id b hid).1).1⟩
    ·rcases hb.2.2.2 with h|h|h
     ·exact .inl h
     ·exact .inr ⟨.inl h,hb.1⟩
     ·exact .inr ⟨.inr h,hb.1⟩
    ·obtain ⟨i,-,Nc⟩:=ie hm
     exact hb.2.2.1 i Nc
  ·cases he
 have fin:(∃l s2 C,wk l s0=some s2∧nK P s2 fn.results.toList r H'=some C∧bx C)-> ∃v,(results fn a'.tmps).run P w'= .ok v w'∧ ∃v' O cB,Ending.returned v= .returned v'∧LK S w w' φ cB O H' v' r:=by
  rintro ⟨l,s2,C,hw,he,hC⟩
  obtain ⟨j6,h2⟩:=vQ l hw Z w n a' w' ⟨Q7,lH⟩
  exact SI s2 j6 h2 ⟨C,he,hC⟩
 cases e with
 | normal=>exact fin hq
 | ret=>exact fin hq
 | _=>exact hq.elim
theorem ga.HE {P:Program} {f:FuncId} {fn:Func} {args:List AV} {H H':List (Nat×Row)} {r:AV} (hf:P.funcs[f]?=some fn) (hb:fn.body.isSome=true) (n:Nat) (hn:fn.ntmps=n) (iC:Nat.ble args.length n=true) (h:bf P n (dt fn) (lh P fn.results.toList r H') ⟨kV 0 args,H⟩):ga P f args H r H':=by
 cases uL:fn.body with
 | none=>rw [uL] at hb;cases hb
 | some c =>
  have e:dt fn=c:=by unfold dt;rw [uL]
  rw [e] at h
  exact ga.pV hf uL n hn (Nat.le_of_ble_eq_true iC) h
theorem lh.Kt {P:Program} {rs:List ResultVar} {r:AV} {H':List (Nat×Row)} {s s2:AS} {C:List Prop} (l:List Wk) (hw:wk l s=some s2) (he:nK P s2 rs r H'=some C) (hC:bx C):lh P rs r H' .ret s:=⟨l,s2,C,hw,he,hC⟩
theorem lh.sV {P:Program} {rs:List ResultVar} {r:AV} {H':List (Nat×Row)} {s s2:AS} {C:List Prop} (l:List Wk) (hw:wk l s=some s2) (he:nK P s2 rs r H'=some C) (hC:bx C):lh P rs r H' .normal s:=⟨l,s2,C,hw,he,hC⟩
structure St where
 v0:UInt64
 v1:UInt64
 v2:UInt64
 v3:UInt64
def rotl (x k:UInt64):UInt64:=x<<<k|||x>>>(64-k)
def aS (s:St):St :=
 let a0:=s.v0+s.v1
 let a1:=rotl s.v1 13^^^a0
 let b0:=rotl a0 32
 let a2:=s.v2+s.v3
 let a3:=rotl s.v3 16^^^a2
 let c0:=b0+a3
 let b3:=rotl a3 21^^^c0
 let b2:=a2+a1
 let b1:=rotl a1 17^^^b2
 let c2:=rotl b2 32
 ⟨c0,b1,c2,b3⟩
def kB:Nat->St->St
 | 0,s=>s
 | n+1,s=>aS (kB n s)
def jD (s:St) (m:UInt64):St:=⟨s.v0,s.v1,s.v2,s.v3^^^m⟩
def J_ (s:St) (m:UInt64):St:=⟨s.v0^^^m,s.v1,s.v2,s.v3⟩
def cP (s:St) (m:UInt64):St:=⟨s.v0,s.v1,s.v2^^^m,s.v3⟩
def lG (s:St) (m:UInt64):St:=J_ (kB 2 (jD s m)) m
def start (k0 k1:UInt64):St:=⟨k0^^^8317987319222330741,k1^^^7237128888997146477,k0^^^7816392313619706465,k1^^^8387220255154660723⟩
def le:List UInt8->UInt64
 | []=>0
 | b::bs=>le bs<<<8|||b.toUInt64
def mY (k0 k1:UInt64) (b:List UInt8):Nat->St
 | 0=>start k0 k1
 | i+1=>lG (mY k0 k1 b i) (le ((b.drop (8*i)).take 8))
def iU (b:List UInt8):UInt64:=le (b.drop (8*(b.length/8)))|||UInt64.ofNat b.length<<<56
def Lj (s:St):UInt64:=let t:=kB 4 (cP s 255);t.v0^^^t.v1^^^t.v2^^^t.v3
def sum (k0 k1:UInt64) (b:List UInt8):UInt64:=Lj (lG (mY k0 k1 b (b.length/8)) (iU b))
attribute [irreducible] sum
def be (x:UInt64):List UInt8:=[(x>>>56).toUInt8,(x>>>48).toUInt8,(x>>>40).toUInt8,(x>>>32).toUInt8,(x>>>24).toUInt8,(x>>>16).toUInt8,(x>>>8).toUInt8,(x>>>0).toUInt8]
def words:List UInt64->List UInt8
 | []=>[]
 | x::l=>be x++words l
theorem vP (l m:List UInt64):words (l++m)=words l++words m:=by
 induction l with
 | nil=>rfl
 | cons x l ih=>simp [words,ih]
theorem dV (l:List UInt64):(words l).length=8*l.length:=by
 induction l with
 | nil=>rfl
 | cons x l ih=>simp [words,be,ih];omega
theorem ME (a b c:UInt64):(a|||b)<<<c=a<<<c|||b<<<c:=by
 apply UInt64.eq_of_toBitVec_eq;simp [BitVec.shiftLeft_or_distrib]
theorem Km (c:UInt64) (n:Nat) (h:n+8<64):(c<<<UInt64.ofNat n)<<<8=c<<<UInt64.ofNat (n+8):=by
 rw [show UInt64.ofNat (n+8)=UInt64.ofNat n+8 by rw [UInt64.ofNat_add];rfl]
 rw [UInt64.shiftLeft_add (by rw [UInt64.lt_iff_toNat_lt,UInt64.toNat_ofNat_of_lt' (by show n<2^64;omega)];show n<64;omega) (by decide) (by
  rw [UInt64.lt_iff_toNat_lt,UInt64.toNat_add,UInt64.toNat_ofNat_of_lt' (by show n<2^64;omega)];show (n+8)%2^64<64;omega)]
theorem xN (bs:List UInt8) (c:UInt8) (h:bs.length<8):le (bs++ [c])=le bs|||c.toUInt64<<<UInt64.ofNat (8*bs.length):=by
 induction bs with
 | nil=>simp [le]
 | cons b bs ih =>
  simp only [List.length_cons] at h
  simp only [List.cons_append,le,ih ah,List.length_cons]
  rw [ME,Km _ _ ah,UInt64.or_assoc,UInt64.or_comm (c.toUInt64<<<_),←UInt64.or_assoc]
  rfl
theorem le_zero (bs:List UInt8) (k:Nat) (h:bs.length+k≤8):le (bs++List.replicate k 0)=le bs:=by
 induction k with
 | zero=>simp
 | succ k ih =>
  rw [List.replicate_succ',←List.append_assoc,xN _ _ (by simp;omega),ih ah]
  simp
theorem ER (x:UInt64) (j:Nat) (h:j<8):(be x).take (j+1)=(be x).take j++ [(x>>>UInt64.ofNat (56-8*j)).toUInt8]:=by
 match j,h with
 | 0,_=>rfl
 | 1,_=>rfl
 | 2,_=>rfl
 | 3,_=>rfl
 | 4,_=>rfl
 | 5,_=>rfl
 | 6,_=>rfl
 | 7,_=>rfl
set_option maxHeartbeats 1600000 in
def hash (d:Int) (b:List UInt8):UInt64:=sum (u64 d) 0 b
def y_ (key:UInt64) (d:Int) (b:List UInt8):UInt64:=sum key (1+u64 d) b
def derive (key:UInt64) (label:List UInt8) (n:Int):UInt64:=y_ key 4 (label++0::words [u64 n])
def eD (f:Nat->UInt8):Nat->UInt64
 | 0=>0
 | t+1=>eD f t<<<8|||(f (7-t)).toUInt64
theorem sc (f:Nat->UInt8):eD f 8=le [f 0,f 1,f 2,f 3,f 4,f 5,f 6,f 7]:=rfl
def dr (b:List UInt8) (j k:Nat):UInt8:=if 8*j+k<b.length then b.getD (8*j+k) 0 else if k=7 then UInt8.ofNat b.length else 0
theorem LW (f:Nat->UInt8):[f 0,f 1,f 2,f 3,f 4,f 5,f 6,f 7]=(List.range 8).map f:=rfl
theorem E5 (b:List UInt8) (j:Nat) (h:8*j+8≤b.length):eD (dr b j) 8=le ((b.drop (8*j)).take 8):=by
 rw [sc,LW]
 congr 1
 apply List.ext_getElem?
 intro i
 by_cases hi:i<8
 ·rw [List.getElem?_map,List.getElem?_range hi,List.getElem?_take,if_pos hi,List.getElem?_drop]
  simp [dr,show 8*j+i<b.length by omega]
 ·rw [List.getElem?_eq_none (by simp;omega),List.getElem?_eq_none (by simp;omega)]
theorem HW (n:Nat):(UInt8.ofNat n).toUInt64<<<56=UInt64.ofNat n<<<56:=by
 apply UInt64.toNat_inj.1
 rw [UInt64.toNat_shiftLeft,UInt64.toNat_shiftLeft,UInt8.toNat_toUInt64]
 simp only [UInt8.toNat_ofNat',UInt64.toNat_ofNat',Nat.shiftLeft_eq]
 show n%256*72057594037927936%18446744073709551616=n%18446744073709551616*72057594037927936%18446744073709551616
 omega
theorem E4 (b:List UInt8):eD (dr b (b.length/8)) 8=iU b:=by
 have M3:(List.range 8).map (dr b (b.length/8))=(b.drop (8*(b.length/8))++List.replicate (7-b.length%8) 0)++ [UInt8.ofNat b.length]:=by
  apply List.ext_getElem?
  intro i
  by_cases hi:i<8
  ·rw [List.getElem?_map,List.getElem?_range hi,List.getElem?_append,List.getElem?_append]
   have hl:(b.drop (8*(b.length/8))).length=b.length%8:=by simp;omega
   simp only [List.length_append,hl,List.length_replicate,Option.map_some]
   by_cases h1:i<b.length%8
   ·rw [if_pos ah,if_pos h1,List.getElem?_drop]
    simp [dr,show 8*(b.length/8)+i<b.length by omega]
   ·by_cases h2:i<7
    ·rw [if_pos ah,if_neg h1,List.getElem?_replicate,if_pos ah]
     simp [dr,show ¬8*(b.length/8)+i<b.length by omega,show i≠7 by omega]
    ·obtain rfl:i=7:=ah
     rw [if_neg ah]
     simp [dr,show ¬8*(b.length/8)+7<b.length by omega,show 7-(b.length%8+(7-b.length%8))=0 by omega]
  ·rw [List.getElem?_eq_none (by simp;omega),List.getElem?_eq_none (by simp;omega)]
 rw [sc,LW,M3,xN _ _ (by simp;omega),le_zero _ _ (by simp;omega)]
 have VF:8*(b.drop (8*(b.length/8))++List.replicate (7-b.length%8) (0:UInt8)).length=56:=by simp;omega
 rw [VF]
 unfold iU
 rw [←HW]
 rfl
def vM (k0 k1:UInt64) (b:List UInt8) (j:Nat):St:=if j≤b.length/8 then mY k0 k1 b j else lG (mY k0 k1 b (b.length/8)) (iU b)
theorem Gt (k0 k1:UInt64) (b:List UInt8) (j:Nat) (h:j≤b.length/8):vM k0 k1 b (j+1)=lG (vM k0 k1 b j) (eD (dr b j) 8):=by
 unfold vM
 rw [if_pos h]
 by_cases h2:j+1≤b.length/8
 ·rw [if_pos h2,E5 b j ah];rfl
 ·obtain rfl:j=b.length/8:=ah
  rw [if_neg h2,E4]
theorem Gu (k0 k1:UInt64) (b:List UInt8):Lj (vM k0 k1 b (b.length/8+1))=sum k0 k1 b:=by
 unfold vM sum;rw [if_neg ah]
theorem LX:(Tryz.prog.info? 5).map (fun i=>(i.zero,i.size,i.bytes))=some (some (.int .u8 0),1,1):=by kernel_rfl
theorem E8:BC Tryz.prog 25 5 (.int .u8 0) 1:=by
 obtain ⟨i,h,h1,h2,h3⟩:=info_parts LX
 exact ⟨Tryz.underlying25,⟨i,h,h1,h2,h3⟩,rfl,by decide⟩
def qC (w:World) (e:Ending) (w':World) (bs:List UInt8):Prop :=
 ∃v,e= .returned v∧vN w' w.heap.size v (sr bs)∧Below w.heap.size w w'
theorem Ku {S:Nat->Prop} {w:World} {v u:Value} (h:cz S w v (.val u)):v=u:=by cases h;rfl
theorem bK.Av {P:Program} {f:FuncId} {args:List AV} {bs:List UInt8} (h:∀(w:World) (vs:List Value),vs.length=args.length->(∀(j:Nat) v x,vs[j]?=some v->args[j]?=some x->cz (fun b=>b<w.heap.size) w v x) ->
  Calls P f vs.toArray w fun e w'=>qC w e w' bs):bK P f args (.own 1 (ag bs)):=by
 intro w S vs _ hS hl hr
 refine (h w vs hl fun j v x hv hx=>(hr j v x hv hx).mono fun b hb=>⟨hS b hb,rfl⟩).mono fun e w' ⟨v,he,ho,hb⟩=>?_
 rcases ho with ⟨rfl,hn⟩|⟨g,cap,cur,te,fr,rfl,AR,hg,FJ,s7,wM,L0,gw⟩
 ·have:bs= []:=by cases bs with
   | nil=>rfl
   | cons a l=>simp [sr] at hn
  subst this
  exact ⟨_,[],he,hb,List.nodup_nil,by simp,.inl (.inl (.nil 1))⟩
 ·have dh:g<w'.heap.size:=by
   rcases Nat.lt_or_ge g w'.heap.size with h|h
   ·exact h
   ·rw [Array.getElem?_eq_none h] at hg;cases hg
  refine ⟨_,[g],he,hb,by simp,by simp [AR,dh],.inl (.inl (.own g _ cap 1 (ag bs) cur te fr hg (fun j hj=>gw j ah) (by rw [aC,gg,Nat.one_mul]) FJ s7 ah ?_))⟩
  intro j u x hu hx
  have hj:j<bs.length:=by have:=(List.getElem?_eq_some_iff.1 hx).1;rwa [aC] at this
  have JZ:x= .val (.int .u8 (bv bs[j])):=by simp [ag,hj] at hx;exact hx.symm
  subst JZ
  have Ia:(sr bs)[j]?=some u:=by
   rw [←L0,List.getElem?_take_of_lt (by rw [gg];exact hj)];simpa using hu
  have:u= .int .u8 (bv bs[j]):=by simp [sr,hj] at Ia;exact Ia.symm
  subst this
  exact .val _
theorem ET {vs:List Value} {xs:List AV} (h:vs.length=xs.length) (hx:xs.length=1):∃v,vs= [v]:=by
 match vs,h with
 | [v],_=>exact ⟨v,rfl⟩
 | [],h=>simp at h;omega
 | _::_::_,h=>simp at h;omega
theorem Qv {vs:List Value} {xs:List AV} (h:vs.length=xs.length) (hx:xs.length=2):∃v u,vs= [v,u]:=by
 match vs,h with
 | [v,u],_=>exact ⟨v,u,rfl⟩
 | [],h=>simp at h;omega
 | [_],h=>simp at h;omega
 | _::_::_::_,h=>simp at h;omega
theorem Qu {vs:List Value} {xs:List AV} (h:vs.length=xs.length) (hx:xs.length=3):∃v u t,vs= [v,u,t]:=by
 match vs,h with
 | [v,u,t],_=>exact ⟨v,u,t,rfl⟩
 | [],h=>simp at h;omega
 | [_],h=>simp at h;omega
 | [_,_],h=>simp at h;omega
 | _::_::_::_::_,h=>simp at h;omega
end Go.Proofs.YtjgbhhnghedgdaaGreatDoor
