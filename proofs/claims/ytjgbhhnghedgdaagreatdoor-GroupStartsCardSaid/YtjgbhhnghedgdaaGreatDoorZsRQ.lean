import Derived.Test.YtjgbhhnghedgdaaGreatDoorZsRF
import Derived.Test.YtjgbhhnghedgdaaGreatDoorZsRC
import Derived.Test.YtjgbhhnghedgdaaGreatDoorZsV8
import Derived.Test.YtjgbhhnghedgdaaGreatDoorZsDR
set_option linter.all false
namespace Go.Proofs.YtjgbhhnghedgdaaGreatDoor
open Go.RowKit
def cut0 (id n:Nat):AV->AV
 | .ref i=>match Nat.beq i id with|true=>.dead|false=>.ref i
 | .pre i k=>match Nat.beq i id with|true=>(match Nat.beq k n with|true=>.ref id|false=>.dead)|false=>.pre i k
 | .win i o k=>match Nat.beq i id with|true=>.dead|false=>.win i o k
 | .addr i o=>match Nat.beq i id with|true=>.dead|false=>.addr i o
 | .agg _=>.dead
 | .tup _=>.dead
 | x=>x
theorem cut0_pre (id n:Nat):cut0 id n (.pre id n)= .ref id:=by
 have h:∀k:Nat,Nat.beq k k=true:=fun k=>Nat.beq_refl k
 simp only [cut0,h]
def cut1 (id n:Nat):AV->AV
 | .agg cs=>.agg (cs.map (cut0 id n))
 | x=>cut0 id n x
def cut2 (id n:Nat):AV->AV
 | .tup cs=>.tup (cs.map (cut1 id n))
 | x=>cut1 id n x
def cutRow (id n:Nat) (r:Row):Row:=match r.pure with|true=>r|false=>⟨r.e,false,r.full,r.cells.map (cut0 id n)⟩
theorem cutRow_len (id n:Nat) (r:Row):(cutRow id n r).e=r.e∧(cutRow id n r).cells.length=r.cells.length∧(cutRow id n r).pure=r.pure∧(cutRow id n r).full=r.full:=by
 unfold cutRow;cases h:r.pure<;>simp [h]
def cutS (id n:Nat) (r:Row) (s:AS):AS:=⟨mapv (cut2 id n) s.F,(id,⟨r.e,true,false,r.cells.take n⟩)::mapv (cutRow id n) (drop_ s.H id)⟩
theorem cut1_other (id n:Nat) (y:AV) (h:∀cs,y≠ .agg cs):cut1 id n y=cut0 id n y:=by
 cases y with
 | agg cs=>exact absurd rfl (h cs)
 | _=>rfl
theorem cut2_other (id n:Nat) (y:AV) (h:∀cs,y≠ .tup cs):cut2 id n y=cut1 id n y:=by
 cases y with
 | tup cs=>exact absurd rfl (h cs)
 | _=>rfl
section
variable {I I':Info} {S:Nat->Prop} {w:World}
theorem cut0_ok (id n:Nat) (hI:∀i x,i≠id->I i=some x->I' i=some x) (hc:∀e m b,I id=some (e,m,b)->n≤m->I' id=some (e,n,b)):LeafOK I I' S S w (cut0 id n) where
 agg:=fun _=>rfl
 tup:=fun _=>rfl
 leaf:=fun v x hx h1 h2=>by
  cases hx with
  | rep h=>cases h with
   | val v=>exact .rep (.val v)
   | nil=>exact .rep .nil
   | agg vs cs _ _=>exact absurd rfl (h1 cs)
   | tup vs cs _ _=>exact absurd rfl (h2 cs)
   | arr vs cs hl h=>exact .rep (.arr vs cs hl h)
   | sl A n c e us row hl hn hc hm ha h=>exact .rep (.sl A n c e us row hl hn hc hm ha h)
   | ful A n e us row hl hn hm ha h=>exact .rep (.ful A n e us row hl hn hm ha h)
   | ptr ad us row off hl hs ha h=>exact .rep (.ptr ad us row off hl hs ha h)
   | clo f vs cs hl h=>exact .rep (.clo f vs cs hl h)
  | agg vs cs _ _=>exact absurd rfl (h1 cs)
  | tup vs cs _ _=>exact absurd rfl (h2 cs)
  | ref i e m g l c hi hm hc hx hs =>
   rcases beq_cases i id with ⟨h,e⟩|⟨h,e⟩<;>simp only [cut0,h]
   ·exact .dead _
   ·exact .ref i _ m g l c (hI _ _ e hi) hm hc hx hs
  | refnil i e hi =>
   rcases beq_cases i id with ⟨h,e⟩|⟨h,e⟩<;>simp only [cut0,h]
   ·exact .dead _
   ·exact .refnil i _ (hI _ _ e hi)
  | pre i k e m g l c hi hn hm hc2 hx hs =>
   rcases beq_cases i id with ⟨h,e⟩|⟨h,e⟩<;>simp only [cut0,h]
   ·rcases beq_cases k n with ⟨h3,e3⟩|⟨h3,e3⟩<;>simp only [h3]
    ·subst e;subst e3
     exact .ref i _ k g l c (hc _ _ _ hi hm) hn hc2 hx hs
    ·exact .dead _
   ·exact .pre i k _ m g l c (hI _ _ e hi) hn hm hc2 hx hs
  | prenil i e hi =>
   rcases beq_cases i id with ⟨h,e⟩|⟨h,e⟩<;>simp only [cut0,h]
   ·rcases beq_cases 0 n with ⟨h3,e3⟩|⟨h3,e3⟩<;>simp only [h3]
    ·subst e;subst e3
     exact .refnil i _ (hc _ _ _ hi (Nat.le_refl _))
    ·exact .dead _
   ·exact .prenil i _ (hI _ _ e hi)
  | win i off k e m l c g A hi hn hm hc hx ha =>
   rcases beq_cases i id with ⟨h,e⟩|⟨h,e⟩<;>simp only [cut0,h]
   ·exact .dead _
   ·exact .win i off k _ m l c g A (hI _ _ e hi) hn hm hc hx ha
  | addr i off e m g hi =>
   rcases beq_cases i id with ⟨h,e⟩|⟨h,e⟩<;>simp only [cut0,h]
   ·exact .dead _
   ·exact .addr i off _ m g (hI _ _ e hi)
  | dead v=>exact .dead _
theorem Den.cut (id n:Nat) (hI:∀i x,i≠id->I i=some x->I' i=some x) (hc:∀e m b,I id=some (e,m,b)->n≤m->I' id=some (e,n,b)) {v:Value} {x:AV} (h:Den I S w v x):Den I' S w v (cut2 id n x) :=
 (cut0_ok id n hI hc).two h (fun _=>rfl) (cut1_other id n) (fun _=>rfl) (cut2_other id n)
end
theorem Weaks.cut {s:AS} (id n:Nat) {r:Row} (hr:look s.H id=some r) (hp:r.pure=true) (hn:n≤r.cells.length):Weaks s (cutS id n r s):=by
 intro S0 w0 N a w ⟨φ,hs⟩
 have hlk:∀i,look (cutS id n r s).H i=if id=i then some ⟨r.e,true,false,r.cells.take n⟩ else (look s.H i).map (cutRow id n):=by
  intro i
  unfold cutS
  simp only
  rw [look_cons,look_mapv,look_drop]
  by_cases e:id=i<;>simp [e]
 have hI:∀i x,i≠id->infoOf s.H φ i=some x->infoOf (cutS id n r s).H φ i=some x:=by
  intro i x hi hx
  unfold infoOf at hx ⊢
  rw [hlk,if_neg (Ne.symm hi)]
  cases hl:look s.H i with
  | none=>rw [hl] at hx;cases hx
  | some q =>
   rw [hl] at hx
   obtain ⟨m1,m2,-,-⟩:=cutRow_len id n q
   simpa [m1,m2] using hx
 have hc:∀e m b,infoOf s.H φ id=some (e,m,b)->n≤m->infoOf (cutS id n r s).H φ id=some (e,n,b):=by
  intro e m b hx _
  unfold infoOf at hx ⊢
  rw [hlk,if_pos rfl]
  rw [hr] at hx
  simp only [Option.map_some,Option.some.injEq,Prod.mk.injEq] at hx ⊢
  obtain ⟨h1,-,h3⟩:=hx
  exact ⟨h1,by rw [List.length_take];omega,h3⟩
 refine ⟨φ,hs.tsz,hs.dfr,hs.bel,fun i av hi=>?_,fun i q hq=>?_,fun i hi=>?_,hs.inj,hs.rng,hs.apart,hs.new⟩
 ·have hi:look (mapv (cut2 id n) s.F) i=some av:=hi
  rw [look_mapv] at hi
  cases hl:look s.F i with
  | none=>rw [hl] at hi;cases hi
  | some x =>
   rw [hl] at hi;injection hi with hi;subst hi
   exact (hs.slots i x hl).cut id n hI hc
 ·rw [hlk] at hq
  by_cases e:id=i
  ·subst e
   rw [if_pos rfl] at hq;injection hq with hq;subst hq
   have hrow:=hs.rows id r hr
   unfold RowDen at hrow ⊢
   cases hg:φ id with
   | none=>rw [hg] at hrow;simp only at hrow ⊢;rw [hrow];simp
   | some g =>
    rw [hg] at hrow
    obtain ⟨cur,te,fr,u1,u2,u3,u4,u5⟩:=hrow
    refine ⟨cur,te,fr,u1,u2,by simp only [List.length_take];omega,fun h=>(by cases h),fun k u x hu hx=>?_⟩
    simp only [List.getElem?_take] at hx
    split at hx
    ·have:=u5 k u x hu hx
     unfold CellDen at this ⊢
     rw [hp] at this
     exact this
    ·cases hx
  ·rw [if_neg e] at hq
   cases hl:look s.H i with
   | none=>rw [hl] at hq;cases hq
   | some q0 =>
    rw [hl] at hq;injection hq with hq;subst hq
    obtain ⟨m1,m2,m3,m4⟩:=cutRow_len id n q0
    have hrow:=hs.rows i q0 hl
    unfold RowDen at hrow ⊢
    cases hg:φ i with
    | none =>
     rw [hg] at hrow
     simp only at hrow ⊢
     exact List.eq_nil_of_length_eq_zero (by rw [m2,hrow];rfl)
    | some g =>
     rw [hg] at hrow
     obtain ⟨cur,te,fr,u1,u2,u3,u4,u5⟩:=hrow
     refine ⟨cur,te,fr,u1,u2,by rw [m2];exact u3,fun h=>by rw [m2];exact u4 (by rw [←m4];exact h),fun k u x hu hx=>?_⟩
     unfold CellDen
     cases hpq:q0.pure with
     | true =>
      have e1:cutRow id n q0=q0:=by unfold cutRow;rw [hpq]
      rw [e1] at hx ⊢
      have:=u5 k u x hu hx
      unfold CellDen at this
      rw [hpq] at this ⊢
      exact this
     | false =>
      have e1:(cutRow id n q0).cells=q0.cells.map (cut0 id n):=by unfold cutRow;rw [hpq]
      rw [m3,hpq]
      rw [e1,List.getElem?_map] at hx
      cases hj:q0.cells[k]? with
      | none=>rw [hj] at hx;cases hx
      | some y =>
       rw [hj] at hx;injection hx with hx;subst hx
       have:=u5 k u y hu hj
       unfold CellDen at this
       rw [hpq] at this
       exact (cut0_ok id n hI hc).all this
 ·rw [hlk] at hi
  by_cases e:id=i
  ·subst e;rw [if_pos rfl] at hi;cases hi
  ·rw [if_neg e] at hi
   exact hs.only i (by simpa using hi)
theorem Weaks.add {s:AS} (new e:Nat) (hn:look s.H new=none):Weaks s ⟨s.F,(new,⟨e,true,false,[]⟩)::s.H⟩:=by
 intro S0 w0 n a w ⟨φ,hs⟩
 have hφ:φ new=none:=hs.only new hn
 have hI:∀i x,infoOf s.H φ i=some x->infoOf ((new,(⟨e,true,false,[]⟩:Row))::s.H) φ i=some x:=by
  intro i x hx
  unfold infoOf at hx ⊢
  rw [look_cons]
  by_cases e1:new=i
  ·subst e1;rw [hn] at hx;cases hx
  ·rw [if_neg e1];exact hx
 refine ⟨φ,hs.tsz,hs.dfr,hs.bel,fun i av hi=>(hs.slots i av hi).mono hI (fun b hb=>⟨hb,rfl⟩) (fun _ _ _ _ _=>rfl),fun i q hq=>?_,fun i hi=>?_,hs.inj,hs.rng,hs.apart,hs.new⟩
 ·rw [look_cons] at hq
  by_cases e1:new=i
  ·subst e1
   rw [if_pos rfl] at hq;injection hq with hq;subst hq
   unfold RowDen;rw [hφ]
  ·rw [if_neg e1] at hq
   have hrow:=hs.rows i q hq
   unfold RowDen at hrow ⊢
   cases hg:φ i with
   | none=>rw [hg] at hrow;exact hrow
   | some g =>
    rw [hg] at hrow
    obtain ⟨cur,te,fr,u1,u2,u3,u4,u5⟩:=hrow
    refine ⟨cur,te,fr,u1,u2,u3,u4,fun k u x hu hx=>?_⟩
    have:=u5 k u x hu hx
    unfold CellDen at this ⊢
    cases hpq:q.pure with
    | true=>rw [hpq] at this;exact this
    | false=>rw [hpq] at this;exact this.mono hI (fun b hb=>⟨hb,rfl⟩) (fun _ _ _ _ _=>rfl)
 ·rw [look_cons] at hi
  by_cases e1:new=i
  ·subst e1;rw [if_pos rfl] at hi;cases hi
  ·rw [if_neg e1] at hi;exact hs.only i hi
end Go.Proofs.YtjgbhhnghedgdaaGreatDoor
namespace Go.Proofs.YtjgbhhnghedgdaaGreatDoor
open Go.RowKit
def resIds (P:Program) (s:AS) (rs:List ResultVar) (r:AV):List Nat :=
 match resL P s rs with
 | some (xs,_)=>(match (match xs with| [x]=>giveT s x r|xs=>giveT s (.tup xs) r) with
  | some (ids,_)=>ids
  | none=>[])
 | none=>[]
theorem resIds_eq {P:Program} {s:AS} {rs:List ResultVar} {r:AV} {xs:List AV} {C1:List Prop} {ids:List Nat} {D:List Prop} (hg:(match xs with| [x]=>giveT s x r|xs=>giveT s (.tup xs) r)=some (ids,D)) (hr:resL P s rs=some (xs,C1)):resIds P s rs r=ids:=by
 unfold resIds
 rw [hr]
 cases xs with
 | nil =>
  have hg:giveT s (.tup []) r=some (ids,D):=hg
  show (match giveT s (.tup []) r with|some (ids,_)=>ids|none=>[])=ids
  rw [hg]
 | cons x t =>
  cases t with
  | nil =>
   have hg:giveT s x r=some (ids,D):=hg
   show (match giveT s x r with|some (ids,_)=>ids|none=>[])=ids
   rw [hg]
  | cons y t =>
   have hg:giveT s (.tup (x::y::t)) r=some (ids,D):=hg
   show (match giveT s (.tup (x::y::t)) r with|some (ids,_)=>ids|none=>[])=ids
   rw [hg]
section
variable {P:Program} {S0:Zone} {w0 w:World} {n:Nat} {s:AS} {a:Act} {φ:Nat->Option Nat}
theorem evRes_ids (hs:SimO S0 w0 n [] s a w φ) {fn:Func} {r:AV} {C:List Prop} (he:evRes P s fn.results.toList r=some C) (hC:AllP C) :
  ∃v,(results fn a.tmps).run P w= .ok v w∧(blocks φ (resIds P s fn.results.toList r)).Nodup∧Giv (Free S0 w φ []) w v r (blocks φ (resIds P s fn.results.toList r)):=by
 unfold evRes at he
 split at he
 ·rename_i xs C1 hr
  split at he
  ·rename_i ids D hg
   split at he
   ·rename_i hn
    cases he
    have hids:resIds P s fn.results.toList r=ids:=resIds_eq hg hr
    obtain ⟨hC1,hD⟩:=allP_app.1 hC
    obtain ⟨vs,hrun,hl,hd⟩:=resL_ok hs _ _ _ hr hC1
    have hm:(fn.results.mapM (resRun a)).run P w= .ok vs.toArray w:=by
     rw [Array.mapM_eq_mapM_toList,Sem.run_map,hrun];rfl
    have hres:(results fn a.tmps).run P w= .ok (if h:vs.toArray.size=1 then vs.toArray[0] else .tuple vs.toArray) w:=by
     have he:results fn a.tmps=(do let vs ←fn.results.mapM (resRun a);pure (if h:vs.size=1 then vs[0] else .tuple vs):Sem Value):=by
      unfold results
      congr 1
     rw [he,Sem.run_bind,hm]
     rfl
    rw [hids]
    refine ⟨_,hres,nodup_blocks hs (nodupB_ok hn),?_⟩
    split at hg
    ·rename_i x
     cases vs with
     | nil=>simp at hl
     | cons v vs =>
      have:vs= []:=by simpa using hl
      subst this
      exact giveT_ok hs (hd 0 v x rfl rfl) hg hD
    ·rename_i hne
     have hsz:¬vs.toArray.size=1:=by
      intro h1
      have h2:xs.length=1:=by rw [←hl];simpa using h1
      obtain ⟨x,rfl⟩:=List.length_eq_one_iff.1 h2
      exact hne x rfl
     rw [dif_neg hsz]
     exact giveT_ok hs (.tup vs xs hl hd) hg hD
   ·cases he
  ·cases he
 ·cases he
end
def rowsM (s:AS):List (Nat×Row)->Option (List Prop)
 | []=>some []
 | (k,q)::l=>match look s.H k,rowsM s l with
  | some ⟨e,p,f,cs⟩,some C=>(match Nat.beq e q.e,p == q.pure,(!q.full || f) with|true,true,true=>some ((cs=q.cells)::C)|_,_,_=>none)
  | _,_=>none
theorem rowsM_at {s:AS}:∀ {l:List (Nat×Row)} {C:List Prop},rowsM s l=some C->AllP C-> ∀k q,look l k=some q-> ∃q0,look s.H k=some q0∧q0.e=q.e∧q0.pure=q.pure∧(q.full=true->q0.full=true)∧q0.cells=q.cells
 | [],C,h,hC,k,q,hq=>by cases hq
 | (k',q')::l,C,h,hC,k,q,hq=>by
  simp only [rowsM] at h
  split at h
  ·rename_i e p f cs C1 h1 h2
   split at h
   ·rename_i he hp hf
    cases h
    rw [look_cons] at hq
    by_cases ek:k'=k
    ·rw [if_pos ek] at hq;injection hq with hq;subst hq;subst ek
     refine ⟨_,h1,Nat.eq_of_beq_eq_true he,by simpa using hp,fun hq=>?_,hC.1⟩
     simp only [hq,Bool.not_true,Bool.false_or] at hf
     exact hf
    ·rw [if_neg ek] at hq;exact rowsM_at h2 hC.2 k q hq
   ·cases h
  ·cases h
def evResM (P:Program) (s:AS) (rs:List ResultVar) (r:AV) (H':List (Nat×Row)):Option (List Prop) :=
 match evRes P s rs r,rowsM (retireAll s (resIds P s rs r++restOf (H'.map (·.1)) s.H)) H' with
 | some C,some D=>some (C++D)
 | _,_=>none
def DoneM (P:Program) (rs:List ResultVar) (r:AV) (H':List (Nat×Row)):Exit->AS->Prop
 | .normal,s=>∃l s2 C,wk l s=some s2∧evResM P s2 rs r H'=some C∧AllP C
 | .ret,s=>∃l s2 C,wk l s=some s2∧evResM P s2 rs r H'=some C∧AllP C
 | _,_=>False
theorem look_map_fst {H:List (Nat×Row)}:∀ {k:Nat},k∈H.map (·.1)-> ∃q,look H k=some q:=by
 induction H with
 | nil=>intro k h;cases h
 | cons p H ih =>
  obtain ⟨j,x⟩:=p
  intro k h
  rw [look_cons]
  by_cases e:j=k
  ·exact ⟨x,by rw [if_pos e]⟩
  ·rw [if_neg e]
   simp only [List.map_cons,List.mem_cons] at h
   exact ih (h.resolve_left (Ne.symm e))
theorem RetM.of_body {P:Program} {f:FuncId} {fn:Func} {c:Code} {args:List AV} {H H':List (Nat×Row)} {r:AV} (hf:P.funcs[f]?=some fn) (hb:fn.body=some c) (n:Nat) (hn:fn.ntmps=n) (hargs:args.length≤n) (h:AWP P n c (DoneM P fn.results.toList r H') ⟨argsF 0 args,H⟩):RetM P f args H r H':=by
 intro w S φ vs hgood hphi hL hl hrep
 let Z:Zone:=⟨fun b=>S b∨w.heap.size≤b∨InR φ b,fun b=>InR φ b,fun id=>if 1000000000000≤id then φ id else none,[]⟩
 have hfree:∀b,S b->Free Z w φ [] b:=fun b hb=>⟨(hL.sep b hb).1,by simp,fun id hid=>(hL.sep b hb).2 ⟨id,hid⟩,Or.inl hb⟩
 have hS0:SimO Z w n [] ⟨argsF 0 args,H⟩ {tmps:=vs.toArray++Array.replicate (fn.ntmps-vs.toArray.size) undef,defers:=[]} w φ:=by
  refine ⟨by simp;omega,rfl,⟨rfl,rfl,rfl,Nat.le_refl _,fun _ _ _=>rfl,hgood,fun b hb ⟨id,hid⟩=>hphi id b hid hb⟩,fun i av hi=>?_,fun id q hq=>?_,hL.only,hL.inj,fun id g hg=>⟨⟨?_,.inr ⟨id,hg⟩⟩,hL.lt id g hg⟩,fun _ _ _ h=>(by cases h),fun b hb=>.inr hb⟩
  ·obtain ⟨k,rfl,hk⟩:=look_argsF args 0 i av hi
   have hkl:k<vs.length:=by have:=(List.getElem?_eq_some_iff.1 hk).1;omega
   have hv:vs[k]?=some vs[k]:=List.getElem?_eq_getElem hkl
   have e:(vs.toArray++Array.replicate (fn.ntmps-vs.toArray.size) undef).getD (0+k) undef=vs[k]:=by
    rw [Nat.zero_add,Array.getD_eq_getD_getElem?,Array.getElem?_append_left (by simpa using hkl)]
    simp [hkl]
   simp only [e]
   exact (hrep k vs[k] av hv hk).mono (fun _ _ h=>h) (fun b hb=>⟨hfree b hb,rfl⟩) (fun _ _ _ _ _=>rfl)
  ·have hrow:=hL.rows id q hq
   unfold RowDen at hrow ⊢
   cases hg:φ id with
   | none=>rw [hg] at hrow;exact hrow
   | some g =>
    rw [hg] at hrow
    obtain ⟨cur,te,fr,u1,u2,u3,u4,u5⟩:=hrow
    refine ⟨cur,te,fr,u1,u2,u3,u4,fun j u x hu hx=>?_⟩
    have:=u5 j u x hu hx
    unfold CellDen at this ⊢
    cases hp:q.pure with
    | true=>rw [hp] at this;exact this.mono fun b hb=>⟨hfree b hb,rfl⟩
    | false=>rw [hp] at this;exact this.mono (fun _ _ h=>h) (fun b hb=>⟨hfree b hb,rfl⟩) (fun _ _ _ _ _=>rfl)
  ·rcases Nat.lt_or_ge id 1000000000000 with h|h
   ·exact .inl h
   ·right;show (if 1000000000000≤id then φ id else none)=some g;rw [if_pos h];exact hg
 refine calls_of_swp hf hb (Z:=Z) rfl (fun b hb=>.inr hb) (Q:=DoneM P fn.results.toList r H') (fun e s hq=>by cases e<;>first|exact .inl rfl|exact .inr rfl|exact hq.elim) (h Z w _ w ⟨φ,hS0⟩) fun e s0 a' w' hq _ ⟨φ0,hs0⟩=>?_
 have fin0:∀(s':AS) (φ1:Nat->Option Nat),SimO Z w n [] s' a' w' φ1->(∃C,evResM P s' fn.results.toList r H'=some C∧AllP C)-> ∃v,(results fn a'.tmps).run P w'= .ok v w'∧ ∃v' O φ',Ending.returned v= .returned v'∧Back S w w' φ φ' O H' v' r:=by
  rintro s' φ1 hs' ⟨C,he,hC⟩
  unfold evResM at he
  split at he
  ·rename_i C1 D h1 h2
   cases he
   obtain ⟨hC1,hD⟩:=allP_app.1 hC
   obtain ⟨v,hrun,hnd,hgiv⟩:=evRes_ids hs' h1 hC1
   generalize hids:resIds P s' fn.results.toList r=ids at *
   obtain ⟨O',hR,hO1,-,hO2,hrow1,-⟩:=retireO (ids++restOf (H'.map (·.1)) s'.H) s' φ1 [] hs'
   have hat:=rowsM_at h2 hD
   generalize hφ2:(fun id=>if id∈ids++restOf (H'.map (·.1)) s'.H then none else φ1 id)=φ2 at hR
   have e2:∀id,φ2 id=if id∈ids++restOf (H'.map (·.1)) s'.H then none else φ1 id:=fun id=>by rw [←hφ2]
   have sub:∀id g,φ2 id=some g->φ1 id=some g∧id ∉ ids:=fun id g hg=>by
    rw [e2] at hg
    split at hg
    ·cases hg
    ·rename_i hno;exact ⟨hg,fun hm=>hno (by simp [hm])⟩
   let φ':Nat->Option Nat:=fun id=>if (look H' id).isSome then φ2 id else none
   have e':∀id g,φ' id=some g->φ2 id=some g∧(look H' id).isSome:=fun id g hg=>by
    have hg:(if (look H' id).isSome then φ2 id else none)=some g:=hg
    split at hg
    ·rename_i h;exact ⟨hg,h⟩
    ·cases hg
   have all:∀id q,look (retireAll s' (ids++restOf (H'.map (·.1)) s'.H)).H id=some q-> ∃q',look H' id=some q':=by
    intro id q hq
    obtain ⟨hno,q0,hq0,-⟩:=hrow1 id q hq
    refine look_map_fst (Classical.byContradiction fun hm=>?_)
    rcases look_restOf (H'.map (·.1)) s'.H id hm with h|h
    ·rw [hq0] at h;cases h
    ·exact hno (by simp [h])
   have hO:∀g,g∈blocks φ1 ids->g∈O':=fun g hg=>by
    obtain ⟨i,hi,hgi⟩:=mem_blocks hg
    exact hO2 i (by simp [hi]) g hgi
   have rngX:∀id g,φ1 id=some g->w.heap.size≤g∨InR φ g:=fun id g hg=>(hs'.rng id g hg).1.2
   have haft:∀b,Free Z w' φ2 O' b->After S w w' φ φ' (blocks φ1 ids) b:=by
    intro b ⟨f1,f2,f3,f4⟩
    refine ⟨?_,fun hm=>f2 (hO b hm),fun ⟨id,hid⟩=>f3 id (e' id b hid).1⟩
    rcases f4 with h|h|h
    ·exact .inl h
    ·exact .inr ⟨.inl h,f1⟩
    ·exact .inr ⟨.inr h,f1⟩
   refine ⟨v,hrun,v,blocks φ1 ids,φ',rfl,⟨hs'.bel.os,hs'.bel.tape,hs'.bel.output,hs'.bel.size,fun b hb hx=>hs'.bel.block b hb hx,hnd,fun g hg=>?_,fun id g hg=>rngX id g (sub id g (e' id g hg).1).1,fun id g hge hg=>?_,⟨fun b hb=>⟨?_,hb.2.2⟩,fun id hid=>?_,fun id id' g hg hg'=>?_,fun id g hg=>?_,fun id q hq=>?_⟩,hgiv.mono fun b hb=>?_⟩⟩
   ·obtain ⟨i,hi,hgi⟩:=mem_blocks hg
    refine ⟨rngX i g hgi,(hs'.rng i g hgi).2,fun ⟨id,hid⟩=>?_⟩
    obtain ⟨s1,s2⟩:=sub id g (e' id g hid).1
    exact s2 (hs'.inj id i g s1 hgi ▸ hi)
   ·rcases (hs'.rng id g (sub id g (e' id g hg).1).1).1.1 with h|h
    ·omega
    ·have h:(if 1000000000000≤id then φ id else none)=some g:=h
     rw [if_pos hge] at h;exact h
   ·rcases hb.1 with h|h
    ·exact Nat.lt_of_lt_of_le (hL.sep b h).1 hs'.bel.size
    ·exact h.2
   ·show (if (look H' id).isSome then φ2 id else none)=none
    rw [hid];rfl
   ·exact hs'.inj id id' g (sub id g (e' id g hg).1).1 (sub id' g (e' id' g hg').1).1
   ·exact (hs'.rng id g (sub id g (e' id g hg).1).1).2
   ·obtain ⟨q0,u1,u2,u3,u4,u5⟩:=hat id q hq
    have hrow:=hR.rows id q0 u1
    have e:φ' id=φ2 id:=by
     show (if (look H' id).isSome then φ2 id else none)=φ2 id
     rw [hq];rfl
    rw [e]
    have hI:∀i x,infoOf (retireAll s' (ids++restOf (H'.map (·.1)) s'.H)).H φ2 i=some x->infoOf H' φ' i=some x:=by
     intro i x hx
     obtain ⟨ee,m,b⟩:=x
     obtain ⟨p,hp,h3,h4,h5⟩:=info_some hx
     obtain ⟨p',hp'⟩:=all i p hp
     obtain ⟨p0,v1,v2,-,-,v5⟩:=hat i p' hp'
     rw [hp] at v1;injection v1 with v1;subst v1
     rw [info_of hp',←v2,←v5,h3,h4]
     have:φ' i=φ2 i:=by
      show (if (look H' i).isSome then φ2 i else none)=φ2 i
      rw [hp'];rfl
     rw [this,h5]
    unfold RowDen at hrow ⊢
    cases hg:φ2 id with
    | none=>rw [hg] at hrow;exact u5 ▸ hrow
    | some g =>
     rw [hg] at hrow
     obtain ⟨cur,te,fr,v1,v2,v3,v4,v5⟩:=hrow
     refine ⟨cur,te,fr,v1,v2,by rw [←u5];exact v3,fun hfu=>by rw [←u5];exact v4 (u4 hfu),fun j u x hu hx=>?_⟩
     have:=v5 j u x hu (by rw [u5];exact hx)
     unfold CellDen at this ⊢
     rw [u3] at this
     cases hp:q.pure with
     | true=>rw [hp] at this;exact this.mono fun b hb=>⟨haft b hb,rfl⟩
     | false=>rw [hp] at this;exact this.mono hI (fun b hb=>⟨haft b hb,rfl⟩) (fun _ _ _ _ _=>rfl)
   ·refine ⟨?_,fun hm=>?_,fun ⟨id,hid⟩=>hb.2.2.1 id (sub id b (e' id b hid).1).1⟩
    ·rcases hb.2.2.2 with h|h|h
     ·exact .inl h
     ·exact .inr ⟨.inl h,hb.1⟩
     ·exact .inr ⟨.inr h,hb.1⟩
    ·obtain ⟨i,-,hgi⟩:=mem_blocks hm
     exact hb.2.2.1 i hgi
  ·cases he
 have fin:(∃l s2 C,wk l s0=some s2∧evResM P s2 fn.results.toList r H'=some C∧AllP C)-> ∃v,(results fn a'.tmps).run P w'= .ok v w'∧ ∃v' O φ',Ending.returned v= .returned v'∧Back S w w' φ φ' O H' v' r:=by
  rintro ⟨l,s2,C,hw,he,hC⟩
  obtain ⟨φ2,h2⟩:=wk_ok l hw Z w n a' w' ⟨φ0,hs0⟩
  exact fin0 s2 φ2 h2 ⟨C,he,hC⟩
 cases e with
 | normal=>exact fin hq
 | ret=>exact fin hq
 | _=>exact hq.elim
theorem RetM.of_fn {P:Program} {f:FuncId} {fn:Func} {args:List AV} {H H':List (Nat×Row)} {r:AV} (hf:P.funcs[f]?=some fn) (hb:fn.body.isSome=true) (n:Nat) (hn:fn.ntmps=n) (hargs:Nat.ble args.length n=true) (h:AWP P n (bodyOf fn) (DoneM P fn.results.toList r H') ⟨argsF 0 args,H⟩):RetM P f args H r H':=by
 cases hbody:fn.body with
 | none=>rw [hbody] at hb;cases hb
 | some c =>
  have e:bodyOf fn=c:=by unfold bodyOf;rw [hbody]
  rw [e] at h
  exact RetM.of_body hf hbody n hn (Nat.le_of_ble_eq_true hargs) h
theorem DoneM.ret_ {P:Program} {rs:List ResultVar} {r:AV} {H':List (Nat×Row)} {s s2:AS} {C:List Prop} (l:List Wk) (hw:wk l s=some s2) (he:evResM P s2 rs r H'=some C) (hC:AllP C):DoneM P rs r H' .ret s:=⟨l,s2,C,hw,he,hC⟩
theorem DoneM.normal_ {P:Program} {rs:List ResultVar} {r:AV} {H':List (Nat×Row)} {s s2:AS} {C:List Prop} (l:List Wk) (hw:wk l s=some s2) (he:evResM P s2 rs r H'=some C) (hC:AllP C):DoneM P rs r H' .normal s:=⟨l,s2,C,hw,he,hC⟩
end Go.Proofs.YtjgbhhnghedgdaaGreatDoor
namespace Go.Proofs.YtjgbhhnghedgdaaGreatDoor
open Go.RowKit
set_option maxRecDepth 100000
set_option maxHeartbeats 4000000
set_option linter.unusedVariables false
def modI (v n:Int):Nat:=((v%18446744073709551616)%n).toNat
theorem modI_lt (v:Int) {n:Int} (h:1≤n):(modI v n:Int)<n:=by
 have:=Int.emod_lt_of_pos (v%18446744073709551616) (show 0<n by omega)
 have:=Int.emod_nonneg (v%18446744073709551616) (show n≠0 by omega)
 unfold modI;omega
theorem u64_wv (v:Int):wv (u64 v)=v%18446744073709551616:=by rw [←wv_ofInt,IntKind.wrap_u64]
theorem mod_ret (v n:Int) (h1:1≤n) (h2:n≤9223372036854775807):Ret Tryz.prog 23 [ai v,ai n] (ai (modI v n)):=by
 have hn:wv (u64 n)=n:=by rw [u64_wv];omega
 have hm:=modI_lt v h1
 have e:(wv (u64 v)).tmod (wv (u64 n))=modI v n:=by
  have h0:0≤v%18446744073709551616:=Int.emod_nonneg _ (by decide)
  have:=Int.emod_nonneg (v%18446744073709551616) (show n≠0 by omega)
  rw [hn,u64_wv,Int.tmod_eq_emod_of_nonneg h0];unfold modI;omega
 refine zO Tryz.func23 11 ?_
 refine zQ 2 [{},yH [(1,yV (aw (u64 v))),(3,yV (aw (u64 n))),(5,yV (ai ((wv (u64 v)).tmod (wv (u64 n)))))]] [yI (avw_conv v),yI (avw_conv n),yO (wv (u64 n)≠(0:Int)),yN ((wv (u64 v)).tmod (wv (u64 n)))] ?_
 refine AWP.wkX [.keep [4,0,1] []] (by kernel_rfl) ?_
 refine zR ?_
 refine zV [yJ ((wv (u64 v)).tmod (wv (u64 n))) (↑(modI v n):Int) (by rw [e])]
def blk (key nonce:UInt64) (i:Nat):List UInt8:=words [mac key 5 (words [nonce,u64 i])]
def strm (key nonce:UInt64):Nat->List UInt8
 | 0=>[]
 | k+1=>strm key nonce k++blk key nonce k
def streamN (n:Int):Nat:=(min (max n 0) 1024).toNat
def stream (key nonce:UInt64) (n:Int):List UInt8:=(strm key nonce ((streamN n+7)/8)).take (streamN n)
end Go.Proofs.YtjgbhhnghedgdaaGreatDoor
