import Derived.Test.YtejpabdmiagnnaaGreatDoorZrRB
set_option linter.all false
namespace Go.Proofs.YtejpabdmiagnnaaGreatDoor
open Go.RowKit
def ren0L (ρ :List (Nat×Nat)):AV->AV
 | .ref i=>match look ρ i with|some k=>.ref k|none=>.dead
 | .pre i n=>match look ρ i with|some k=>.pre k n|none=>.dead
 | .win i o n=>match look ρ i with|some k=>.win k o n|none=>.dead
 | .addr i o=>match look ρ i with|some k=>.addr k o|none=>.dead
 | .agg _=>.dead
 | .tup _=>.dead
 | x=>x
def ren1L (ρ :List (Nat×Nat)):AV->AV
 | .agg cs=>.agg (cs.map (ren0L ρ))
 | x=>ren0L ρ x
def ren2L (ρ :List (Nat×Nat)):AV->AV
 | .tup cs=>.tup (cs.map (ren1L ρ))
 | x=>ren1L ρ x
def renRowL (ρ :List (Nat×Nat)) (r:Row):Row:=match r.pure with|true=>r|false=>⟨r.e,false,r.full,r.cells.map (ren0L ρ)⟩
theorem renRowL_len (ρ :List (Nat×Nat)) (r:Row):(renRowL ρ r).e=r.e∧(renRowL ρ r).cells.length=r.cells.length∧(renRowL ρ r).pure=r.pure∧(renRowL ρ r).full=r.full:=by
 unfold renRowL;cases h:r.pure<;>simp [h]
section
variable {I I':Info} {S S':Nat->Prop} {w:World}
theorem ren0L_ok (ρ :List (Nat×Nat)) (hI:∀i k x,look ρ i=some k->I i=some x->I' k=some x) (hS:∀b,S b->S' b):LeafOK I I' S S' w (ren0L ρ) where
 agg:=fun _=>rfl
 tup:=fun _=>rfl
 leaf:=fun v x hx h1 h2=>by
  have hS2:∀b,S b->S' b∧w.heap[b]?=w.heap[b]?:=fun b h=>⟨hS b h,rfl⟩
  cases hx with
  | rep h=>cases h with
   | val v=>exact .rep (.val v)
   | nil=>exact .rep .nil
   | agg vs cs _ _=>exact absurd rfl (h1 cs)
   | tup vs cs _ _=>exact absurd rfl (h2 cs)
   | arr vs cs hl h=>exact .rep ((Rep.arr vs cs hl h).mono hS2)
   | sl A n c e us row hl hn hc hm ha h=>exact .rep ((Rep.sl A n c e us row hl hn hc hm ha h).mono hS2)
   | ptr ad us row off hl hs ha h=>exact .rep ((Rep.ptr ad us row off hl hs ha h).mono hS2)
   | clo f vs cs hl h=>exact .rep ((Rep.clo f vs cs hl h).mono hS2)
  | agg vs cs _ _=>exact absurd rfl (h1 cs)
  | tup vs cs _ _=>exact absurd rfl (h2 cs)
  | ref i e m g l c hi hm hc hx hs =>
   cases h:look ρ i with
   | none=>simp only [ren0L,h];exact .dead _
   | some k=>simp only [ren0L,h];exact .ref k _ m g l c (hI _ _ _ h hi) hm hc hx hs
  | refnil i e hi =>
   cases h:look ρ i with
   | none=>simp only [ren0L,h];exact .dead _
   | some k=>simp only [ren0L,h];exact .refnil k _ (hI _ _ _ h hi)
  | pre i n e m g l c hi hn hm hc hx hs =>
   cases h:look ρ i with
   | none=>simp only [ren0L,h];exact .dead _
   | some k=>simp only [ren0L,h];exact .pre k n _ m g l c (hI _ _ _ h hi) hn hm hc hx hs
  | prenil i e hi =>
   cases h:look ρ i with
   | none=>simp only [ren0L,h];exact .dead _
   | some k=>simp only [ren0L,h];exact .prenil k _ (hI _ _ _ h hi)
  | win i off n e m l c g A hi hn hm hc hx ha =>
   cases h:look ρ i with
   | none=>simp only [ren0L,h];exact .dead _
   | some k=>simp only [ren0L,h];exact .win k off n _ m l c g A (hI _ _ _ h hi) hn hm hc hx ha
  | addr i off e m g hi =>
   cases h:look ρ i with
   | none=>simp only [ren0L,h];exact .dead _
   | some k=>simp only [ren0L,h];exact .addr k off _ m g (hI _ _ _ h hi)
  | dead v=>exact .dead _
theorem ren1L_other (ρ :List (Nat×Nat)) (y:AV) (h:∀cs,y≠ .agg cs):ren1L ρ y=ren0L ρ y:=by
 cases y with
 | agg cs=>exact absurd rfl (h cs)
 | _=>rfl
theorem ren2L_other (ρ :List (Nat×Nat)) (y:AV) (h:∀cs,y≠ .tup cs):ren2L ρ y=ren1L ρ y:=by
 cases y with
 | tup cs=>exact absurd rfl (h cs)
 | _=>rfl
theorem Den.renL (ρ :List (Nat×Nat)) (hI:∀i k x,look ρ i=some k->I i=some x->I' k=some x) (hS:∀b,S b->S' b) {v:Value} {x:AV} (h:Den I S w v x):Den I' S' w v (ren2L ρ x) :=
 (ren0L_ok ρ hI hS).two h (fun _=>rfl) (ren1L_other ρ) (fun _=>rfl) (ren2L_other ρ)
theorem RowDen.renL (ρ :List (Nat×Nat)) (hI:∀i k x,look ρ i=some k->I i=some x->I' k=some x) (hS:∀b,S b->S' b) {b:Option Nat} {r:Row} (h:RowDen I S w b r):RowDen I' S' w b (renRowL ρ r):=by
 obtain ⟨he,hl,hp,hf⟩:=renRowL_len ρ r
 cases b with
 | none =>
  have h:r.cells= []:=h
  show (renRowL ρ r).cells= []
  exact List.eq_nil_of_length_eq_zero (by rw [hl,h];rfl)
 | some g =>
  obtain ⟨cur,te,fr,hg,hfr,hle,hfu,hc⟩:=h
  refine ⟨cur,te,fr,hg,hfr,by rw [hl];exact hle,fun h=>by rw [hl];exact hfu (by rw [←hf];exact h),fun j u x hu hx=>?_⟩
  unfold CellDen
  cases hpu:r.pure with
  | true =>
   have e:renRowL ρ r=r:=by unfold renRowL;rw [hpu]
   rw [e] at hx ⊢
   have:=hc j u x hu hx
   unfold CellDen at this
   rw [hpu] at this ⊢
   exact this.mono fun b hb=>⟨hS b hb,rfl⟩
  | false =>
   have e:(renRowL ρ r).cells=r.cells.map (ren0L ρ):=by unfold renRowL;rw [hpu]
   rw [hp,hpu]
   rw [e,List.getElem?_map] at hx
   cases hj:r.cells[j]? with
   | none=>rw [hj] at hx;cases hx
   | some y =>
    rw [hj] at hx;injection hx with hx;subst hx
    have:=hc j u y hu hj
    unfold CellDen at this
    rw [hpu] at this
    exact (ren0L_ok ρ hI hS).all this
end
def InR (φ:Nat->Option Nat) (g:Nat):Prop:=∃id,φ id=some g
structure Lent (S:Nat->Prop) (w:World) (φ:Nat->Option Nat) (H:List (Nat×Row)):Prop where
 sep:∀b,S b->b<w.heap.size∧ ¬InR φ b
 only:∀id,look H id=none->φ id=none
 inj:∀id id' g,φ id=some g->φ id'=some g->id=id'
 lt:∀id g,φ id=some g->g<w.heap.size
 rows:∀id r,look H id=some r->RowDen (infoOf H φ) S w (φ id) r
def After (S:Nat->Prop) (w w':World) (φ φ':Nat->Option Nat) (O:List Nat):Nat->Prop:=fun b=>(S b∨((w.heap.size≤b∨InR φ b)∧b<w'.heap.size))∧b ∉ O∧ ¬InR φ' b
structure Back (S:Nat->Prop) (w w':World) (φ φ':Nat->Option Nat) (O:List Nat) (H':List (Nat×Row)) (v:Value) (r:AV):Prop where
 os:w'.os=w.os
 tape:w'.tape=w.tape
 output:w'.output=w.output
 size:w.heap.size≤w'.heap.size
 block:∀b,b<w.heap.size-> ¬InR φ b->w'.heap[b]?=w.heap[b]?
 nodup:O.Nodup
 own:∀g∈O,(w.heap.size≤g∨InR φ g)∧g<w'.heap.size∧ ¬InR φ' g
 rng:∀id g,φ' id=some g->w.heap.size≤g∨InR φ g
 fix:∀id g,1000000000000≤id->φ' id=some g->φ id=some g
 lent:Lent (After S w w' φ φ' O) w' φ' H'
 giv:Giv (After S w w' φ φ' O) w' v r O
def RetM (P:Program) (f:FuncId) (args:List AV) (H:List (Nat×Row)) (r:AV) (H':List (Nat×Row)):Prop :=
 ∀(w:World) (S:Nat->Prop) (φ:Nat->Option Nat) (vs:List Value),Good w->(∀id g,φ id=some g-> ¬TB g)->Lent S w φ H->vs.length=args.length->(∀(j:Nat) v x,vs[j]?=some v->args[j]?=some x->Den (infoOf H φ) S w v x) ->
  Calls P f vs.toArray w fun e w'=>∃v O φ',e= .returned v∧Back S w w' φ φ' O H' v r
def inv:List (Nat×Nat)->List (Nat×Nat)
 | []=>[]
 | (c,k)::l=>(k,c)::inv l
def memN (i:Nat):List Nat->Bool
 | []=>false
 | j::l=>match Nat.beq i j with|true=>true|false=>memN i l
theorem memN_iff (i:Nat):∀(l:List Nat),memN i l=true↔i∈l
 | []=>by simp [memN]
 | j::l=>by
  simp only [memN]
  rcases beq_cases i j with ⟨h,e⟩|⟨h,e⟩
  ·rw [h];simp [e]
  ·rw [h];simp only [List.mem_cons];rw [memN_iff i l];simp [e]
def nodupA:List Nat->Bool
 | []=>true
 | i::l=>match memN i l with|true=>false|false=>nodupA l
theorem nodupA_ok:∀ {l:List Nat},nodupA l=true->l.Nodup
 | [],_=>List.nodup_nil
 | i::l,h=>by
  simp only [nodupA] at h
  split at h
  ·cases h
  ·rename_i hn
   rw [List.nodup_cons]
   refine ⟨fun hm=>?_,nodupA_ok h⟩
   rw [(memN_iff i l).2 hm] at hn;cases hn
theorem look_mem {α:Type} {k:Nat} {x:α}:∀ {l:List (Nat×α)},look l k=some x->(k,x)∈l
 | [],h=>by cases h
 | (j,y)::l,h=>by
  rw [look_cons] at h
  by_cases e:j=k
  ·rw [if_pos e] at h;injection h with h;subst e;subst h;exact List.mem_cons_self ..
  ·rw [if_neg e] at h;exact List.mem_cons_of_mem _ (look_mem h)
theorem look_of_mem {α:Type} {k:Nat} {x:α}:∀ {l:List (Nat×α)},(l.map (·.1)).Nodup->(k,x)∈l->look l k=some x
 | [],_,h=>by cases h
 | (j,y)::l,hn,h=>by
  rw [look_cons]
  simp only [List.map_cons,List.nodup_cons] at hn
  rcases List.mem_cons.1 h with h|h
  ·cases h;rw [if_pos rfl]
  ·have:j≠k:=fun e=>hn.1 (by rw [e];exact List.mem_map.2 ⟨(k,x),h,rfl⟩)
   rw [if_neg this];exact look_of_mem hn.2 h
theorem mem_inv {c k:Nat}:∀ {l:List (Nat×Nat)},(k,c)∈inv l↔(c,k)∈l
 | []=>by simp [inv]
 | (x,y)::l=>by
  simp only [inv,List.mem_cons,mem_inv (l:=l),Prod.mk.injEq]
  constructor<;>(rintro (⟨h1,h2⟩|h);exact .inl ⟨h2,h1⟩;exact .inr h)
theorem map_inv:∀(l:List (Nat×Nat)),(inv l).map (·.1)=l.map (·.2)
 | []=>rfl
 | (x,y)::l=>by simp [inv,map_inv l]
theorem look_inv {l:List (Nat×Nat)} (h1:(l.map (·.1)).Nodup) (h2:(l.map (·.2)).Nodup) {c k:Nat}:look (inv l) k=some c↔look l c=some k :=
 ⟨fun h=>look_of_mem h1 (mem_inv.1 (look_mem h)),fun h=>look_of_mem (by rw [map_inv];exact h2) (mem_inv.2 (look_mem h))⟩
def lentRows (s:AS) (ρ :List (Nat×Nat)):List (Nat×Nat)->Option (List (Nat×Row))
 | []=>some []
 | (c,k)::l=>match look s.H c,lentRows s ρ l with|some r,some m=>some ((k,renRowL ρ r)::m)|_,_=>none
def backRows (ho:List (Nat×Row)) (ρ :List (Nat×Nat)):List (Nat×Nat)->Option (List (Nat×Row))
 | []=>some []
 | (c,k)::l=>match look ho k,backRows ho ρ l with|some r,some m=>some ((c,renRowL ρ r)::m)|_,_=>none
theorem look_lentRows {s:AS} {ρ :List (Nat×Nat)}:∀ {l:List (Nat×Nat)} {Hl:List (Nat×Row)},lentRows s ρ l=some Hl-> ∀k,look Hl k=(look (inv l) k).bind fun c=>(look s.H c).map (renRowL ρ)
 | [],Hl,h,k=>by cases h;rfl
 | (c,k')::l,Hl,h,k=>by
  simp only [lentRows] at h
  split at h
  ·rename_i r m hr hm
   cases h
   simp only [inv,look_cons]
   by_cases e:k'=k
   ·rw [if_pos e,if_pos e];simp [hr]
   ·rw [if_neg e,if_neg e];exact look_lentRows hm k
  ·cases h
theorem look_backRows {ho:List (Nat×Row)} {ρ :List (Nat×Nat)}:∀ {l:List (Nat×Nat)} {Hb:List (Nat×Row)},backRows ho ρ l=some Hb-> ∀c,look Hb c=(look l c).bind (fun k=>(look ho k).map (renRowL ρ))∧ ∀k,look l c=some k-> ∃r,look ho k=some r
 | [],Hb,h,c=>by cases h;exact ⟨rfl,fun k h=>by cases h⟩
 | (c',k)::l,Hb,h,c=>by
  simp only [backRows] at h
  split at h
  ·rename_i r m hr hm
   cases h
   simp only [look_cons]
   by_cases e:c'=c
   ·rw [if_pos e,if_pos e]
    exact ⟨by simp [hr],fun k' h=>by injection h with h;subst h;exact ⟨r,hr⟩⟩
   ·rw [if_neg e,if_neg e];exact look_backRows hm c
  ·cases h
def ownOf:List (Nat×Nat)->List Nat
 | []=>[]
 | (c,k)::l=>match Nat.ble 1000000000000 k with|true=>ownOf l|false=>c::ownOf l
theorem mem_ownOf {c:Nat}:∀ {l:List (Nat×Nat)},c∈ownOf l-> ∃k,(c,k)∈l∧k<1000000000000
 | [],h=>by cases h
 | (c',k)::l,h=>by
  simp only [ownOf] at h
  split at h
  ·obtain ⟨k',h1,h2⟩:=mem_ownOf h;exact ⟨k',by simp [h1],h2⟩
  ·rename_i hb
   rcases List.mem_cons.1 h with rfl|h
   ·exact ⟨k,by simp,by
     rcases Nat.lt_or_ge k 1000000000000 with h|h
     ·exact h
     ·rw [Nat.ble_eq_true_of_le h] at hb;cases hb⟩
   ·obtain ⟨k',h1,h2⟩:=mem_ownOf h;exact ⟨k',by simp [h1],h2⟩
theorem ownOf_mem {c k:Nat} (hk:k<1000000000000):∀ {l:List (Nat×Nat)},(c,k)∈l->c∈ownOf l
 | [],h=>by cases h
 | (c',k')::l,h=>by
  simp only [ownOf]
  rcases List.mem_cons.1 h with h|h
  ·cases h
   have:Nat.ble 1000000000000 k=false:=by
    cases hb:Nat.ble 1000000000000 k with
    | false=>rfl
    | true=>have:=Nat.le_of_ble_eq_true hb;omega
   rw [this];simp
  ·have:=ownOf_mem hk h
   split
   ·exact this
   ·simp [this]
def varsM (s:AS) (ho:List (Nat×Row)):List (Nat×Nat)->Option (List Prop)
 | []=>some []
 | (c,k)::l=>match Nat.ble 1000000000000 k,varsM s ho l with
  | true,some C=>(match look s.H c,look ho k with
   | some ⟨e,_,true,cs⟩,some ⟨e',_,true,cs'⟩=>(match Nat.beq e e' with|true=>some ((cs.length=cs'.length∧0<cs'.length)::C)|false=>none)
   | _,_=>none)
  | false,some C=>(match Nat.ble c 999999999999 with|true=>some C|false=>none)
  | _,none=>none
theorem varsM_at {s:AS} {ho:List (Nat×Row)}:∀ {l:List (Nat×Nat)} {C:List Prop},varsM s ho l=some C->AllP C-> ∀c k,(c,k)∈l ->
  (1000000000000≤k∧ ∃r r',look s.H c=some r∧look ho k=some r'∧r.e=r'.e∧r.full=true∧r'.full=true∧r.cells.length=r'.cells.length∧0<r'.cells.length)∨(k<1000000000000∧c<1000000000000)
 | [],C,h,hC,c,k,hm=>by cases hm
 | (c',k')::l,C,h,hC,c,k,hm=>by
  simp only [varsM] at h
  split at h
  ·rename_i C1 hb hr
   split at h
   ·rename_i e p cs e' p' cs' h1 h2
    split at h
    ·rename_i he
     cases h
     rcases List.mem_cons.1 hm with hm|hm
     ·cases hm
      exact .inl ⟨Nat.le_of_ble_eq_true hb,_,_,h1,h2,Nat.eq_of_beq_eq_true he,rfl,rfl,hC.1.1,hC.1.2⟩
     ·exact varsM_at hr hC.2 c k hm
    ·cases h
   ·cases h
  ·rename_i C1 hb hr
   split at h
   ·rename_i hc
    cases h
    rcases List.mem_cons.1 hm with hm|hm
    ·obtain ⟨rfl,rfl⟩:c=c'∧k=k':=by simpa using hm
     have:=Nat.le_of_ble_eq_true hc
     have hk:k<1000000000000:=by
      rcases Nat.lt_or_ge k 1000000000000 with h|h
      ·exact h
      ·rw [Nat.ble_eq_true_of_le h] at hb;cases hb
     exact .inr ⟨hk,by omega⟩
    ·exact varsM_at hr hC c k hm
   ·cases h
  ·cases h
def checksM (ln:List (Nat×Nat)):Bool:=match nodupA (ln.map (·.1)) with|true=>nodupA (ln.map (·.2))|false=>false
theorem checksM_ok {ln:List (Nat×Nat)} (h:checksM ln=true):(ln.map (·.1)).Nodup∧(ln.map (·.2)).Nodup:=by
 unfold checksM at h
 split at h
 ·rename_i h1;exact ⟨nodupA_ok h1,nodupA_ok h⟩
 ·cases h
def dropsL {α:Type} (H:List (Nat×α)):List Nat->List (Nat×α)
 | []=>H
 | i::l=>dropsL (drop_ H i) l
theorem look_dropsL {α:Type}:∀(l:List Nat) (H:List (Nat×α)) (i:Nat),look (dropsL H l) i=if i∈l then none else look H i
 | [],H,i=>by simp [dropsL]
 | j::l,H,i=>by
  simp only [dropsL]
  rw [look_dropsL l,look_drop]
  by_cases e:j=i
  ·subst e;simp
  ·by_cases h:i∈l
   ·simp [h]
   ·simp [h,e,Ne.symm e]
def backS (s:AS) (ln:List (Nat×Nat)) (Hb:List (Nat×Row)):AS:=⟨(retireAll s (ownOf ln)).F,Hb++dropsL (retireAll s (ownOf ln)).H (ln.map (·.1))⟩
def evCallM (P:Program) (n:Nat) (s:AS) (d:Option Nat) (c:Callee) (args:List Operand) (h:Hint):Option (AS×List Prop) :=
 match callee s c,h.av with
 | some f,some r=>(match isEnter P f,thawAll s (((args.map (opd s)).flatMap ids1).filter fun i=> !(memN i (h.ln.map (·.1)))) with
  | true,some s1=>(match lentRows s1 h.ln h.ln,backRows h.ho (inv h.ln) h.ln,checksM h.ln,varsM s1 h.ho h.ln with
   | some Hl,some Hb,true,some C=>(match d with
    | some d=>(match nodupB ((adTop d r).2.map (·.1)),putD n ⟨(retireAll (backS s1 h.ln Hb) ((adTop d r).2.map (·.1))).F,(adTop d r).2++(retireAll (backS s1 h.ln Hb) ((adTop d r).2.map (·.1))).H⟩ (some d) (adTop d r).1 with
     | true,some s'=>some (s',RetM P f (args.map fun x=>ren2L h.ln (opd s1 x)) Hl r h.ho::C)
     | _,_=>none)
    | none=>some (backS s1 h.ln Hb,RetM P f (args.map fun x=>ren2L h.ln (opd s1 x)) Hl r h.ho::C))
   | _,_,_,_=>none)
  | _,_=>none)
 | _,_=>none
section
variable {P:Program} {S0:Zone} {w0 w w':World} {n:Nat} {s:AS} {a:Act} {φ:Nat->Option Nat}
theorem retireO:∀(l:List Nat) (s:AS) (φ:Nat->Option Nat) (O:List Nat),SimO S0 w0 n O s a w φ-> ∃O',SimO S0 w0 n O' (retireAll s l) a w (fun id=>if id∈l then none else φ id)∧(∀g∈O',g∈O∨ ∃i∈l,φ i=some g)∧(∀g∈O,g∈O')∧(∀i∈l,∀g,φ i=some g->g∈O') ∧
  (∀id q,look (retireAll s l).H id=some q->id ∉ l∧ ∃q0,look s.H id=some q0∧q.e=q0.e∧q.cells.length=q0.cells.length∧q.full=q0.full)∧(∀id q0,id ∉ l->look s.H id=some q0-> ∃q,look (retireAll s l).H id=some q)
 | [],s,φ,O,h=>by
  have e:(fun id=>if id∈([]:List Nat) then none else φ id)=φ:=by funext id;simp
  rw [e]
  exact ⟨O,h,fun g hg=>.inl hg,fun g hg=>hg,fun i hi=>(by cases hi),fun id q hq=>⟨by simp,q,hq,rfl,rfl,rfl⟩,fun id q0 _ hq=>⟨q0,hq⟩⟩
 | i::l,s,φ,O,h=>by
  have h1:=h.retire_ i (match φ i with|some g=>g::O|none=>O) rfl
  obtain ⟨O',h2,h3,h4,h5,h6,h7⟩:=retireO l _ _ _ h1
  have hlook:∀id,look (retire i s).H id=if i=id then none else (look s.H id).map (killRow i):=fun id=>by
   unfold retire;rw [look_mapv,look_drop];by_cases e:i=id<;>simp [e]
  refine ⟨O',?_,fun g hg=>?_,fun g hg=>h4 g ?_,fun j hj g hg=>?_,fun id q hq=>?_,fun id q0 hid hq=>?_⟩
  ·have:(fun id=>if id∈i::l then none else φ id)=fun id=>if id∈l then none else erase φ i id:=by
    funext id
    unfold erase
    by_cases e1:id=i<;>by_cases e2:id∈l<;>simp [e1,e2]
   rw [this];exact h2
  ·rcases h3 g hg with h|⟨j,hj,hg'⟩
   ·cases hφ:φ i with
    | none=>rw [hφ] at h;exact .inl h
    | some g0 =>
     rw [hφ] at h
     rcases List.mem_cons.1 h with rfl|h
     ·exact .inr ⟨i,by simp,hφ⟩
     ·exact .inl h
   ·unfold erase at hg'
    split at hg'
    ·cases hg'
    ·exact .inr ⟨j,by simp [hj],hg'⟩
  ·cases hφ:φ i with
   | none=>exact hg
   | some g0=>simp [hg]
  ·by_cases e:j=i
   ·subst e;exact h4 g (by rw [hg];simp)
   ·rcases List.mem_cons.1 hj with hj|hj
    ·exact absurd hj e
    ·exact h5 j hj g (by unfold erase;rw [if_neg e];exact hg)
  ·obtain ⟨k1,q1,k2,k3,k4,k5⟩:=h6 id q hq
   rw [hlook] at k2
   by_cases e:i=id
   ·rw [if_pos e] at k2;cases k2
   ·rw [if_neg e] at k2
    cases hl:look s.H id with
    | none=>rw [hl] at k2;cases k2
    | some q0 =>
     rw [hl] at k2;injection k2 with k2
     obtain ⟨m1,m2,m3,m4⟩:=killRow_len i q0
     exact ⟨by simp [Ne.symm e,k1],q0,rfl,by rw [k3,←k2,m1],by rw [k4,←k2,m2],by rw [k5,←k2,m4]⟩
  ·simp only [List.mem_cons,not_or] at hid
   exact h7 id (killRow i q0) hid.2 (by rw [hlook,if_neg (Ne.symm hid.1),hq];rfl)
def lentφ (ln:List (Nat×Nat)) (φ:Nat->Option Nat):Nat->Option Nat:=fun k=>(look (inv ln) k).bind φ
theorem lent_ok (hs:SimO S0 w0 n [] s a w φ) {ln:List (Nat×Nat)} (h1:(ln.map (·.1)).Nodup) (h2:(ln.map (·.2)).Nodup) {Hl:List (Nat×Row)} (hl:lentRows s ln ln=some Hl) :
  Lent (Free S0 w φ []) w (lentφ ln φ) Hl∧(∀i k x,look ln i=some k->infoOf s.H φ i=some x->infoOf Hl (lentφ ln φ) k=some x):=by
 have hlk:=look_lentRows hl
 have hI:∀i k x,look ln i=some k->infoOf s.H φ i=some x->infoOf Hl (lentφ ln φ) k=some x:=by
  intro i k x hik hx
  obtain ⟨e,m,b⟩:=x
  obtain ⟨r,hr,he,hm,hb⟩:=info_some hx
  have hki:=(look_inv h1 h2).2 hik
  rw [info_of (r:=renRowL ln r) (by rw [hlk,hki];simp [hr])]
  obtain ⟨m1,m2,-,-⟩:=renRowL_len ln r
  rw [m1,m2,he,hm]
  unfold lentφ;rw [hki];simp [hb]
 have back:∀k g,lentφ ln φ k=some g-> ∃c,look (inv ln) k=some c∧φ c=some g:=by
  intro k g hk
  unfold lentφ at hk
  cases hc:look (inv ln) k with
  | none=>rw [hc] at hk;cases hk
  | some c=>rw [hc] at hk;exact ⟨c,rfl,hk⟩
 refine ⟨⟨fun b hb=>⟨hb.1,fun ⟨k,hk⟩=>?_⟩,fun k hk=>?_,fun k k' g hk hk'=>?_,fun k g hk=>?_,fun k r hr=>?_⟩,hI⟩
 ·obtain ⟨c,-,hc⟩:=back k b hk
  exact hb.2.2.1 c hc
 ·rw [hlk] at hk
  cases hc:look (inv ln) k with
  | none=>unfold lentφ;rw [hc];rfl
  | some c =>
   rw [hc] at hk
   have hcn:look s.H c=none:=by simpa using hk
   unfold lentφ;rw [hc];exact hs.only c hcn
 ·obtain ⟨c,hc,hg⟩:=back k g hk
  obtain ⟨c',hc',hg'⟩:=back k' g hk'
  have e:=hs.inj c c' g hg hg'
  subst e
  have e1:=(look_inv h1 h2).1 hc
  have e2:=(look_inv h1 h2).1 hc'
  rw [e1] at e2;injection e2
 ·obtain ⟨c,-,hc⟩:=back k g hk
  exact (hs.rng c g hc).2
 ·rw [hlk] at hr
  cases hc:look (inv ln) k with
  | none=>rw [hc] at hr;cases hr
  | some c =>
   rw [hc] at hr
   cases hcr:look s.H c with
   | none=>simp [hcr] at hr
   | some q =>
    simp [hcr] at hr
    subst hr
    have hrow:=(hs.rows c q hcr).renL ln hI (fun b hb=>hb)
    have e:lentφ ln φ k=φ c:=by unfold lentφ;rw [hc];rfl
    rw [e];exact hrow
theorem lend_back (hs:SimO S0 w0 n [] s a w φ) {ln:List (Nat×Nat)} (h1:(ln.map (·.1)).Nodup) (h2:(ln.map (·.2)).Nodup) {ho:List (Nat×Row)} {Hb:List (Nat×Row)} (hb:backRows ho (inv ln) ln=some Hb)
  {C:List Prop} (hv:varsM s ho ln=some C) (hC:AllP C) {φ':Nat->Option Nat} {O:List Nat} {v:Value} {r:AV} (hB:Back (Free S0 w φ []) w w' (lentφ ln φ) φ' O ho v r) :
  ∃ φ3,SimO S0 w0 n O (backS s ln Hb) a w' φ3∧Giv (Free S0 w' φ3 O) w' v r O:=by
 obtain ⟨O0,hA,hO1,-,hO2,hrow1,hrow2⟩:=retireO (ownOf ln) s φ [] hs
 generalize hφA:(fun id=>if id∈ownOf ln then none else φ id)=φA at hA
 have eA:∀id,φA id=if id∈ownOf ln then none else φ id:=fun id=>by rw [←hφA]
 have hbk:=fun c=>look_backRows hb c
 let φ3:Nat->Option Nat:=fun id=>match look ln id with|some k=>φ' k|none=>φ id
 have e3s:∀id k,look ln id=some k->φ3 id=φ' k:=fun id k h=>by show (match look ln id with|some k=>φ' k|none=>φ id)=_;rw [h]
 have e3n:∀id,look ln id=none->φ3 id=φ id:=fun id h=>by show (match look ln id with|some k=>φ' k|none=>φ id)=_;rw [h]
 have inr:∀g,InR (lentφ ln φ) g-> ∃c k,look ln c=some k∧φ c=some g:=by
  rintro g ⟨k,hk⟩
  unfold lentφ at hk
  cases hc:look (inv ln) k with
  | none=>rw [hc] at hk;cases hk
  | some c=>rw [hc] at hk;exact ⟨c,k,(look_inv h1 h2).1 hc,hk⟩
 have own_ln:∀c,c∈ownOf ln-> ∃k,look ln c=some k∧k<1000000000000:=fun c hc=>by
  obtain ⟨k,hm,hk⟩:=mem_ownOf hc
  exact ⟨k,look_of_mem h1 hm,hk⟩
 have F2:∀b,Free S0 w φA O0 b->Free S0 w' φ3 O b∧w'.heap[b]?=w.heap[b]?:=by
  intro b ⟨f1,f2,f3,f4⟩
  have hno:¬InR (lentφ ln φ) b:=fun h=>by
   obtain ⟨c,k,hck,hc⟩:=inr b h
   by_cases ho:c∈ownOf ln
   ·exact f2 (hO2 c ho b hc)
   ·exact f3 c (by rw [eA,if_neg ho];exact hc)
  refine ⟨⟨Nat.lt_of_lt_of_le f1 hB.size,fun hm=>?_,fun id hid=>?_,f4⟩,hB.block b f1 hno⟩
  ·rcases (hB.own b hm).1 with h|h
   ·omega
   ·exact hno h
  ·cases hl:look ln id with
   | some k =>
    rw [e3s id k hl] at hid
    rcases hB.rng k b hid with h|h
    ·omega
    ·exact hno h
   | none =>
    rw [e3n id hl] at hid
    have:id ∉ ownOf ln:=fun hm=>by obtain ⟨k,h,-⟩:=own_ln id hm;rw [hl] at h;cases h
    exact f3 id (by rw [eA,if_neg this];exact hid)
 have F5:∀b,After (Free S0 w φ []) w w' (lentφ ln φ) φ' O b->Free S0 w' φ3 O b:=by
  intro b ⟨g1,g2,g3⟩
  have hlt:b<w'.heap.size:=by
   rcases g1 with h|h
   ·exact Nat.lt_of_lt_of_le h.1 hB.size
   ·exact h.2
  refine ⟨hlt,g2,fun id hid=>?_,?_⟩
  ·cases hl:look ln id with
   | some k=>rw [e3s id k hl] at hid;exact g3 ⟨k,hid⟩
   | none =>
    rw [e3n id hl] at hid
    rcases g1 with h|⟨h|h,-⟩
    ·exact h.2.2.1 id hid
    ·have:=(hs.rng id b hid).2;omega
    ·obtain ⟨c,k,hck,hc⟩:=inr b h
     have:=hs.inj id c b hid hc
     subst this;rw [hl] at hck;cases hck
  ·rcases g1 with h|⟨h|h,-⟩
   ·exact h.2.2.2
   ·exact hs.new b (.inl (Nat.le_trans hs.bel.size h))
   ·obtain ⟨c,k,hck,hc⟩:=inr b h
    exact hs.new b (hs.rng c b hc).1.2
 have lookB:∀id k,look ln id=some k-> ∃r',look ho k=some r'∧look (backS s ln Hb).H id=some (renRowL (inv ln) r'):=by
  intro id k hk
  obtain ⟨e1,e2⟩:=hbk id
  obtain ⟨r',hr'⟩:=e2 k hk
  refine ⟨r',hr',?_⟩
  unfold backS
  rw [look_append,e1,hk]
  simp [hr']
 have lookN:∀id,look ln id=none->look (backS s ln Hb).H id=look (retireAll s (ownOf ln)).H id:=by
  intro id hk
  obtain ⟨e1,-⟩:=hbk id
  unfold backS
  rw [look_append,e1,hk,look_dropsL]
  have:id ∉ ln.map (·.1):=fun hm=>by
   obtain ⟨⟨c,k⟩,hm',e⟩:=List.mem_map.1 hm
   have e:c=id:=e
   subst e
   rw [look_of_mem h1 hm'] at hk;cases hk
  simp [this]
 have vars:∀id k,look ln id=some k->1000000000000≤k-> ∃r0 r' g,look s.H id=some r0∧look ho k=some r'∧r0.e=r'.e∧r0.full=true∧r'.full=true∧r0.cells.length=r'.cells.length∧φ' k=some g∧φ id=some g:=by
  intro id k hk hge
  rcases varsM_at hv hC id k (look_mem hk) with ⟨-,r0,r',e1,e2,e3,e4,e5,e6,e7⟩|⟨h,-⟩
  ·have hrow:=hB.lent.rows k r' e2
   cases hg:φ' k with
   | none =>
    rw [hg] at hrow
    have:r'.cells= []:=hrow
    rw [this] at e7;simp at e7
   | some g =>
    have:=hB.fix k g hge hg
    unfold lentφ at this
    rw [(look_inv h1 h2).2 hk] at this
    exact ⟨r0,r',g,e1,e2,e3,e4,e5,e6,rfl,this⟩
  ·omega
 have F3:∀id x,infoOf (retireAll s (ownOf ln)).H φA id=some x->infoOf (backS s ln Hb).H φ3 id=some x:=by
  intro id x hx
  obtain ⟨e,m,b⟩:=x
  obtain ⟨q,hq,he,hm,hbb⟩:=info_some hx
  obtain ⟨hno,q0,hq0,he0,hm0,-⟩:=hrow1 id q hq
  rw [eA,if_neg hno] at hbb
  cases hl:look ln id with
  | none=>rw [info_of (r:=q) (by rw [lookN id hl];exact hq),e3n id hl,he,hm,hbb]
  | some k =>
   have hge:1000000000000≤k:=by
    rcases Nat.lt_or_ge k 1000000000000 with h|h
    ·exact absurd (ownOf_mem h (look_mem hl)) hno
    ·exact h
   obtain ⟨r0,r',g,f1,f2,f3,-,-,f6,f7,f8⟩:=vars id k hl hge
   rw [hq0] at f1;injection f1 with f1;subst f1
   obtain ⟨r'',f9,f10⟩:=lookB id k hl
   rw [f2] at f9;injection f9 with f9;subst f9
   obtain ⟨m1,m2,-,-⟩:=renRowL_len (inv ln) r'
   rw [info_of f10,m1,m2,e3s id k hl,f7,←f3,←he0,he,←f6,←hm0,hm,←hbb,f8]
 have F4:∀id e m g,infoOf (retireAll s (ownOf ln)).H φA id=some (e,m,some g)->cellsLen w' g=cellsLen w g:=by
  intro id e m g hx
  obtain ⟨q,hq,he,hm,hbb⟩:=info_some hx
  obtain ⟨hno,q0,hq0,he0,hm0,-⟩:=hrow1 id q hq
  rw [eA,if_neg hno] at hbb
  cases hl:look ln id with
  | none =>
   have hni:¬InR (lentφ ln φ) g:=fun h=>by
    obtain ⟨c,k,hck,hc⟩:=inr g h
    have:=hs.inj id c g hbb hc
    subst this;rw [hl] at hck;cases hck
   unfold cellsLen;rw [hB.block g (hs.rng id g hbb).2 hni]
  | some k =>
   have hge:1000000000000≤k:=by
    rcases Nat.lt_or_ge k 1000000000000 with h|h
    ·exact absurd (ownOf_mem h (look_mem hl)) hno
    ·exact h
   obtain ⟨r0,r',g',f1,f2,-,f4,f5,f6,f7,f8⟩:=vars id k hl hge
   rw [f8] at hbb;injection hbb with hbb;subst hbb
   have hr0:=hs.rows id r0 f1
   rw [f8] at hr0
   obtain ⟨cur,te,fr,u1,-,-,u2,-⟩:=hr0
   have hr':=hB.lent.rows k r' f2
   rw [f7] at hr'
   obtain ⟨cur',te',fr',v1,-,-,v2,-⟩:=hr'
   unfold cellsLen;rw [u1,v1]
   show cur'.size=cur.size
   rw [u2 f4,v2 f5,f6]
 refine ⟨φ3,⟨hA.tsz,hA.dfr,⟨hB.os.trans hs.bel.os,hB.tape.trans hs.bel.tape,hB.output.trans hs.bel.output,Nat.le_trans hs.bel.size hB.size,fun k hk hx=>?_,hs.bel.g0,hs.bel.gx⟩,fun i av hi=>(hA.slots i av hi).mono F3 F2 F4,fun id q hq=>?_,fun id hid=>?_,fun id id' g hg hg'=>?_,fun id g hg=>?_,fun id g hg hm=>?_,hs.new⟩,hB.giv.mono F5⟩
 ·have hni:¬InR (lentφ ln φ) k:=fun h=>by
   obtain ⟨c,k',hck,hc⟩:=inr k h
   rcases (hs.rng c k hc).1.2 with h|h
   ·omega
   ·exact hx h
  rw [hB.block k (Nat.lt_of_lt_of_le hk hs.bel.size) hni]
  exact hs.bel.block k hk hx
 ·cases hl:look ln id with
  | some k =>
   obtain ⟨r',f2,f10⟩:=lookB id k hl
   rw [f10] at hq;injection hq with hq;subst hq
   rw [e3s id k hl]
   refine (hB.lent.rows k r' f2).renL (inv ln) (fun i c x hic hx=>?_) F5
   obtain ⟨e,m,b⟩:=x
   obtain ⟨q,hq,he,hm,hbb⟩:=info_some hx
   have hci:=(look_inv h1 h2).1 hic
   obtain ⟨r'',f3,f4⟩:=lookB c i hci
   rw [hq] at f3;injection f3 with f3;subst f3
   obtain ⟨m1,m2,-,-⟩:=renRowL_len (inv ln) q
   rw [info_of f4,m1,m2,e3s c i hci,he,hm,hbb]
  | none =>
   rw [lookN id hl] at hq
   have hno:id ∉ ownOf ln:=(hrow1 id q hq).1
   have hrow:=hA.rows id q hq
   have e:φA id=φ3 id:=by rw [eA,if_neg hno,e3n id hl]
   unfold RowDen at hrow ⊢
   rw [←e]
   cases hg:φA id with
   | none=>rw [hg] at hrow;exact hrow
   | some g =>
    rw [hg] at hrow
    obtain ⟨cur,te,fr,u1,u2,u3,u4,u5⟩:=hrow
    have hφ:φ id=some g:=by rw [eA,if_neg hno] at hg;exact hg
    have hni:¬InR (lentφ ln φ) g:=fun h=>by
     obtain ⟨c,k,hck,hc⟩:=inr g h
     have:=hs.inj id c g hφ hc
     subst this;rw [hl] at hck;cases hck
    refine ⟨cur,te,fr,(hB.block g (hs.rng id g hφ).2 hni).trans u1,u2,u3,u4,fun j u x hu hx=>?_⟩
    have:=u5 j u x hu hx
    unfold CellDen at this ⊢
    cases hp:q.pure with
    | true=>rw [hp] at this;exact this.mono F2
    | false=>rw [hp] at this;exact this.mono F3 F2 F4
 ·cases hl:look ln id with
  | some k=>obtain ⟨r',-,f⟩:=lookB id k hl;rw [f] at hid;cases hid
  | none =>
   rw [lookN id hl] at hid
   have hno:id ∉ ownOf ln:=fun hm=>by obtain ⟨k,h,-⟩:=own_ln id hm;rw [hl] at h;cases h
   have:=hA.only id hid
   rw [eA,if_neg hno] at this
   rw [e3n id hl,this]
 ·have mixed:∀i j k,look ln i=some k->look ln j=none->φ' k=some g->φ j=some g->False:=by
   intro i j k hi hj h1' h2'
   rcases hB.rng k g h1' with h|h
   ·have:=(hs.rng j g h2').2;omega
   ·obtain ⟨c,k',hck,hc⟩:=inr g h
    have:=hs.inj j c g h2' hc
    subst this;rw [hj] at hck;cases hck
  cases hl:look ln id with
  | some k =>
   rw [e3s id k hl] at hg
   cases hl':look ln id' with
   | some k' =>
    rw [e3s id' k' hl'] at hg'
    have:=hB.lent.inj k k' g hg hg'
    subst this
    have e1:=(look_inv h1 h2).2 hl
    have e2:=(look_inv h1 h2).2 hl'
    rw [e1] at e2;injection e2
   | none=>rw [e3n id' hl'] at hg';exact (mixed id id' k hl hl' hg hg').elim
  | none =>
   rw [e3n id hl] at hg
   cases hl':look ln id' with
   | some k'=>rw [e3s id' k' hl'] at hg';exact (mixed id' id k' hl' hl hg' hg).elim
   | none=>rw [e3n id' hl'] at hg';exact hs.inj id id' g hg hg'
 ·cases hl:look ln id with
  | none =>
   rw [e3n id hl] at hg
   have:=hs.rng id g hg
   exact ⟨this.1,Nat.lt_of_lt_of_le this.2 hB.size⟩
  | some k =>
   rw [e3s id k hl] at hg
   refine ⟨⟨?_,?_⟩,hB.lent.lt k g hg⟩
   ·rcases varsM_at hv hC id k (look_mem hl) with ⟨hge,-⟩|⟨-,h⟩
    ·obtain ⟨r0,r',g',-,-,-,-,-,-,f7,f8⟩:=vars id k hl hge
     rw [hg] at f7;injection f7 with f7;subst f7
     exact (hs.rng id g f8).1.1
    ·exact .inl h
   ·rcases hB.rng k g hg with h|h
    ·exact .inl (Nat.le_trans hs.bel.size h)
    ·obtain ⟨c,k',hck,hc⟩:=inr g h
     exact (hs.rng c g hc).1.2
 ·obtain ⟨o1,o2,o3⟩:=hB.own g hm
  cases hl:look ln id with
  | some k=>rw [e3s id k hl] at hg;exact o3 ⟨k,hg⟩
  | none =>
   rw [e3n id hl] at hg
   rcases o1 with h|h
   ·have:=(hs.rng id g hg).2;omega
   ·obtain ⟨c,k',hck,hc⟩:=inr g h
    have:=hs.inj id c g hg hc
    subst this;rw [hl] at hck;cases hck
end
section
variable {P:Program} {n:Nat} {s:AS} {o:Oper} {h:Hint} {q:AS×List Prop}
theorem evCallM_ok {c:Callee} {xs:Array Operand} {ts:Array TypeId} (ho:o.op= .call ⟨c,xs,ts⟩) (hr:evCallM P n s o.dst c xs.toList h=some q):OpOK P n s o q.1 q.2:=by
 intro hC S0 w0 a w Q ⟨φ,hs⟩
 unfold evCallM at hr
 split at hr
 ·rename_i f r hc _
  split at hr
  ·rename_i s1 hE hth
   split at hr
   ·rename_i Hl Hb C hl hb hck hv
    obtain ⟨h1,h2⟩:=checksM_ok hck
    obtain ⟨φ1,hs1⟩:=thawAll_ok _ _ _ _ hth hs
    obtain ⟨hlent,hI⟩:=lent_ok hs1 h1 h2 hl
    have hrun:=callee_ok hs hc ho hE
    have main:RetM P f (xs.toList.map fun x=>ren2L h.ln (opd s1 x)) Hl r h.ho->AllP C-> ∀s',((∃d,o.dst=some d∧nodupB ((adTop d r).2.map (·.1))=true∧putD n ⟨(retireAll (backS s1 h.ln Hb) ((adTop d r).2.map (·.1))).F,(adTop d r).2++(retireAll (backS s1 h.ln Hb) ((adTop d r).2.map (·.1))).H⟩ (some d) (adTop d r).1=some s')∨(o.dst=none∧s'=backS s1 h.ln Hb))->o.wp P a w (fun a' w'=>Sim S0 w0 n s' a' w') Q:=by
     intro hret hC2 s' hd
     unfold Oper.wp
     rw [hrun]
     have hcall:=hret w (Free S0 w φ1 []) (lentφ h.ln φ1) (xs.toList.map a.eval) hs1.bel.good (fun id g hg hb=>by
      obtain ⟨k,hk⟩:∃k,φ1 k=some g:=by
       unfold lentφ at hg
       cases hl:look (inv h.ln) id with
       | none=>rw [hl] at hg;cases hg
       | some k=>rw [hl] at hg;exact ⟨k,hg⟩
      rcases (hs1.rng k g hk).1.2 with h1|h1
      ·have:=hs1.bel.g0.lt hb;omega
      ·exact hs1.bel.gx g hb h1) hlent (by simp) (fun j v x hv hx=>by
      rw [List.getElem?_map] at hv hx
      cases hj:xs.toList[j]? with
      | none=>rw [hj] at hv;cases hv
      | some y =>
       rw [hj] at hv hx
       injection hv with hv;injection hx with hx;subst hv;subst hx
       exact (hs1.opd y).renL h.ln hI (fun b hb=>hb))
     have e:(xs.toList.map a.eval).toArray=xs.map a.eval:=by apply Array.ext';simp
     rw [e] at hcall
     refine hcall.mono ?_
     rintro en w' ⟨v,O,φ',rfl,hB⟩
     show Sim S0 w0 n s' (a.put o.dst v) w'
     obtain ⟨φ3,h3,hgiv⟩:=lend_back hs1 h1 h2 hb hv hC2 hB
     have hrg:∀g∈O,(w0.heap.size≤g∨S0.X g)∧g<w'.heap.size:=fun g hg=>by
      obtain ⟨o1,o2,-⟩:=hB.own g hg
      refine ⟨?_,o2⟩
      rcases o1 with h|⟨k,hk⟩
      ·exact .inl (Nat.le_trans hs1.bel.size h)
      ·unfold lentφ at hk
       cases hc:look (inv h.ln) k with
       | none=>rw [hc] at hk;cases hk
       | some c=>rw [hc] at hk;exact (hs1.rng c g hk).1.2
     rcases hd with ⟨d,hd,hnb,hput⟩|⟨hd,rfl⟩
     ·obtain ⟨φ4,h4,hF,hnone⟩:=retireAll_ok ((adTop d r).2.map (·.1)) _ φ3 O h3
      have h4':SimO S0 w0 n (O++ []) (retireAll (backS s1 h.ln Hb) ((adTop d r).2.map (·.1))) a w' φ4:=by rw [List.append_nil];exact h4
      obtain ⟨φ5,h5,h6,-⟩:=takes_top (retireAll (backS s1 h.ln Hb) ((adTop d r).2.map (·.1))) φ4 O [] v r d h4' (by rw [List.append_nil];exact hgiv.mono hF) (by rw [List.append_nil];exact hB.nodup) hrg (fun i hi=>⟨hnone i (.inr hi),nodupB_lt hnb i hi⟩) (nodupB_ok hnb)
      rw [hd]
      exact ⟨φ5,putD_ok h5 h6 hput⟩
     ·rw [hd]
      have key:∀(O:List Nat),SimO S0 w0 n O (backS s1 h.ln Hb) a w' φ3->SimO S0 w0 n [] (backS s1 h.ln Hb) a w' φ3:=by
       intro O
       induction O with
       | nil=>exact fun h=>h
       | cons g O ih=>exact fun h=>ih h.free_
      have h5:=key O h3
      exact ⟨φ3,⟨h5.tsz,h5.dfr,h5.bel,h5.slots,h5.rows,h5.only,h5.inj,h5.rng,h5.apart,h5.new⟩⟩
    split at hr
    ·rename_i d hd
     split at hr
     ·rename_i s' hnb hput
      cases hr
      exact main hC.1 hC.2 s' (.inl ⟨d,hd,hnb,hput⟩)
     ·cases hr
    ·rename_i hd
     cases hr
     exact main hC.1 hC.2 _ (.inr ⟨hd,rfl⟩)
   ·cases hr
  ·cases hr
 ·cases hr
end
end Go.Proofs.YtejpabdmiagnnaaGreatDoor
