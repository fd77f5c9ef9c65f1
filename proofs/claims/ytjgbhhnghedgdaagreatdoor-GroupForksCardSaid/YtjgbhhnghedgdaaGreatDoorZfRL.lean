import Derived.Test.YtjgbhhnghedgdaaGreatDoorZfRB
import Derived.Orders
import Derived.BigCall
import Derived.StillTail
set_option linter.all false
namespace Go.Proofs.YtjgbhhnghedgdaaGreatDoor
open Go.RowKit
def im (ρ :List (Nat×Nat)):AV->AV
 | .ref i=>match look ρ i with|some k=>.ref k|none=>.dead
 | .pre i n=>match look ρ i with|some k=>.pre k n|none=>.dead
 | .jE i o n=>match look ρ i with|some k=>.jE k o n|none=>.dead
 | .addr i o=>match look ρ i with|some k=>.addr k o|none=>.dead
 | .agg _=>.dead
 | .b_ _=>.dead
 | x=>x
def Fu (ρ :List (Nat×Nat)):AV->AV
 | .agg cs=>.agg (cs.map (im ρ))
 | x=>im ρ x
def sX (ρ :List (Nat×Nat)):AV->AV
 | .b_ cs=>.b_ (cs.map (Fu ρ))
 | x=>Fu ρ x
def fA (ρ :List (Nat×Nat)) (r:Row):Row:=match r.pure with|true=>r|false=>⟨r.e,false,r.full,r.cells.map (im ρ)⟩
theorem lE (ρ :List (Nat×Nat)) (r:Row):(fA ρ r).e=r.e∧(fA ρ r).cells.length=r.cells.length∧(fA ρ r).pure=r.pure∧(fA ρ r).full=r.full:=by
 unfold fA;cases h:r.pure<;>simp [h]
section
variable {I I':Info} {S S':Nat->Prop} {w:World}
theorem Bo (ρ :List (Nat×Nat)) (hI:∀i k x,look ρ i=some k->I i=some x->I' k=some x) (hS:∀b,S b->S' b):ki I I' S S' w (im ρ) where
 agg:=fun _=>rfl
 b_:=fun _=>rfl
 leaf:=fun v x hx h1 h2=>by
  have tQ:∀b,S b->S' b∧w.heap[b]?=w.heap[b]?:=fun b h=>⟨hS b h,rfl⟩
  cases hx with
  | rep h=>cases h with
   | val v=>exact .rep (.val v)
   | nil=>exact .rep .nil
   | agg vs cs _ _=>exact absurd rfl (h1 cs)
   | b_ vs cs _ _=>exact absurd rfl (h2 cs)
   | arr vs cs hl h=>exact .rep ((cz.arr vs cs hl h).mono tQ)
   | sl A n c e us row hl hn hc hm ha h=>exact .rep ((cz.sl A n c e us row hl hn hc hm ha h).mono tQ)
   | sm A n e us row hl hn hm ha h=>exact .rep ((cz.sm A n e us row hl hn hm ha h).mono tQ)
   | ptr ad us row off hl hs ha h=>exact .rep ((cz.ptr ad us row off hl hs ha h).mono tQ)
   | lu f vs cs hl h=>exact .rep ((cz.lu f vs cs hl h).mono tQ)
  | agg vs cs _ _=>exact absurd rfl (h1 cs)
  | b_ vs cs _ _=>exact absurd rfl (h2 cs)
  | ref i e m g l c hi hm hc hx hs =>
   cases h:look ρ i with
   | none=>simp only [im,h];exact .dead _
   | some k=>simp only [im,h];exact .ref k _ m g l c (hI _ _ _ h hi) hm hc hx hs
  | cB i e hi =>
   cases h:look ρ i with
   | none=>simp only [im,h];exact .dead _
   | some k=>simp only [im,h];exact .cB k _ (hI _ _ _ h hi)
  | pre i n e m g l c hi hn hm hc hx hs =>
   cases h:look ρ i with
   | none=>simp only [im,h];exact .dead _
   | some k=>simp only [im,h];exact .pre k n _ m g l c (hI _ _ _ h hi) hn hm hc hx hs
  | dH i e hi =>
   cases h:look ρ i with
   | none=>simp only [im,h];exact .dead _
   | some k=>simp only [im,h];exact .dH k _ (hI _ _ _ h hi)
  | jE i off n e m l c g A hi hn hm hc hx ha =>
   cases h:look ρ i with
   | none=>simp only [im,h];exact .dead _
   | some k=>simp only [im,h];exact .jE k off n _ m l c g A (hI _ _ _ h hi) hn hm hc hx ha
  | addr i off e m g hi =>
   cases h:look ρ i with
   | none=>simp only [im,h];exact .dead _
   | some k=>simp only [im,h];exact .addr k off _ m g (hI _ _ _ h hi)
  | dead v=>exact .dead _
theorem Bn (ρ :List (Nat×Nat)) (y:AV) (h:∀cs,y≠ .agg cs):Fu ρ y=im ρ y:=by
 cases y with
 | agg cs=>exact absurd rfl (h cs)
 | _=>rfl
theorem Bm (ρ :List (Nat×Nat)) (y:AV) (h:∀cs,y≠ .b_ cs):sX ρ y=Fu ρ y:=by
 cases y with
 | b_ cs=>exact absurd rfl (h cs)
 | _=>rfl
theorem Den.LP (ρ :List (Nat×Nat)) (hI:∀i k x,look ρ i=some k->I i=some x->I' k=some x) (hS:∀b,S b->S' b) {v:Value} {x:AV} (h:Den I S w v x):Den I' S' w v (sX ρ x) :=
 (Bo ρ hI hS).two h (fun _=>rfl) (Bn ρ) (fun _=>rfl) (Bm ρ)
theorem bK.LP (ρ :List (Nat×Nat)) (hI:∀i k x,look ρ i=some k->I i=some x->I' k=some x) (hS:∀b,S b->S' b) {b:Option Nat} {r:Row} (h:bK I S w b r):bK I' S' w b (fA ρ r):=by
 obtain ⟨he,hl,hp,hf⟩:=lE ρ r
 cases b with
 | none =>
  have h:r.cells= []:=h
  show (fA ρ r).cells= []
  exact List.eq_nil_of_length_eq_zero (by rw [hl,h];rfl)
 | some g =>
  obtain ⟨cur,te,fr,hg,gZ,hle,nn,hc⟩:=h
  refine ⟨cur,te,fr,hg,gZ,by rw [hl];exact hle,fun h=>by rw [hl];exact nn (by rw [←hf];exact h),fun j u x hu hx=>?_⟩
  unfold bg
  cases Nq:r.pure with
  | true =>
   have e:fA ρ r=r:=by unfold fA;rw [Nq]
   rw [e] at hx ⊢
   have:=hc j u x hu hx
   unfold bg at this
   rw [Nq] at this ⊢
   exact this.mono fun b hb=>⟨hS b hb,rfl⟩
  | false =>
   have e:(fA ρ r).cells=r.cells.map (im ρ):=by unfold fA;rw [Nq]
   rw [hp,Nq]
   rw [e,List.getElem?_map] at hx
   cases hj:r.cells[j]? with
   | none=>rw [hj] at hx;cases hx
   | some y =>
    rw [hj] at hx;injection hx with hx;subst hx
    have:=hc j u y hu hj
    unfold bg at this
    rw [Nq] at this
    exact (Bo ρ hI hS).all this
end
def l_ (φ:Nat->Option Nat) (g:Nat):Prop:=∃id,φ id=some g
structure PM (S:Nat->Prop) (w:World) (φ:Nat->Option Nat) (H:List (Nat×Row)):Prop where
 sep:∀b,S b->b<w.heap.size∧ ¬l_ φ b
 only:∀id,look H id=none->φ id=none
 inj:∀id pU g,φ id=some g->φ pU=some g->id=pU
 lt:∀id g,φ id=some g->g<w.heap.size
 rows:∀id r,look H id=some r->bK (az H φ) S w (φ id) r
def Gm (S:Nat->Prop) (w w':World) (φ cy:Nat->Option Nat) (O:List Nat):Nat->Prop:=fun b=>(S b∨((w.heap.size≤b∨l_ φ b)∧b<w'.heap.size))∧b ∉ O∧ ¬l_ cy b
structure M7 (S:Nat->Prop) (w w':World) (φ cy:Nat->Option Nat) (O:List Nat) (H':List (Nat×Row)) (v:Value) (r:AV):Prop where
 os:w'.os=w.os
 tape:w'.tape=w.tape
 output:w'.output=w.output
 size:w.heap.size≤w'.heap.size
 block:∀b,b<w.heap.size-> ¬l_ φ b->w'.heap[b]?=w.heap[b]?
 nodup:O.Nodup
 own:∀g∈O,(w.heap.size≤g∨l_ φ g)∧g<w'.heap.size∧ ¬l_ cy g
 cW:∀id g,cy id=some g->w.heap.size≤g∨l_ φ g
 fix:∀id g,1000000000000≤id->cy id=some g->φ id=some g
 Jj:PM (Gm S w w' φ cy O) w' cy H'
 Xi:tU (Gm S w w' φ cy O) w' v r O
def gw (P:Program) (f:FuncId) (args:List AV) (H:List (Nat×Row)) (r:AV) (H':List (Nat×Row)):Prop :=
 ∀(w:World) (S:Nat->Prop) (φ:Nat->Option Nat) (vs:List Value),Good w->(∀id g,φ id=some g-> ¬TB g)->PM S w φ H->vs.length=args.length->(∀(j:Nat) v x,vs[j]?=some v->args[j]?=some x->Den (az H φ) S w v x) ->
  Calls P f vs.toArray w fun e w'=>∃v O cy,e= .returned v∧M7 S w w' φ cy O H' v r
def inv:List (Nat×Nat)->List (Nat×Nat)
 | []=>[]
 | (c,k)::l=>(k,c)::inv l
def BH (i:Nat):List Nat->Bool
 | []=>false
 | j::l=>match Nat.beq i j with|true=>true|false=>BH i l
theorem BG (i:Nat):∀(l:List Nat),BH i l=true↔i∈l
 | []=>by simp [BH]
 | j::l=>by
  simp only [BH]
  rcases bE i j with ⟨h,e⟩|⟨h,e⟩
  ·rw [h];simp [e]
  ·rw [h];simp only [List.mem_cons];rw [BG i l];simp [e]
def vi:List Nat->Bool
 | []=>true
 | i::l=>match BH i l with|true=>false|false=>vi l
theorem rY:∀ {l:List Nat},vi l=true->l.Nodup
 | [],_=>List.nodup_nil
 | i::l,h=>by
  simp only [vi] at h
  split at h
  ·cases h
  ·rename_i hn
   rw [List.nodup_cons]
   refine ⟨fun hm=>?_,rY h⟩
   rw [(BG i l).2 hm] at hn;cases hn
theorem kY {α:Type} {k:Nat} {x:α}:∀ {l:List (Nat×α)},look l k=some x->(k,x)∈l
 | [],h=>by cases h
 | (j,y)::l,h=>by
  rw [aD] at h
  by_cases e:j=k
  ·rw [if_pos e] at h;injection h with h;subst e;subst h;exact List.mem_cons_self ..
  ·rw [if_neg e] at h;exact List.mem_cons_of_mem _ (kY h)
theorem jW {α:Type} {k:Nat} {x:α}:∀ {l:List (Nat×α)},(l.map (·.1)).Nodup->(k,x)∈l->look l k=some x
 | [],_,h=>by cases h
 | (j,y)::l,hn,h=>by
  rw [aD]
  simp only [List.map_cons,List.nodup_cons] at hn
  rcases List.mem_cons.1 h with h|h
  ·cases h;rw [if_pos rfl]
  ·have:j≠k:=fun e=>hn.1 (by rw [e];exact List.mem_map.2 ⟨(k,x),h,rfl⟩)
   rw [if_neg this];exact jW hn.2 h
theorem zj {c k:Nat}:∀ {l:List (Nat×Nat)},(k,c)∈inv l↔(c,k)∈l
 | []=>by simp [inv]
 | (x,y)::l=>by
  simp only [inv,List.mem_cons,zj (l:=l),Prod.mk.injEq]
  constructor<;>(rintro (⟨h1,h2⟩|h);exact .inl ⟨h2,h1⟩;exact .inr h)
theorem FC:∀(l:List (Nat×Nat)),(inv l).map (·.1)=l.map (·.2)
 | []=>rfl
 | (x,y)::l=>by simp [inv,FC l]
theorem jX {l:List (Nat×Nat)} (h1:(l.map (·.1)).Nodup) (h2:(l.map (·.2)).Nodup) {c k:Nat}:look (inv l) k=some c↔look l c=some k :=
 ⟨fun h=>jW h1 (zj.1 (kY h)),fun h=>jW (by rw [FC];exact h2) (zj.2 (kY h))⟩
def jb (s:AS) (ρ :List (Nat×Nat)):List (Nat×Nat)->Option (List (Nat×Row))
 | []=>some []
 | (c,k)::l=>match look s.H c,jb s ρ l with|some r,some m=>some ((k,fA ρ r)::m)|_,_=>none
def ox (ho:List (Nat×Row)) (ρ :List (Nat×Nat)):List (Nat×Nat)->Option (List (Nat×Row))
 | []=>some []
 | (c,k)::l=>match look ho k,ox ho ρ l with|some r,some m=>some ((c,fA ρ r)::m)|_,_=>none
theorem pn {s:AS} {ρ :List (Nat×Nat)}:∀ {l:List (Nat×Nat)} {Hl:List (Nat×Row)},jb s ρ l=some Hl-> ∀k,look Hl k=(look (inv l) k).bind fun c=>(look s.H c).map (fA ρ)
 | [],Hl,h,k=>by cases h;rfl
 | (c,k')::l,Hl,h,k=>by
  simp only [jb] at h
  split at h
  ·rename_i r m hr hm
   cases h
   simp only [inv,aD]
   by_cases e:k'=k
   ·rw [if_pos e,if_pos e];simp [hr]
   ·rw [if_neg e,if_neg e];exact pn hm k
  ·cases h
theorem po {ho:List (Nat×Row)} {ρ :List (Nat×Nat)}:∀ {l:List (Nat×Nat)} {Hb:List (Nat×Row)},ox ho ρ l=some Hb-> ∀c,look Hb c=(look l c).bind (fun k=>(look ho k).map (fA ρ))∧ ∀k,look l c=some k-> ∃r,look ho k=some r
 | [],Hb,h,c=>by cases h;exact ⟨rfl,fun k h=>by cases h⟩
 | (c',k)::l,Hb,h,c=>by
  simp only [ox] at h
  split at h
  ·rename_i r m hr hm
   cases h
   simp only [aD]
   by_cases e:c'=c
   ·rw [if_pos e,if_pos e]
    exact ⟨by simp [hr],fun k' h=>by injection h with h;subst h;exact ⟨r,hr⟩⟩
   ·rw [if_neg e,if_neg e];exact po hm c
  ·cases h
def fB:List (Nat×Nat)->List Nat
 | []=>[]
 | (c,k)::l=>match Nat.ble 1000000000000 k with|true=>fB l|false=>c::fB l
theorem r6 {c:Nat}:∀ {l:List (Nat×Nat)},c∈fB l-> ∃k,(c,k)∈l∧k<1000000000000
 | [],h=>by cases h
 | (c',k)::l,h=>by
  simp only [fB] at h
  split at h
  ·obtain ⟨k',h1,h2⟩:=r6 h;exact ⟨k',by simp [h1],h2⟩
  ·rename_i hb
   rcases List.mem_cons.1 h with rfl|h
   ·exact ⟨k,by simp,by
     rcases Nat.lt_or_ge k 1000000000000 with h|h
     ·exact h
     ·rw [Nat.ble_eq_true_of_le h] at hb;cases hb⟩
   ·obtain ⟨k',h1,h2⟩:=r6 h;exact ⟨k',by simp [h1],h2⟩
theorem rW {c k:Nat} (hk:k<1000000000000):∀ {l:List (Nat×Nat)},(c,k)∈l->c∈fB l
 | [],h=>by cases h
 | (c',k')::l,h=>by
  simp only [fB]
  rcases List.mem_cons.1 h with h|h
  ·cases h
   have:Nat.ble 1000000000000 k=false:=by
    cases hb:Nat.ble 1000000000000 k with
    | false=>rfl
    | true=>have:=Nat.le_of_ble_eq_true hb;omega
   rw [this];simp
  ·have:=rW hk h
   split
   ·exact this
   ·simp [this]
def qi (s:AS) (ho:List (Nat×Row)):List (Nat×Nat)->Option (List Prop)
 | []=>some []
 | (c,k)::l=>match Nat.ble 1000000000000 k,qi s ho l with
  | true,some C=>(match look s.H c,look ho k with
   | some ⟨e,_,true,cs⟩,some ⟨e',_,true,Ln⟩=>(match Nat.beq e e' with|true=>some ((cs.length=Ln.length∧0<Ln.length)::C)|false=>none)
   | _,_=>none)
  | false,some C=>(match Nat.ble c 999999999999 with|true=>some C|false=>none)
  | _,none=>none
theorem qh {s:AS} {ho:List (Nat×Row)}:∀ {l:List (Nat×Nat)} {C:List Prop},qi s ho l=some C->bw C-> ∀c k,(c,k)∈l ->
  (1000000000000≤k∧ ∃r r',look s.H c=some r∧look ho k=some r'∧r.e=r'.e∧r.full=true∧r'.full=true∧r.cells.length=r'.cells.length∧0<r'.cells.length)∨(k<1000000000000∧c<1000000000000)
 | [],C,h,hC,c,k,hm=>by cases hm
 | (c',k')::l,C,h,hC,c,k,hm=>by
  simp only [qi] at h
  split at h
  ·rename_i C1 hb hr
   split at h
   ·rename_i e p cs e' p' Ln h1 h2
    split at h
    ·rename_i he
     cases h
     rcases List.mem_cons.1 hm with hm|hm
     ·cases hm
      exact .inl ⟨Nat.le_of_ble_eq_true hb,_,_,h1,h2,Nat.eq_of_beq_eq_true he,rfl,rfl,hC.1.1,hC.1.2⟩
     ·exact qh hr hC.2 c k hm
    ·cases h
   ·cases h
  ·rename_i C1 hb hr
   split at h
   ·rename_i hc
    cases h
    rcases List.mem_cons.1 hm with hm|hm
    ·obtain ⟨rfl,rfl⟩:c=c'∧k=k':=by simpa using hm
     have:=Nat.le_of_ble_eq_true hc
     have hk:k<1000000000000:=by
      rcases Nat.lt_or_ge k 1000000000000 with h|h
      ·exact h
      ·rw [Nat.ble_eq_true_of_le h] at hb;cases hb
     exact .inr ⟨hk,ag⟩
    ·exact qh hr hC c k hm
   ·cases h
  ·cases h
def Ay (ln:List (Nat×Nat)):Bool:=match vi (ln.map (·.1)) with|true=>vi (ln.map (·.2))|false=>false
theorem EO {ln:List (Nat×Nat)} (h:Ay ln=true):(ln.map (·.1)).Nodup∧(ln.map (·.2)).Nodup:=by
 unfold Ay at h
 split at h
 ·rename_i h1;exact ⟨rY h1,rY h⟩
 ·cases h
def pZ {α:Type} (H:List (Nat×α)):List Nat->List (Nat×α)
 | []=>H
 | i::l=>pZ (cP H i) l
theorem ti {α:Type}:∀(l:List Nat) (H:List (Nat×α)) (i:Nat),look (pZ H l) i=if i∈l then none else look H i
 | [],H,i=>by simp [pZ]
 | j::l,H,i=>by
  simp only [pZ]
  rw [ti l,bD]
  by_cases e:j=i
  ·subst e;simp
  ·by_cases h:i∈l
   ·simp [h]
   ·simp [h,e,Ne.symm e]
def jq (s:AS) (ln:List (Nat×Nat)) (Hb:List (Nat×Row)):AS:=⟨(aV s (fB ln)).F,Hb++pZ (aV s (fB ln)).H (ln.map (·.1))⟩
def oR (P:Program) (n:Nat) (s:AS) (d:Option Nat) (c:Callee) (args:List Operand) (h:Hint):Option (AS×List Prop) :=
 match callee s c,h.av with
 | some f,some r=>(match iy P f,gi s (((args.map (bq s)).flatMap o8).filter fun i=> !(BH i (h.ln.map (·.1)))) with
  | true,some s1=>(match jb s1 h.ln h.ln,ox h.ho (inv h.ln) h.ln,Ay h.ln,qi s1 h.ho h.ln with
   | some Hl,some Hb,true,some C=>(match d with
    | some d=>(match nodupB ((bH d r).2.map (·.1)),gF n ⟨(aV (jq s1 h.ln Hb) ((bH d r).2.map (·.1))).F,(bH d r).2++(aV (jq s1 h.ln Hb) ((bH d r).2.map (·.1))).H⟩ (some d) (bH d r).1 with
     | true,some s'=>some (s',gw P f (args.map fun x=>sX h.ln (bq s1 x)) Hl r h.ho::C)
     | _,_=>none)
    | none=>some (jq s1 h.ln Hb,gw P f (args.map fun x=>sX h.ln (bq s1 x)) Hl r h.ho::C))
   | _,_,_,_=>none)
  | _,_=>none)
 | _,_=>none
section
variable {P:Program} {S0:bo} {w0 w w':World} {n:Nat} {s:AS} {a:Act} {φ:Nat->Option Nat}
theorem yY:∀(l:List Nat) (s:AS) (φ:Nat->Option Nat) (O:List Nat),aJ S0 w0 n O s a w φ-> ∃O',aJ S0 w0 n O' (aV s l) a w (fun id=>if id∈l then none else φ id)∧(∀g∈O',g∈O∨ ∃i∈l,φ i=some g)∧(∀g∈O,g∈O')∧(∀i∈l,∀g,φ i=some g->g∈O') ∧
  (∀id q,look (aV s l).H id=some q->id ∉ l∧ ∃q0,look s.H id=some q0∧q.e=q0.e∧q.cells.length=q0.cells.length∧q.full=q0.full)∧(∀id q0,id ∉ l->look s.H id=some q0-> ∃q,look (aV s l).H id=some q)
 | [],s,φ,O,h=>by
  have e:(fun id=>if id∈([]:List Nat) then none else φ id)=φ:=by funext id;simp
  rw [e]
  exact ⟨O,h,fun g hg=>.inl hg,fun g hg=>hg,fun i hi=>(by cases hi),fun id q hq=>⟨by simp,q,hq,rfl,rfl,rfl⟩,fun id q0 _ hq=>⟨q0,hq⟩⟩
 | i::l,s,φ,O,h=>by
  have h1:=h.jJ i (match φ i with|some g=>g::O|none=>O) rfl
  obtain ⟨O',h2,h3,h4,h5,h6,h7⟩:=yY l _ _ _ h1
  have kk:∀id,look (bX i s).H id=if i=id then none else (look s.H id).map (cF i):=fun id=>by
   unfold bX;rw [cp,bD];by_cases e:i=id<;>simp [e]
  refine ⟨O',?_,fun g hg=>?_,fun g hg=>h4 g ?_,fun j hj g hg=>?_,fun id q hq=>?_,fun id q0 hid hq=>?_⟩
  ·have:(fun id=>if id∈i::l then none else φ id)=fun id=>if id∈l then none else erase φ i id:=by
    funext id
    unfold erase
    by_cases e1:id=i<;>by_cases e2:id∈l<;>simp [e1,e2]
   rw [this];exact h2
  ·rcases h3 g hg with h|⟨j,hj,jm⟩
   ·cases bY:φ i with
    | none=>rw [bY] at h;exact .inl h
    | some g0 =>
     rw [bY] at h
     rcases List.mem_cons.1 h with rfl|h
     ·exact .inr ⟨i,by simp,bY⟩
     ·exact .inl h
   ·unfold erase at jm
    split at jm
    ·cases jm
    ·exact .inr ⟨j,by simp [hj],jm⟩
  ·cases bY:φ i with
   | none=>exact hg
   | some g0=>simp [hg]
  ·by_cases e:j=i
   ·subst e;exact h4 g (by rw [hg];simp)
   ·rcases List.mem_cons.1 hj with hj|hj
    ·exact absurd hj e
    ·exact h5 j hj g (by unfold erase;rw [if_neg e];exact hg)
  ·obtain ⟨k1,q1,k2,k3,k4,k5⟩:=h6 id q hq
   rw [kk] at k2
   by_cases e:i=id
   ·rw [if_pos e] at k2;cases k2
   ·rw [if_neg e] at k2
    cases hl:look s.H id with
    | none=>rw [hl] at k2;cases k2
    | some q0 =>
     rw [hl] at k2;injection k2 with k2
     obtain ⟨m1,m2,m3,m4⟩:=gf i q0
     exact ⟨by simp [Ne.symm e,k1],q0,rfl,by rw [k3,←k2,m1],by rw [k4,←k2,m2],by rw [k5,←k2,m4]⟩
  ·simp only [List.mem_cons,not_or] at hid
   exact h7 id (cF i q0) hid.2 (by rw [kk,if_neg (Ne.symm hid.1),hq];rfl)
def fp (ln:List (Nat×Nat)) (φ:Nat->Option Nat):Nat->Option Nat:=fun k=>(look (inv ln) k).bind φ
theorem L8 (hs:aJ S0 w0 n [] s a w φ) {ln:List (Nat×Nat)} (h1:(ln.map (·.1)).Nodup) (h2:(ln.map (·.2)).Nodup) {Hl:List (Nat×Row)} (hl:jb s ln ln=some Hl) :
  PM (aO S0 w φ []) w (fp ln φ) Hl∧(∀i k x,look ln i=some k->az s.H φ i=some x->az Hl (fp ln φ) k=some x):=by
 have lX:=pn hl
 have hI:∀i k x,look ln i=some k->az s.H φ i=some x->az Hl (fp ln φ) k=some x:=by
  intro i k x Nw hx
  obtain ⟨e,m,b⟩:=x
  obtain ⟨r,hr,he,hm,hb⟩:=aT hx
  have tL:=(jX h1 h2).2 Nw
  rw [br (r:=fA ln r) (by rw [lX,tL];simp [hr])]
  obtain ⟨m1,m2,-,-⟩:=lE ln r
  rw [m1,m2,he,hm]
  unfold fp;rw [tL];simp [hb]
 have back:∀k g,fp ln φ k=some g-> ∃c,look (inv ln) k=some c∧φ c=some g:=by
  intro k g hk
  unfold fp at hk
  cases hc:look (inv ln) k with
  | none=>rw [hc] at hk;cases hk
  | some c=>rw [hc] at hk;exact ⟨c,rfl,hk⟩
 refine ⟨⟨fun b hb=>⟨hb.1,fun ⟨k,hk⟩=>?_⟩,fun k hk=>?_,fun k k' g hk o9=>?_,fun k g hk=>?_,fun k r hr=>?_⟩,hI⟩
 ·obtain ⟨c,-,hc⟩:=back k b hk
  exact hb.2.2.1 c hc
 ·rw [lX] at hk
  cases hc:look (inv ln) k with
  | none=>unfold fp;rw [hc];rfl
  | some c =>
   rw [hc] at hk
   have WM:look s.H c=none:=by simpa using hk
   unfold fp;rw [hc];exact hs.only c WM
 ·obtain ⟨c,hc,hg⟩:=back k g hk
  obtain ⟨c',ly,jm⟩:=back k' g o9
  have e:=hs.inj c c' g hg jm
  subst e
  have e1:=(jX h1 h2).1 hc
  have e2:=(jX h1 h2).1 ly
  rw [e1] at e2;injection e2
 ·obtain ⟨c,-,hc⟩:=back k g hk
  exact (hs.cW c g hc).2
 ·rw [lX] at hr
  cases hc:look (inv ln) k with
  | none=>rw [hc] at hr;cases hr
  | some c =>
   rw [hc] at hr
   cases TW:look s.H c with
   | none=>simp [TW] at hr
   | some q =>
    simp [TW] at hr
    subst hr
    have aS:=(hs.rows c q TW).LP ln hI (fun b hb=>hb)
    have e:fp ln φ k=φ c:=by unfold fp;rw [hc];rfl
    rw [e];exact aS
theorem GY (hs:aJ S0 w0 n [] s a w φ) {ln:List (Nat×Nat)} (h1:(ln.map (·.1)).Nodup) (h2:(ln.map (·.2)).Nodup) {ho:List (Nat×Row)} {Hb:List (Nat×Row)} (hb:ox ho (inv ln) ln=some Hb)
  {C:List Prop} (hv:qi s ho ln=some C) (hC:bw C) {cy:Nat->Option Nat} {O:List Nat} {v:Value} {r:AV} (hB:M7 (aO S0 w φ []) w w' (fp ln φ) cy O ho v r) :
  ∃ yr,aJ S0 w0 n O (jq s ln Hb) a w' yr∧tU (aO S0 w' yr O) w' v r O:=by
 obtain ⟨O0,hA,WW,-,T8,BV,U6⟩:=yY (fB ln) s φ [] hs
 generalize S7:(fun id=>if id∈fB ln then none else φ id)=PQ at hA
 have eA:∀id,PQ id=if id∈fB ln then none else φ id:=fun id=>by rw [←S7]
 have Vo:=fun c=>po hb c
 let yr:Nat->Option Nat:=fun id=>match look ln id with|some k=>cy k|none=>φ id
 have Ll:∀id k,look ln id=some k->yr id=cy k:=fun id k h=>by show (match look ln id with|some k=>cy k|none=>φ id)=_;rw [h]
 have Lm:∀id,look ln id=none->yr id=φ id:=fun id h=>by show (match look ln id with|some k=>cy k|none=>φ id)=_;rw [h]
 have inr:∀g,l_ (fp ln φ) g-> ∃c k,look ln c=some k∧φ c=some g:=by
  rintro g ⟨k,hk⟩
  unfold fp at hk
  cases hc:look (inv ln) k with
  | none=>rw [hc] at hk;cases hk
  | some c=>rw [hc] at hk;exact ⟨c,k,(jX h1 h2).1 hc,hk⟩
 have I0:∀c,c∈fB ln-> ∃k,look ln c=some k∧k<1000000000000:=fun c hc=>by
  obtain ⟨k,hm,hk⟩:=r6 hc
  exact ⟨k,jW h1 hm,hk⟩
 have F2:∀b,aO S0 w PQ O0 b->aO S0 w' yr O b∧w'.heap[b]?=w.heap[b]?:=by
  intro b ⟨f1,f2,f3,f4⟩
  have fO:¬l_ (fp ln φ) b:=fun h=>by
   obtain ⟨c,k,x9,hc⟩:=inr b h
   by_cases ho:c∈fB ln
   ·exact f2 (T8 c ho b hc)
   ·exact f3 c (by rw [eA,if_neg ho];exact hc)
  refine ⟨⟨Nat.lt_of_lt_of_le f1 hB.size,fun hm=>?_,fun id hid=>?_,f4⟩,hB.block b f1 fO⟩
  ·rcases (hB.own b hm).1 with h|h
   ·omega
   ·exact fO h
  ·cases hl:look ln id with
   | some k =>
    rw [Ll id k hl] at hid
    rcases hB.cW k b hid with h|h
    ·omega
    ·exact fO h
   | none =>
    rw [Lm id hl] at hid
    have:id ∉ fB ln:=fun hm=>by obtain ⟨k,h,-⟩:=I0 id hm;rw [hl] at h;cases h
    exact f3 id (by rw [eA,if_neg this];exact hid)
 have F5:∀b,Gm (aO S0 w φ []) w w' (fp ln φ) cy O b->aO S0 w' yr O b:=by
  intro b ⟨g1,g2,g3⟩
  have cZ:b<w'.heap.size:=by
   rcases g1 with h|h
   ·exact Nat.lt_of_lt_of_le h.1 hB.size
   ·exact h.2
  refine ⟨cZ,g2,fun id hid=>?_,?_⟩
  ·cases hl:look ln id with
   | some k=>rw [Ll id k hl] at hid;exact g3 ⟨k,hid⟩
   | none =>
    rw [Lm id hl] at hid
    rcases g1 with h|⟨h|h,-⟩
    ·exact h.2.2.1 id hid
    ·have:=(hs.cW id b hid).2;omega
    ·obtain ⟨c,k,x9,hc⟩:=inr b h
     have:=hs.inj id c b hid hc
     subst this;rw [hl] at x9;cases x9
  ·rcases g1 with h|⟨h|h,-⟩
   ·exact h.2.2.2
   ·exact hs.new b (.inl (Nat.le_trans hs.cX.size h))
   ·obtain ⟨c,k,x9,hc⟩:=inr b h
    exact hs.new b (hs.cW c b hc).1.2
 have BK:∀id k,look ln id=some k-> ∃r',look ho k=some r'∧look (jq s ln Hb).H id=some (fA (inv ln) r'):=by
  intro id k hk
  obtain ⟨e1,e2⟩:=Vo id
  obtain ⟨r',iE⟩:=e2 k hk
  refine ⟨r',iE,?_⟩
  unfold jq
  rw [bJ,e1,hk]
  simp [iE]
 have Je:∀id,look ln id=none->look (jq s ln Hb).H id=look (aV s (fB ln)).H id:=by
  intro id hk
  obtain ⟨e1,-⟩:=Vo id
  unfold jq
  rw [bJ,e1,hk,ti]
  have:id ∉ ln.map (·.1):=fun hm=>by
   obtain ⟨⟨c,k⟩,Ns,e⟩:=List.mem_map.1 hm
   have e:c=id:=e
   subst e
   rw [jW h1 Ns] at hk;cases hk
  simp [this]
 have vars:∀id k,look ln id=some k->1000000000000≤k-> ∃r0 r' g,look s.H id=some r0∧look ho k=some r'∧r0.e=r'.e∧r0.full=true∧r'.full=true∧r0.cells.length=r'.cells.length∧cy k=some g∧φ id=some g:=by
  intro id k hk vM
  rcases qh hv hC id k (kY hk) with ⟨-,r0,r',e1,e2,e3,e4,e5,e6,e7⟩|⟨h,-⟩
  ·have aS:=hB.Jj.rows k r' e2
   cases hg:cy k with
   | none =>
    rw [hg] at aS
    have:r'.cells= []:=aS
    rw [this] at e7;simp at e7
   | some g =>
    have:=hB.fix k g vM hg
    unfold fp at this
    rw [(jX h1 h2).2 hk] at this
    exact ⟨r0,r',g,e1,e2,e3,e4,e5,e6,rfl,this⟩
  ·omega
 have F3:∀id x,az (aV s (fB ln)).H PQ id=some x->az (jq s ln Hb).H yr id=some x:=by
  intro id x hx
  obtain ⟨e,m,b⟩:=x
  obtain ⟨q,hq,he,hm,se⟩:=aT hx
  obtain ⟨fO,q0,Sm,Vi,Mi,-⟩:=BV id q hq
  rw [eA,if_neg fO] at se
  cases hl:look ln id with
  | none=>rw [br (r:=q) (by rw [Je id hl];exact hq),Lm id hl,he,hm,se]
  | some k =>
   have vM:1000000000000≤k:=by
    rcases Nat.lt_or_ge k 1000000000000 with h|h
    ·exact absurd (rW h (kY hl)) fO
    ·exact h
   obtain ⟨r0,r',g,f1,f2,f3,-,-,f6,f7,f8⟩:=vars id k hl vM
   rw [Sm] at f1;injection f1 with f1;subst f1
   obtain ⟨VO,f9,f10⟩:=BK id k hl
   rw [f2] at f9;injection f9 with f9;subst f9
   obtain ⟨m1,m2,-,-⟩:=lE (inv ln) r'
   rw [br f10,m1,m2,Ll id k hl,f7,←f3,←Vi,he,←f6,←Mi,hm,←se,f8]
 have F4:∀id e m g,az (aV s (fB ln)).H PQ id=some (e,m,some g)->aY w' g=aY w g:=by
  intro id e m g hx
  obtain ⟨q,hq,he,hm,se⟩:=aT hx
  obtain ⟨fO,q0,Sm,Vi,Mi,-⟩:=BV id q hq
  rw [eA,if_neg fO] at se
  cases hl:look ln id with
  | none =>
   have Rd:¬l_ (fp ln φ) g:=fun h=>by
    obtain ⟨c,k,x9,hc⟩:=inr g h
    have:=hs.inj id c g se hc
    subst this;rw [hl] at x9;cases x9
   unfold aY;rw [hB.block g (hs.cW id g se).2 Rd]
  | some k =>
   have vM:1000000000000≤k:=by
    rcases Nat.lt_or_ge k 1000000000000 with h|h
    ·exact absurd (rW h (kY hl)) fO
    ·exact h
   obtain ⟨r0,r',g',f1,f2,-,f4,f5,f6,f7,f8⟩:=vars id k hl vM
   rw [f8] at se;injection se with se;subst se
   have U7:=hs.rows id r0 f1
   rw [f8] at U7
   obtain ⟨cur,te,fr,u1,-,-,u2,-⟩:=U7
   have iE:=hB.Jj.rows k r' f2
   rw [f7] at iE
   obtain ⟨cur',VI,Sz,v1,-,-,v2,-⟩:=iE
   unfold aY;rw [u1,v1]
   show cur'.size=cur.size
   rw [u2 f4,v2 f5,f6]
 refine ⟨yr,⟨hA.j7,hA.j_,⟨hB.os.trans hs.cX.os,hB.tape.trans hs.cX.tape,hB.output.trans hs.cX.output,Nat.le_trans hs.cX.size hB.size,fun k hk hx=>?_,hs.cX.g0,hs.cX.gx⟩,fun i av hi=>(hA.cA i av hi).mono F3 F2 F4,fun id q hq=>?_,fun id hid=>?_,fun id pU g hg jm=>?_,fun id g hg=>?_,fun id g hg hm=>?_,hs.new⟩,hB.Xi.mono F5⟩
 ·have Rd:¬l_ (fp ln φ) k:=fun h=>by
   obtain ⟨c,k',x9,hc⟩:=inr k h
   rcases (hs.cW c k hc).1.2 with h|h
   ·omega
   ·exact hx h
  rw [hB.block k (Nat.lt_of_lt_of_le hk hs.cX.size) Rd]
  exact hs.cX.block k hk hx
 ·cases hl:look ln id with
  | some k =>
   obtain ⟨r',f2,f10⟩:=BK id k hl
   rw [f10] at hq;injection hq with hq;subst hq
   rw [Ll id k hl]
   refine (hB.Jj.rows k r' f2).LP (inv ln) (fun i c x Ww hx=>?_) F5
   obtain ⟨e,m,b⟩:=x
   obtain ⟨q,hq,he,hm,se⟩:=aT hx
   have Vl:=(jX h1 h2).1 Ww
   obtain ⟨VO,f3,f4⟩:=BK c i Vl
   rw [hq] at f3;injection f3 with f3;subst f3
   obtain ⟨m1,m2,-,-⟩:=lE (inv ln) q
   rw [br f4,m1,m2,Ll c i Vl,he,hm,se]
  | none =>
   rw [Je id hl] at hq
   have fO:id ∉ fB ln:=(BV id q hq).1
   have aS:=hA.rows id q hq
   have e:PQ id=yr id:=by rw [eA,if_neg fO,Lm id hl]
   unfold bK at aS ⊢
   rw [←e]
   cases hg:PQ id with
   | none=>rw [hg] at aS;exact aS
   | some g =>
    rw [hg] at aS
    obtain ⟨cur,te,fr,u1,u2,u3,u4,u5⟩:=aS
    have bY:φ id=some g:=by rw [eA,if_neg fO] at hg;exact hg
    have Rd:¬l_ (fp ln φ) g:=fun h=>by
     obtain ⟨c,k,x9,hc⟩:=inr g h
     have:=hs.inj id c g bY hc
     subst this;rw [hl] at x9;cases x9
    refine ⟨cur,te,fr,(hB.block g (hs.cW id g bY).2 Rd).trans u1,u2,u3,u4,fun j u x hu hx=>?_⟩
    have:=u5 j u x hu hx
    unfold bg at this ⊢
    cases hp:q.pure with
    | true=>rw [hp] at this;exact this.mono F2
    | false=>rw [hp] at this;exact this.mono F3 F2 F4
 ·cases hl:look ln id with
  | some k=>obtain ⟨r',-,f⟩:=BK id k hl;rw [f] at hid;cases hid
  | none =>
   rw [Je id hl] at hid
   have fO:id ∉ fB ln:=fun hm=>by obtain ⟨k,h,-⟩:=I0 id hm;rw [hl] at h;cases h
   have:=hA.only id hid
   rw [eA,if_neg fO] at this
   rw [Lm id hl,this]
 ·have mixed:∀i j k,look ln i=some k->look ln j=none->cy k=some g->φ j=some g->False:=by
   intro i j k hi hj J5 Qi
   rcases hB.cW k g J5 with h|h
   ·have:=(hs.cW j g Qi).2;omega
   ·obtain ⟨c,k',x9,hc⟩:=inr g h
    have:=hs.inj j c g Qi hc
    subst this;rw [hj] at x9;cases x9
  cases hl:look ln id with
  | some k =>
   rw [Ll id k hl] at hg
   cases sc:look ln pU with
   | some k' =>
    rw [Ll pU k' sc] at jm
    have:=hB.Jj.inj k k' g hg jm
    subst this
    have e1:=(jX h1 h2).2 hl
    have e2:=(jX h1 h2).2 sc
    rw [e1] at e2;injection e2
   | none=>rw [Lm pU sc] at jm;exact (mixed id pU k hl sc hg jm).elim
  | none =>
   rw [Lm id hl] at hg
   cases sc:look ln pU with
   | some k'=>rw [Ll pU k' sc] at jm;exact (mixed pU id k' sc hl jm hg).elim
   | none=>rw [Lm pU sc] at jm;exact hs.inj id pU g hg jm
 ·cases hl:look ln id with
  | none =>
   rw [Lm id hl] at hg
   have:=hs.cW id g hg
   exact ⟨this.1,Nat.lt_of_lt_of_le this.2 hB.size⟩
  | some k =>
   rw [Ll id k hl] at hg
   refine ⟨⟨?_,?_⟩,hB.Jj.lt k g hg⟩
   ·rcases qh hv hC id k (kY hl) with ⟨vM,-⟩|⟨-,h⟩
    ·obtain ⟨r0,r',g',-,-,-,-,-,-,f7,f8⟩:=vars id k hl vM
     rw [hg] at f7;injection f7 with f7;subst f7
     exact (hs.cW id g f8).1.1
    ·exact .inl h
   ·rcases hB.cW k g hg with h|h
    ·exact .inl (Nat.le_trans hs.cX.size h)
    ·obtain ⟨c,k',x9,hc⟩:=inr g h
     exact (hs.cW c g hc).1.2
 ·obtain ⟨o1,o2,o3⟩:=hB.own g hm
  cases hl:look ln id with
  | some k=>rw [Ll id k hl] at hg;exact o3 ⟨k,hg⟩
  | none =>
   rw [Lm id hl] at hg
   rcases o1 with h|h
   ·have:=(hs.cW id g hg).2;omega
   ·obtain ⟨c,k',x9,hc⟩:=inr g h
    have:=hs.inj id c g hg hc
    subst this;rw [hl] at x9;cases x9
end
section
variable {P:Program} {n:Nat} {s:AS} {o:Oper} {h:Hint} {q:AS×List Prop}
theorem wu {c:Callee} {xs:Array Operand} {ts:Array TypeId} (ho:o.op= .call ⟨c,xs,ts⟩) (hr:oR P n s o.dst c xs.toList h=some q):mF P n s o q.1 q.2:=by
 intro hC S0 w0 a w Q ⟨φ,hs⟩
 unfold oR at hr
 split at hr
 ·rename_i f r hc _
  split at hr
  ·rename_i s1 hE Jz
   split at hr
   ·rename_i Hl Hb C hl hb x9 hv
    obtain ⟨h1,h2⟩:=EO x9
    obtain ⟨iW,ij⟩:=gh _ _ _ _ Jz hs
    obtain ⟨Rk,hI⟩:=L8 ij h1 h2 hl
    have bZ:=jC hs hc ho hE
    have main:gw P f (xs.toList.map fun x=>sX h.ln (bq s1 x)) Hl r h.ho->bw C-> ∀s',((∃d,o.dst=some d∧nodupB ((bH d r).2.map (·.1))=true∧gF n ⟨(aV (jq s1 h.ln Hb) ((bH d r).2.map (·.1))).F,(bH d r).2++(aV (jq s1 h.ln Hb) ((bH d r).2.map (·.1))).H⟩ (some d) (bH d r).1=some s')∨(o.dst=none∧s'=jq s1 h.ln Hb))->o.wp P a w (fun a' w'=>iI S0 w0 n s' a' w') Q:=by
     intro oa F6 s' hd
     unfold Oper.wp
     rw [bZ]
     have np:=oa w (aO S0 w iW []) (fp h.ln iW) (xs.toList.map a.eval) ij.cX.m7 (fun id g hg hb=>by
      obtain ⟨k,hk⟩:∃k,iW k=some g:=by
       unfold fp at hg
       cases hl:look (inv h.ln) id with
       | none=>rw [hl] at hg;cases hg
       | some k=>rw [hl] at hg;exact ⟨k,hg⟩
      rcases (ij.cW k g hk).1.2 with h1|h1
      ·have:=ij.cX.g0.lt hb;omega
      ·exact ij.cX.gx g hb h1) Rk (by simp) (fun j v x hv hx=>by
      rw [List.getElem?_map] at hv hx
      cases hj:xs.toList[j]? with
      | none=>rw [hj] at hv;cases hv
      | some y =>
       rw [hj] at hv hx
       injection hv with hv;injection hx with hx;subst hv;subst hx
       exact (ij.bq y).LP h.ln hI (fun b hb=>hb))
     have e:(xs.toList.map a.eval).toArray=xs.map a.eval:=by apply Array.ext';simp
     rw [e] at np
     refine np.mono ?_
     rintro en w' ⟨v,O,cy,rfl,hB⟩
     show iI S0 w0 n s' (a.put o.dst v) w'
     obtain ⟨yr,h3,vL⟩:=GY ij h1 h2 hb hv F6 hB
     have mZ:∀g∈O,(w0.heap.size≤g∨S0.X g)∧g<w'.heap.size:=fun g hg=>by
      obtain ⟨o1,o2,-⟩:=hB.own g hg
      refine ⟨?_,o2⟩
      rcases o1 with h|⟨k,hk⟩
      ·exact .inl (Nat.le_trans ij.cX.size h)
      ·unfold fp at hk
       cases hc:look (inv h.ln) k with
       | none=>rw [hc] at hk;cases hk
       | some c=>rw [hc] at hk;exact (ij.cW c g hk).1.2
     rcases hd with ⟨d,hd,xZ,eF⟩|⟨hd,rfl⟩
     ·obtain ⟨wY,h4,hF,JL⟩:=ks ((bH d r).2.map (·.1)) _ yr O h3
      have Sy:aJ S0 w0 n (O++ []) (aV (jq s1 h.ln Hb) ((bH d r).2.map (·.1))) a w' wY:=by rw [List.append_nil];exact h4
      obtain ⟨VE,h5,h6,-⟩:=xy (aV (jq s1 h.ln Hb) ((bH d r).2.map (·.1))) wY O [] v r d Sy (by rw [List.append_nil];exact vL.mono hF) (by rw [List.append_nil];exact hB.nodup) mZ (fun i hi=>⟨JL i (.inr hi),rX xZ i hi⟩) (iQ xZ)
      rw [hd]
      exact ⟨VE,d_ h5 h6 eF⟩
     ·rw [hd]
      have key:∀(O:List Nat),aJ S0 w0 n O (jq s1 h.ln Hb) a w' yr->aJ S0 w0 n [] (jq s1 h.ln Hb) a w' yr:=by
       intro O
       induction O with
       | nil=>exact fun h=>h
       | cons g O ih=>exact fun h=>ih h.vY
      have h5:=key O h3
      exact ⟨yr,⟨h5.j7,h5.j_,h5.cX,h5.cA,h5.rows,h5.only,h5.inj,h5.cW,h5.apart,h5.new⟩⟩
    split at hr
    ·rename_i d hd
     split at hr
     ·rename_i s' xZ eF
      cases hr
      exact main hC.1 hC.2 s' (.inl ⟨d,hd,xZ,eF⟩)
     ·cases hr
    ·rename_i hd
     cases hr
     exact main hC.1 hC.2 _ (.inr ⟨hd,rfl⟩)
   ·cases hr
  ·cases hr
 ·cases hr
end
def bh (o:Oper):List Nat:=(o.after.toList.filter (Region.binds .any)).map (·.on)
def sU (ops:Array Oper) (a:Act) (d:Nat):Value :=
 match (ops[d]?).bind (·.dst) with
 | some s=>a.tmps.getD s undef
 | none=>undef
def lZ (ops:Array Oper) (n:Nat):Bool :=
 (ops.toList.zipIdx.all fun p=>(bh p.1).all (· <p.2)) && (ops.toList.filterMap (·.dst)).Nodup && (ops.toList.all fun o=>match o.dst with|some s=>decide (s<n)|none=>true)
def eZ (l:List (Oper×Nat)) (vs:Nat->Value) (a:Act):Act:=l.foldl (fun a p=>a.put p.1.dst (vs p.2)) a
theorem mQ (a:Act) (s:Nat) (v:Value) (h:s<a.tmps.size):(a.put (some s) v).tmps[s]?=some v:=by
 simp [Act.put,h]
theorem iq (a:Act) (d:Option Nat) (s:Nat) (v:Value) (h:d≠some s):(a.put d v).tmps[s]?=a.tmps[s]?:=by
 cases d with
 | none=>rfl
 | some t =>
  have:t≠s:=fun e=>h (by rw [e])
  simp [Act.put,Array.getElem?_setIfInBounds_ne this]
theorem qy (a:Act) (d:Option Nat) (v:Value):(a.put d v).tmps.size=a.tmps.size:=by
 cases d<;>simp [Act.put]
theorem put_defers (a:Act) (d:Option Nat) (v:Value):(a.put d v).defers=a.defers:=by
 cases d<;>simp [Act.put]
theorem jV (vs:Nat->Value):∀(l:List (Oper×Nat)) (a:Act),(l.filterMap (·.1.dst)).Nodup ->
  (eZ l vs a).tmps.size=a.tmps.size∧(eZ l vs a).defers=a.defers ∧
  (∀p∈l,∀s,p.1.dst=some s->s<a.tmps.size->(eZ l vs a).tmps[s]?=some (vs p.2)) ∧
  (∀s,(∀p∈l,p.1.dst≠some s)->(eZ l vs a).tmps[s]?=a.tmps[s]?)
 | [],a,_=>⟨rfl,rfl,by simp,fun _ _=>rfl⟩
 | p::l,a,hn=>by
  have tJ:(l.filterMap (·.1.dst)).Nodup:=by
   cases hd:p.1.dst with
   | none=>rw [List.filterMap_cons_none (by simpa using hd)] at hn;exact hn
   | some s=>rw [List.filterMap_cons_some (by simpa using hd)] at hn;exact (List.nodup_cons.1 hn).2
  obtain ⟨h1,h2,h3,h4⟩:=jV vs l (a.put p.1.dst (vs p.2)) tJ
  refine ⟨h1.trans (qy ..),h2.trans (put_defers ..),fun q hq s hs cZ=>?_,fun s hs=>?_⟩
  ·rcases List.mem_cons.1 hq with rfl|hq
   ·have fO:∀p∈l,p.1.dst≠some s:=by
     intro p' FO he
     rw [List.filterMap_cons_some (by simpa using hs)] at hn
     exact (List.nodup_cons.1 hn).1 (List.mem_filterMap.2 ⟨p',FO,he⟩)
    show (eZ l vs (a.put q.1.dst (vs q.2))).tmps[s]?=_
    rw [h4 s fO,hs]
    exact mQ a s _ cZ
   ·exact h3 q hq s hs (by rw [qy];exact cZ)
  ·show (eZ l vs (a.put p.1.dst (vs p.2))).tmps[s]?=_
   rw [h4 s fun q hq=>hs q (List.mem_cons_of_mem _ hq),iq a _ s _ (hs p (List.mem_cons_self ..))]
def ib (P:Program) (ops:Array Oper) (Q:Exit->Act->World->Prop) (o:Oper) (a:Act) (w:World) (R:Value->World->Prop):Prop :=
 if Region.wanted o (yielded ops a.tmps) then o.wp P a w (fun a' w'=>∃v,a'=a.put o.dst v∧Below w.heap.size w w'∧R v w') Q else R undef w
section
variable {P:Program} {ops:Array Oper} {Q:Exit->Act->World->Prop} {a:Act} {w:World}
structure Inv (ops:Array Oper) (F:Nat->Value->World->Prop) (a:Act) (w:World) (listed:Array Bool) (a':Act) (w':World):Prop where
 grown:Below w.heap.size w w'
 size:listed.size=ops.size
 closed:∀k o,listed.getD k false=true->ops[k]?=some o-> ∀d∈bh o,listed.getD d false=true
 A4:a'.tmps.size=a.tmps.size
 tX:a'.defers=a.defers
 val:∀k o s,listed.getD k false=true->ops[k]?=some o->o.dst=some s-> ∃v,a'.tmps[s]?=some v∧F k v w'
 Fx:∀k o,listed.getD k false=true->ops[k]?=some o->o.dst=none-> ∃v,F k v w'
 old:∀s,(∀k o,listed.getD k false=true->ops[k]?=some o->o.dst≠some s)->a'.tmps[s]?=a.tmps[s]?
theorem gp {n:Nat} (h:lZ ops n=true):(∀(k:Nat) (o:Oper),ops[k]?=some o-> ∀d∈bh o,d<k)∧(ops.toList.filterMap (·.dst)).Nodup∧(∀(k:Nat) (o:Oper) (s:Nat),ops[k]?=some o->o.dst=some s->s<n):=by
 unfold lZ at h
 simp only [Bool.and_eq_true,List.all_eq_true,decide_eq_true_eq] at h
 obtain ⟨⟨h1,h2⟩,h3⟩:=h
 refine ⟨fun k o ho d hd=>?_,h2,fun k o s ho hs=>?_⟩
 ·have hm:(o,k)∈ops.toList.zipIdx:=by rw [List.mem_zipIdx_iff_getElem?];simpa using ho
  exact h1 (o,k) hm d hd
 ·have hm:o∈ops.toList:=by
   rw [←Array.getElem?_toList] at ho
   exact List.mem_of_getElem? ho
  have:=h3 o hm
  rw [hs] at this
  simpa using this
theorem oV (hn:(ops.toList.filterMap (·.dst)).Nodup) {j k:Nat} {o p:Oper} {s:Nat} (hj:ops[j]?=some o) (hk:ops[k]?=some p) (ho:o.dst=some s) (hp:p.dst=some s):j=k:=by
 rw [←Array.getElem?_toList] at hj hk
 have key:∀(l:List Oper) (j k:Nat),(l.filterMap (·.dst)).Nodup->l[j]?=some o->l[k]?=some p->j=k:=by
  intro l
  induction l with
  | nil=>intro j k _ h;simp at h
  | cons x l ih =>
   intro j k hn hj hk
   have tJ:(l.filterMap (·.dst)).Nodup:=by
    cases hd:x.dst with
    | none=>rw [List.filterMap_cons_none (by simpa using hd)] at hn;exact hn
    | some s=>rw [List.filterMap_cons_some (by simpa using hd)] at hn;exact (List.nodup_cons.1 hn).2
   have fresh:∀(i:Nat) (q:Oper),x.dst=some s->l[i]?=some q->q.dst≠some s:=by
    intro i q hx hq he
    rw [List.filterMap_cons_some (by simpa using hx)] at hn
    exact (List.nodup_cons.1 hn).1 (List.mem_filterMap.2 ⟨q,List.mem_of_getElem? hq,he⟩)
   cases j with
   | zero =>
    cases k with
    | zero=>rfl
    | succ k =>
     simp at hj hk;subst hj
     exact absurd hp (fresh k p ho hk)
   | succ j =>
    cases k with
    | zero =>
     simp at hj hk;subst hk
     exact absurd ho (fresh j o hp hj)
    | succ k=>rw [ih j k tJ (by simpa using hj) (by simpa using hk)]
 exact key ops.toList j k hn hj hk
end
section
variable {P:Program} {ops:Array Oper} {Q:Exit->Act->World->Prop} {a:Act} {w:World}
theorem p_ (l:List Bool):∀i:Nat,l[i]?=some false->((l.set i true).filter (· == false)).length+1=(l.filter (· == false)).length:=by
 induction l with
 | nil=>intro i hi;simp at hi
 | cons x l ih =>
  intro i hi
  cases i with
  | zero=>simp at hi;subst hi;simp
  | succ i =>
   simp only [List.set_cons_succ]
   have:=ih i (by simpa using hi)
   cases x
   ·rw [List.filter_cons_of_pos rfl,List.filter_cons_of_pos rfl];simp only [List.length_cons];omega
   ·rw [List.filter_cons_of_neg (by simp),List.filter_cons_of_neg (by simp)];exact this
theorem CZ {n T:Nat} (hT:T<ops.size) (Lh:Region.sinkB .any ops T=true) (tN:Region.chainB .any ops T=true) (Q0:Region.seqB .any ops (ops.size-T) T ((List.range ops.size).map (decide<| · <T)).toArray=true) (dB:a.tmps.size=n) (hB:lZ ops n=true) (F:Nat->Value->World->Prop) (mono:∀k v w w',Below w.heap.size w w'->F k v w->F k v w')
  (wV:∀k o,k<T->ops[k]?=some o-> ∀a' w',Below w.heap.size w w'->(∀d∈bh o,F d (sU ops a' d) w'∨(∃p,ops[d]?=some p∧p.dst=none))->(∀s,(∀(j:Nat) (p:Oper),j<T->ops[j]?=some p->p.dst≠some s)->a'.eval (.tmp s)=a.eval (.tmp s))->ib P ops Q o a' w' (F k))
  (kv:∀vs:Nat->Value,∀w',Below w.heap.size w w'->(∀k,k<T->F k (vs k) w')->wpList P ops Q (ops.toList.drop T) (eZ (ops.toList.zipIdx.take T) vs a) w') :
  ∀(fuel:Nat) (listed:Array Bool) (a':Act) (w':World),Inv ops F a w listed a' w'->(∀j,T≤j->listed.getD j false=false) ->
   (listed.toList.filter (· == false)).length=fuel->wpAny P .any ops Q fuel listed a' w':=by
 obtain ⟨cZ,iF,wW⟩:=gp hB
 have kQ:∀(listed:Array Bool) (a':Act) (w':World),Inv ops F a w listed a' w'-> ∀k,k<T->listed.getD k false=false-> ∃i,i<T∧i∈Region.ready .any ops listed:=by
  intro listed a' w' I k
  induction k using Nat.strongRecOn with
  | _ k ih =>
   intro hk hl
   have gV:k<listed.size:=by rw [I.size];omega
   have tM:k<ops.size:=ag
   have o9:ops[k]?=some ops[k]:=Array.getElem?_eq_getElem tM
   by_cases gH:∀d∈bh ops[k],listed.getD d false=true
   ·refine ⟨k,hk,?_⟩
    rw [mem_ready]
    refine ⟨?_,ops[k],o9,fun e he hb=>gH e.on ?_⟩
    ·simp [gV] at hl ⊢;exact hl
    ·unfold bh
     exact List.mem_map.2 ⟨e,List.mem_filter.2 ⟨by simpa using he,hb⟩,rfl⟩
   ·have:∃d,d∈bh ops[k]∧listed.getD d false=false:=by
     refine Classical.byContradiction fun fO=>gH fun d hd=>?_
     cases hx:listed.getD d false with
     | true=>rfl
     | false=>exact absurd ⟨d,hd,hx⟩ fO
    obtain ⟨d,hd,hx⟩:=this
    exact ih d (cZ k _ o9 d hd) (by have:=cZ k _ o9 d hd;omega) hx
 have done:∀(listed:Array Bool) (a':Act) (w':World),Inv ops F a w listed a' w'->(∀k,k<T->listed.getD k false=true)->(∀j,T≤j->listed.getD j false=false)->wpList P ops Q (ops.toList.drop T) a' w':=by
  intro listed a' w' I all tail
  have hv:∀k,∃v,k<T->(F k v w'∧ ∀o s,ops[k]?=some o->o.dst=some s->a'.tmps[s]?=some v):=by
   intro k
   by_cases hk:k<T
   ·have tM:k<ops.size:=ag
    have o9:ops[k]?=some ops[k]:=Array.getElem?_eq_getElem tM
    cases hd:ops[k].dst with
    | none =>
     obtain ⟨v,hv⟩:=I.Fx k _ (all k hk) o9 hd
     exact ⟨v,fun _=>⟨hv,fun o s ho hs=>by rw [o9] at ho;injection ho with ho;subst ho;rw [hd] at hs;cases hs⟩⟩
    | some s =>
     obtain ⟨v,hv,hF⟩:=I.val k _ s (all k hk) o9 hd
     exact ⟨v,fun _=>⟨hF,fun o s' ho hs=>by rw [o9] at ho;injection ho with ho;subst ho;rw [hd] at hs;injection hs with hs;subst hs;exact hv⟩⟩
   ·exact ⟨undef,fun h=>absurd h hk⟩
  obtain ⟨vs,FL⟩:=Classical.axiomOfChoice hv
  have ob:∀p:Oper×Nat,p∈ops.toList.zipIdx.take T↔(p.2<T∧ops[p.2]?=some p.1):=by
   intro p
   rw [List.mem_iff_getElem?]
   constructor
   ·rintro ⟨x,hx⟩
    rw [List.getElem?_take] at hx
    split at hx
    ·rename_i BT
     rw [List.getElem?_zipIdx] at hx
     cases ho:ops.toList[x]? with
     | none=>rw [ho] at hx;simp at hx
     | some q =>
      rw [ho] at hx
      simp at hx
      subst hx
      exact ⟨by simpa using BT,by simpa using ho⟩
    ·cases hx
   ·rintro ⟨h1,h2⟩
    refine ⟨p.2,?_⟩
    rw [List.getElem?_take,if_pos h1,List.getElem?_zipIdx]
    have Qi:ops.toList[p.2]?=some p.1:=by simpa using h2
    rw [Qi];simp
  have jZ:=jV vs (ops.toList.zipIdx.take T) a (by
   have h1:(ops.toList.zipIdx.take T).filterMap (·.1.dst)=(ops.toList.take T).filterMap (·.dst):=by
    conv=>rhs;rw [←List.zipIdx_map_fst 0 ops.toList,←List.map_take]
    rw [List.filterMap_map];rfl
   rw [h1]
   exact List.Nodup.sublist ((List.take_sublist T ops.toList).filterMap _) iF)
  have he:a'=eZ (ops.toList.zipIdx.take T) vs a:=by
   have ht:a'.tmps=(eZ (ops.toList.zipIdx.take T) vs a).tmps:=by
    apply Array.ext_getElem?
    intro s
    by_cases hs:∃(k:Nat) (o:Oper),k<T∧ops[k]?=some o∧o.dst=some s
    ·obtain ⟨k,o,hk,ho,hd⟩:=hs
     rw [(FL k hk).2 o s ho hd]
     exact (jZ.2.2.1 (o,k) ((ob _).2 ⟨hk,ho⟩) s hd (by rw [dB];exact wW k o s ho hd)).symm
    ·rw [I.old s fun k o hl ho hd=>hs ⟨k,o,(Classical.byContradiction fun hk=>(by have:=tail k (Nat.le_of_not_lt hk);rw [this] at hl;cases hl)),ho,hd⟩]
     exact (jZ.2.2.2 s fun p hp hd=>hs ⟨p.2,p.1,((ob p).1 hp).1,((ob p).1 hp).2,hd⟩).symm
   have hd:a'.defers=(eZ (ops.toList.zipIdx.take T) vs a).defers:=I.tX.trans jZ.2.1.symm
   cases a';cases h:eZ (ops.toList.zipIdx.take T) vs a
   rw [h] at ht hd
   simp only at ht hd
   rw [ht,hd]
  rw [he]
  exact kv vs w' I.grown fun k hk=>(FL k hk).1
 have rest:∀(fuel:Nat) (listed:Array Bool) (a':Act) (w':World),Inv ops F a w listed a' w'->(∀j,T≤j->listed.getD j false=false)->(listed.toList.filter (· == false)).length=fuel->(∀k,k<T->listed.getD k false=true)->wpAny P .any ops Q fuel listed a' w':=by
  intro fuel listed a' w' I tail hc all
  have og:listed=((List.range ops.size).map (decide<| · <T)).toArray:=by
   apply Array.ext_getElem?
   intro x
   by_cases hx:x<ops.size
   ·have HU:x<listed.size:=by rw [I.size];exact hx
    have hr:((List.range ops.size).map (decide<| · <T)).toArray[x]?=some (decide (x<T)):=by simp [hx]
    rw [hr]
    by_cases BT:x<T
    ·have:=all x BT;simp [HU] at this ⊢;rw [this,decide_eq_true BT]
    ·have:=tail x ag;simp [HU] at this ⊢;rw [this,decide_eq_false BT]
   ·rw [Array.getElem?_eq_none (by rw [I.size];omega),Array.getElem?_eq_none (by simp;omega)]
  have hlen:fuel=(ops.toList.drop T).length:=by
   rw [←hc,og]
   simp only [List.length_drop,Array.length_toList,List.filter_map,List.length_map]
   have key:∀n,T≤n->((List.range n).filter ((fun x=>x == false) ∘ (decide<| · <T))).length=n-T:=by
    intro n hn
    induction n with
    | zero=>simp
    | succ n ih =>
     rw [List.range_succ,List.filter_append,List.length_append]
     by_cases Rf:T≤n
     ·rw [ih Rf]
      have:((fun x=>x == false) ∘ (decide<| · <T)) n=true:=by simp;omega
      rw [List.filter_cons_of_pos this];simp;omega
     ·obtain rfl:T=n+1:=ag
      have h1:(List.range n).filter ((fun x=>x == false) ∘ (decide<| · <n+1))= []:=by
       rw [List.filter_eq_nil_iff];intro x hx;have:=List.mem_range.1 hx;simp;omega
      have h2:[n].filter ((fun x=>x == false) ∘ (decide<| · <n+1))= []:=by
       rw [List.filter_eq_nil_iff];intro x hx;simp at hx;subst hx;simp
      rw [h1,h2];simp
   exact key ops.size ag
  rw [hlen]
  refine wpAny_of_seq (ops.toList.drop T) T listed a' w' (fun j=>by rw [List.getElem?_drop];simp) ?_ (done listed a' w' I all tail)
  rw [og]
  simpa using Q0
 intro fuel
 induction fuel with
 | zero =>
  intro listed a' w' I tail hc
  refine rest 0 listed a' w' I tail hc fun k hk=>?_
  cases hx:listed.getD k false with
  | true=>rfl
  | false =>
   exfalso
   have gV:k<listed.size:=by rw [I.size];omega
   have:false∈listed.toList.filter (· == false):=by
    refine List.mem_filter.2 ⟨?_,rfl⟩
    have h1:listed.toList[k]?=some false:=by simp [gV] at hx ⊢;exact hx
    exact List.mem_of_getElem? h1
   have:=List.length_pos_of_mem this
   omega
 | succ fuel ih =>
  intro listed a' w' I tail hc
  by_cases hex:∀k,k<T->listed.getD k false=true
  ·exact rest (fuel+1) listed a' w' I tail hc hex
  have QV:∃k,k<T∧listed.getD k false=false:=by
   refine Classical.byContradiction fun fO=>hex fun k hk=>?_
   cases hx:listed.getD k false with
   | true=>rfl
   | false=>exact absurd ⟨k,hk,hx⟩ fO
  obtain ⟨k0,zy,Jv⟩:=QV
  have RF:HeadInv .any ops T listed:=⟨I.size,fun j oj hj hl e he hb=>I.closed j oj hl hj e.on (by
    unfold bh
    exact List.mem_map.2 ⟨e,List.mem_filter.2 ⟨by simpa using he,hb⟩,rfl⟩),fun t ht QZ=>getD_in (by rw [I.size];exact QZ) (tail t ht)⟩
  have JU:listed.getD k0 true=false:=getD_in (by rw [I.size];omega) Jv
  refine ⟨fun hr=>(by
   obtain ⟨i,_,hi⟩:=kQ listed a' w' I k0 zy Jv
   rw [hr] at hi;cases hi),fun i hi=>?_⟩
  have Ro:i<T:=Classical.byContradiction fun h=>tail_waits Lh tN hT RF _ k0 rfl zy JU i ag hi
  obtain ⟨h0,o,ho,gH⟩:=mem_ready.1 hi
  have JV:i<listed.size:=by rw [I.size];exact (Array.getElem?_eq_some_iff.1 ho).1
  have Qj:listed.getD i false=false:=by simp [JV] at h0 ⊢;exact h0
  have jo:∀d∈bh o,listed.getD d false=true:=by
   intro d hd
   unfold bh at hd
   obtain ⟨e,he,rfl⟩:=List.mem_map.1 hd
   obtain ⟨Ny,Mp⟩:=List.mem_filter.1 he
   exact gH e (by simpa using Ny) Mp
  have next:∀v fL,Below w'.heap.size w' fL->F i v fL->Inv ops F a w (listed.setIfInBounds i true) (a'.put o.dst v) fL:=by
   intro v fL hb hF
   have lists:∀k,(listed.setIfInBounds i true).getD k false=true->k=i∨listed.getD k false=true:=by
    intro k hk
    by_cases tL:i=k
    ·exact .inl tL.symm
    ·right;rw [getD_set_ne false tL] at hk;exact hk
   refine ⟨I.grown.ql hb,by simpa using I.size,?_,(qy ..).trans I.A4,(put_defers ..).trans I.tX,?_,?_,?_⟩
   ·intro k p hk hp d hd
    rcases lists k hk with rfl|hk
    ·rw [ho] at hp;injection hp with hp;subst hp
     exact getD_set_true (jo d hd)
    ·exact getD_set_true (I.closed k p hk hp d hd)
   ·intro k p s hk hp hs
    rcases lists k hk with rfl|hk
    ·rw [ho] at hp;injection hp with hp;subst hp
     refine ⟨v,?_,hF⟩
     rw [hs]
     exact mQ a' s v (by rw [I.A4,dB];exact wW k _ s ho hs)
    ·obtain ⟨u,hu,Ub⟩:=I.val k p s hk hp hs
     refine ⟨u,?_,mono k u w' fL hb Ub⟩
     rw [iq a' o.dst s v fun he=>?_]
     ·exact hu
     ·have:=oV iF ho hp he hs
      subst this
      rw [Qj] at hk;cases hk
   ·intro k p hk hp hs
    rcases lists k hk with rfl|hk
    ·exact ⟨v,hF⟩
    ·obtain ⟨u,hu⟩:=I.Fx k p hk hp hs
     exact ⟨u,mono k u w' fL hb hu⟩
   ·intro s hs
    rw [iq a' o.dst s v (hs i o (by simp [JV]) ho)]
    exact I.old s fun k p hk hp=>hs k p (getD_set_true hk) hp
  have n_:∀j,T≤j->(listed.setIfInBounds i true).getD j false=false:=fun j hj=>by rw [getD_set_ne false ag];exact tail j hj
  have oe:((listed.setIfInBounds i true).toList.filter (· == false)).length=fuel:=by
   have Rj:((listed.setIfInBounds i true).toList.filter (· == false)).length+1=(listed.toList.filter (· == false)).length:=by
    rw [Array.toList_setIfInBounds]
    have jw:listed.toList[i]?=some false:=by simp [JV] at h0 ⊢;exact h0
    exact p_ _ i jw
   omega
  have i6:=wV i o Ro ho a' w' I.grown (fun d hd=>by
   have hl:=jo d hd
   cases hp:ops[d]? with
   | none =>
    have ud:d<listed.size:=by
     rcases Nat.lt_or_ge d listed.size with h|h
     ·exact h
     ·simp [Array.getElem?_eq_none h] at hl
    rw [I.size] at ud
    rw [Array.getElem?_eq_getElem ud] at hp;cases hp
   | some p =>
    cases hs:p.dst with
    | none=>exact .inr ⟨p,rfl,hs⟩
    | some s =>
     left
     obtain ⟨u,hu,hF⟩:=I.val d p s hl hp hs
     unfold sU
     rw [hp]
     simp only [Option.bind_some,hs]
     simp [hu];exact hF) (fun s hs=>by
   show a'.tmps.getD s undef=a.tmps.getD s undef
   have:a'.tmps[s]?=a.tmps[s]?:=I.old s fun k p hk hp hd=>by
    have xd:k<T:=Classical.byContradiction fun h=>(by have:=tail k (Nat.le_of_not_lt h);rw [this] at hk;cases hk)
    exact hs k p xd hp hd
   simp [this])
  unfold ib at i6
  unfold wpOp
  rw [ho]
  simp only
  by_cases hw:Region.wanted o (yielded ops a'.tmps)=true
  ·rw [if_pos hw] at i6 ⊢
   left
   exact Oper.wp_mono (fun sP fL ⟨v,he,hb,hF⟩=>by
    subst he
    exact ih _ _ _ (next v fL hb hF) n_ oe) i6
  ·rw [if_neg hw] at i6 ⊢
   exact ih _ _ _ (next undef w' (Below.refl _ _) i6) n_ oe
def pd (ops:Array Oper) (T:Nat):Bool :=
 decide (T<ops.size) && Region.sinkB .any ops T && Region.chainB .any ops T && Region.seqB .any ops (ops.size-T) T ((List.range ops.size).map (decide<| · <T)).toArray
end
end Go.Proofs.YtjgbhhnghedgdaaGreatDoor
