import Derived.Test.YtjgbhhnghedgdaaGreatDoorZsRB
import Derived.Orders
import Derived.BigCall
import Derived.StillTail
set_option linter.all false
namespace Go.Proofs.YtjgbhhnghedgdaaGreatDoor
open Go.RowKit
def gM (ρ :List (Nat×Nat)):AV->AV
 | .ref i=>match look ρ i with|some k=>.ref k|none=>.dead
 | .pre i n=>match look ρ i with|some k=>.pre k n|none=>.dead
 | .jg i o n=>match look ρ i with|some k=>.jg k o n|none=>.dead
 | .addr i o=>match look ρ i with|some k=>.addr k o|none=>.dead
 | .agg _=>.dead
 | .br _=>.dead
 | x=>x
def Du (ρ :List (Nat×Nat)):AV->AV
 | .agg cs=>.agg (cs.map (gM ρ))
 | x=>gM ρ x
def rD (ρ :List (Nat×Nat)):AV->AV
 | .br cs=>.br (cs.map (Du ρ))
 | x=>Du ρ x
def eO (ρ :List (Nat×Nat)) (r:Row):Row:=match r.pure with|true=>r|false=>⟨r.e,false,r.full,r.cells.map (gM ρ)⟩
theorem kT (ρ :List (Nat×Nat)) (r:Row):(eO ρ r).e=r.e∧(eO ρ r).cells.length=r.cells.length∧(eO ρ r).pure=r.pure∧(eO ρ r).full=r.full:=by
 unfold eO;cases h:r.pure<;>simp [h]
section
variable {I I':Info} {S S':Nat->Prop} {w:World}
theorem zc (ρ :List (Nat×Nat)) (hI:∀i k x,look ρ i=some k->I i=some x->I' k=some x) (hS:∀b,S b->S' b):jN I I' S S' w (gM ρ) where
 agg:=fun _=>rfl
 br:=fun _=>rfl
 leaf:=fun v x hx h1 h2=>by
  have qS:∀b,S b->S' b∧w.heap[b]?=w.heap[b]?:=fun b h=>⟨hS b h,rfl⟩
  cases hx with
  | rep h=>cases h with
   | val v=>exact .rep (.val v)
   | nil=>exact .rep .nil
   | agg vs cs _ _=>exact absurd rfl (h1 cs)
   | br vs cs _ _=>exact absurd rfl (h2 cs)
   | arr vs cs hl h=>exact .rep ((cp.arr vs cs hl h).mono qS)
   | sl A n c e us row hl hn hc hm ha h=>exact .rep ((cp.sl A n c e us row hl hn hc hm ha h).mono qS)
   | o8 A n e us row hl hn hm ha h=>exact .rep ((cp.o8 A n e us row hl hn hm ha h).mono qS)
   | ptr ad us row off hl hs ha h=>exact .rep ((cp.ptr ad us row off hl hs ha h).mono qS)
   | lu f vs cs hl h=>exact .rep ((cp.lu f vs cs hl h).mono qS)
  | agg vs cs _ _=>exact absurd rfl (h1 cs)
  | br vs cs _ _=>exact absurd rfl (h2 cs)
  | ref i e m g l c hi hm hc hx hs =>
   cases h:look ρ i with
   | none=>simp only [gM,h];exact .dead _
   | some k=>simp only [gM,h];exact .ref k _ m g l c (hI _ _ _ h hi) hm hc hx hs
  | cw i e hi =>
   cases h:look ρ i with
   | none=>simp only [gM,h];exact .dead _
   | some k=>simp only [gM,h];exact .cw k _ (hI _ _ _ h hi)
  | pre i n e m g l c hi hn hm hc hx hs =>
   cases h:look ρ i with
   | none=>simp only [gM,h];exact .dead _
   | some k=>simp only [gM,h];exact .pre k n _ m g l c (hI _ _ _ h hi) hn hm hc hx hs
  | df i e hi =>
   cases h:look ρ i with
   | none=>simp only [gM,h];exact .dead _
   | some k=>simp only [gM,h];exact .df k _ (hI _ _ _ h hi)
  | jg i off n e m l c g A hi hn hm hc hx ha =>
   cases h:look ρ i with
   | none=>simp only [gM,h];exact .dead _
   | some k=>simp only [gM,h];exact .jg k off n _ m l c g A (hI _ _ _ h hi) hn hm hc hx ha
  | addr i off e m g hi =>
   cases h:look ρ i with
   | none=>simp only [gM,h];exact .dead _
   | some k=>simp only [gM,h];exact .addr k off _ m g (hI _ _ _ h hi)
  | dead v=>exact .dead _
theorem zb (ρ :List (Nat×Nat)) (y:AV) (h:∀cs,y≠ .agg cs):Du ρ y=gM ρ y:=by
 cases y with
 | agg cs=>exact absurd rfl (h cs)
 | _=>rfl
theorem za (ρ :List (Nat×Nat)) (y:AV) (h:∀cs,y≠ .br cs):rD ρ y=Du ρ y:=by
 cases y with
 | br cs=>exact absurd rfl (h cs)
 | _=>rfl
theorem Den.J0 (ρ :List (Nat×Nat)) (hI:∀i k x,look ρ i=some k->I i=some x->I' k=some x) (hS:∀b,S b->S' b) {v:Value} {x:AV} (h:Den I S w v x):Den I' S' w v (rD ρ x) :=
 (zc ρ hI hS).two h (fun _=>rfl) (zb ρ) (fun _=>rfl) (za ρ)
theorem bJ.J0 (ρ :List (Nat×Nat)) (hI:∀i k x,look ρ i=some k->I i=some x->I' k=some x) (hS:∀b,S b->S' b) {b:Option Nat} {r:Row} (h:bJ I S w b r):bJ I' S' w b (eO ρ r):=by
 obtain ⟨he,hl,hp,hf⟩:=kT ρ r
 cases b with
 | none =>
  have h:r.cells= []:=h
  show (eO ρ r).cells= []
  exact List.eq_nil_of_length_eq_zero (by rw [hl,h];rfl)
 | some g =>
  obtain ⟨cur,te,fr,hg,gv,hle,mD,hc⟩:=h
  refine ⟨cur,te,fr,hg,gv,by rw [hl];exact hle,fun h=>by rw [hl];exact mD (by rw [←hf];exact h),fun j u x hu hx=>?_⟩
  unfold a_
  cases Lx:r.pure with
  | true =>
   have e:eO ρ r=r:=by unfold eO;rw [Lx]
   rw [e] at hx ⊢
   have:=hc j u x hu hx
   unfold a_ at this
   rw [Lx] at this ⊢
   exact this.mono fun b hb=>⟨hS b hb,rfl⟩
  | false =>
   have e:(eO ρ r).cells=r.cells.map (gM ρ):=by unfold eO;rw [Lx]
   rw [hp,Lx]
   rw [e,List.getElem?_map] at hx
   cases hj:r.cells[j]? with
   | none=>rw [hj] at hx;cases hx
   | some y =>
    rw [hj] at hx;injection hx with hx;subst hx
    have:=hc j u y hu hj
    unfold a_ at this
    rw [Lx] at this
    exact (zc ρ hI hS).all this
end
def lx (φ:Nat->Option Nat) (g:Nat):Prop:=∃id,φ id=some g
structure NK (S:Nat->Prop) (w:World) (φ:Nat->Option Nat) (H:List (Nat×Row)):Prop where
 sep:∀b,S b->b<w.heap.size∧ ¬lx φ b
 only:∀id,look H id=none->φ id=none
 inj:∀id oM g,φ id=some g->φ oM=some g->id=oM
 lt:∀id g,φ id=some g->g<w.heap.size
 rows:∀id r,look H id=some r->bJ (az H φ) S w (φ id) r
def Em (S:Nat->Prop) (w w':World) (φ ck:Nat->Option Nat) (O:List Nat):Nat->Prop:=fun b=>(S b∨((w.heap.size≤b∨lx φ b)∧b<w'.heap.size))∧b ∉ O∧ ¬lx ck b
structure Li (S:Nat->Prop) (w w':World) (φ ck:Nat->Option Nat) (O:List Nat) (H':List (Nat×Row)) (v:Value) (r:AV):Prop where
 os:w'.os=w.os
 tape:w'.tape=w.tape
 output:w'.output=w.output
 size:w.heap.size≤w'.heap.size
 block:∀b,b<w.heap.size-> ¬lx φ b->w'.heap[b]?=w.heap[b]?
 nodup:O.Nodup
 own:∀g∈O,(w.heap.size≤g∨lx φ g)∧g<w'.heap.size∧ ¬lx ck g
 cL:∀id g,ck id=some g->w.heap.size≤g∨lx φ g
 fix:∀id g,1000000000000≤id->ck id=some g->φ id=some g
 Hk:NK (Em S w w' φ ck O) w' ck H'
 Vu:sq (Em S w w' φ ck O) w' v r O
def gb (P:Program) (f:FuncId) (args:List AV) (H:List (Nat×Row)) (r:AV) (H':List (Nat×Row)):Prop :=
 ∀(w:World) (S:Nat->Prop) (φ:Nat->Option Nat) (vs:List Value),Good w->(∀id g,φ id=some g-> ¬TB g)->NK S w φ H->vs.length=args.length->(∀(j:Nat) v x,vs[j]?=some v->args[j]?=some x->Den (az H φ) S w v x) ->
  Calls P f vs.toArray w fun e w'=>∃v O ck,e= .returned v∧Li S w w' φ ck O H' v r
def inv:List (Nat×Nat)->List (Nat×Nat)
 | []=>[]
 | (c,k)::l=>(k,c)::inv l
def zz (i:Nat):List Nat->Bool
 | []=>false
 | j::l=>match Nat.beq i j with|true=>true|false=>zz i l
theorem zy (i:Nat):∀(l:List Nat),zz i l=true↔i∈l
 | []=>by simp [zz]
 | j::l=>by
  simp only [zz]
  rcases bD i j with ⟨h,e⟩|⟨h,e⟩
  ·rw [h];simp [e]
  ·rw [h];simp only [List.mem_cons];rw [zy i l];simp [e]
def tR:List Nat->Bool
 | []=>true
 | i::l=>match zz i l with|true=>false|false=>tR l
theorem qG:∀ {l:List Nat},tR l=true->l.Nodup
 | [],_=>List.nodup_nil
 | i::l,h=>by
  simp only [tR] at h
  split at h
  ·cases h
  ·rename_i hn
   rw [List.nodup_cons]
   refine ⟨fun hm=>?_,qG h⟩
   rw [(zy i l).2 hm] at hn;cases hn
theorem kB {α:Type} {k:Nat} {x:α}:∀ {l:List (Nat×α)},look l k=some x->(k,x)∈l
 | [],h=>by cases h
 | (j,y)::l,h=>by
  rw [aB] at h
  by_cases e:j=k
  ·rw [if_pos e] at h;injection h with h;subst e;subst h;exact List.mem_cons_self ..
  ·rw [if_neg e] at h;exact List.mem_cons_of_mem _ (kB h)
theorem jy {α:Type} {k:Nat} {x:α}:∀ {l:List (Nat×α)},(l.map (·.1)).Nodup->(k,x)∈l->look l k=some x
 | [],_,h=>by cases h
 | (j,y)::l,hn,h=>by
  rw [aB]
  simp only [List.map_cons,List.nodup_cons] at hn
  rcases List.mem_cons.1 h with h|h
  ·cases h;rw [if_pos rfl]
  ·have:j≠k:=fun e=>hn.1 (by rw [e];exact List.mem_map.2 ⟨(k,x),h,rfl⟩)
   rw [if_neg this];exact jy hn.2 h
theorem xf {c k:Nat}:∀ {l:List (Nat×Nat)},(k,c)∈inv l↔(c,k)∈l
 | []=>by simp [inv]
 | (x,y)::l=>by
  simp only [inv,List.mem_cons,xf (l:=l),Prod.mk.injEq]
  constructor<;>(rintro (⟨h1,h2⟩|h);exact .inl ⟨h2,h1⟩;exact .inr h)
theorem DF:∀(l:List (Nat×Nat)),(inv l).map (·.1)=l.map (·.2)
 | []=>rfl
 | (x,y)::l=>by simp [inv,DF l]
theorem jz {l:List (Nat×Nat)} (h1:(l.map (·.1)).Nodup) (h2:(l.map (·.2)).Nodup) {c k:Nat}:look (inv l) k=some c↔look l c=some k :=
 ⟨fun h=>jy h1 (xf.1 (kB h)),fun h=>jy (by rw [DF];exact h2) (xf.2 (kB h))⟩
def iJ (s:AS) (ρ :List (Nat×Nat)):List (Nat×Nat)->Option (List (Nat×Row))
 | []=>some []
 | (c,k)::l=>match look s.H c,iJ s ρ l with|some r,some m=>some ((k,eO ρ r)::m)|_,_=>none
def nw (ho:List (Nat×Row)) (ρ :List (Nat×Nat)):List (Nat×Nat)->Option (List (Nat×Row))
 | []=>some []
 | (c,k)::l=>match look ho k,nw ho ρ l with|some r,some m=>some ((c,eO ρ r)::m)|_,_=>none
theorem oo {s:AS} {ρ :List (Nat×Nat)}:∀ {l:List (Nat×Nat)} {Hl:List (Nat×Row)},iJ s ρ l=some Hl-> ∀k,look Hl k=(look (inv l) k).bind fun c=>(look s.H c).map (eO ρ)
 | [],Hl,h,k=>by cases h;rfl
 | (c,k')::l,Hl,h,k=>by
  simp only [iJ] at h
  split at h
  ·rename_i r m hr hm
   cases h
   simp only [inv,aB]
   by_cases e:k'=k
   ·rw [if_pos e,if_pos e];simp [hr]
   ·rw [if_neg e,if_neg e];exact oo hm k
  ·cases h
theorem oq {ho:List (Nat×Row)} {ρ :List (Nat×Nat)}:∀ {l:List (Nat×Nat)} {Hb:List (Nat×Row)},nw ho ρ l=some Hb-> ∀c,look Hb c=(look l c).bind (fun k=>(look ho k).map (eO ρ))∧ ∀k,look l c=some k-> ∃r,look ho k=some r
 | [],Hb,h,c=>by cases h;exact ⟨rfl,fun k h=>by cases h⟩
 | (c',k)::l,Hb,h,c=>by
  simp only [nw] at h
  split at h
  ·rename_i r m hr hm
   cases h
   simp only [aB]
   by_cases e:c'=c
   ·rw [if_pos e,if_pos e]
    exact ⟨by simp [hr],fun k' h=>by injection h with h;subst h;exact ⟨r,hr⟩⟩
   ·rw [if_neg e,if_neg e];exact oq hm c
  ·cases h
def eQ:List (Nat×Nat)->List Nat
 | []=>[]
 | (c,k)::l=>match Nat.ble 1000000000000 k with|true=>eQ l|false=>c::eQ l
theorem qJ {c:Nat}:∀ {l:List (Nat×Nat)},c∈eQ l-> ∃k,(c,k)∈l∧k<1000000000000
 | [],h=>by cases h
 | (c',k)::l,h=>by
  simp only [eQ] at h
  split at h
  ·obtain ⟨k',h1,h2⟩:=qJ h;exact ⟨k',by simp [h1],h2⟩
  ·rename_i hb
   rcases List.mem_cons.1 h with rfl|h
   ·exact ⟨k,by simp,by
     rcases Nat.lt_or_ge k 1000000000000 with h|h
     ·exact h
     ·rw [Nat.ble_eq_true_of_le h] at hb;cases hb⟩
   ·obtain ⟨k',h1,h2⟩:=qJ h;exact ⟨k',by simp [h1],h2⟩
theorem qE {c k:Nat} (hk:k<1000000000000):∀ {l:List (Nat×Nat)},(c,k)∈l->c∈eQ l
 | [],h=>by cases h
 | (c',k')::l,h=>by
  simp only [eQ]
  rcases List.mem_cons.1 h with h|h
  ·cases h
   have:Nat.ble 1000000000000 k=false:=by
    cases hb:Nat.ble 1000000000000 k with
    | false=>rfl
    | true=>have:=Nat.le_of_ble_eq_true hb;omega
   rw [this];simp
  ·have:=qE hk h
   split
   ·exact this
   ·simp [this]
def pa (s:AS) (ho:List (Nat×Row)):List (Nat×Nat)->Option (List Prop)
 | []=>some []
 | (c,k)::l=>match Nat.ble 1000000000000 k,pa s ho l with
  | true,some C=>(match look s.H c,look ho k with
   | some ⟨e,_,true,cs⟩,some ⟨e',_,true,JA⟩=>(match Nat.beq e e' with|true=>some ((cs.length=JA.length∧0<JA.length)::C)|false=>none)
   | _,_=>none)
  | false,some C=>(match Nat.ble c 999999999999 with|true=>some C|false=>none)
  | _,none=>none
theorem o_ {s:AS} {ho:List (Nat×Row)}:∀ {l:List (Nat×Nat)} {C:List Prop},pa s ho l=some C->bu C-> ∀c k,(c,k)∈l ->
  (1000000000000≤k∧ ∃r r',look s.H c=some r∧look ho k=some r'∧r.e=r'.e∧r.full=true∧r'.full=true∧r.cells.length=r'.cells.length∧0<r'.cells.length)∨(k<1000000000000∧c<1000000000000)
 | [],C,h,hC,c,k,hm=>by cases hm
 | (c',k')::l,C,h,hC,c,k,hm=>by
  simp only [pa] at h
  split at h
  ·rename_i C1 hb hr
   split at h
   ·rename_i e p cs e' p' JA h1 h2
    split at h
    ·rename_i he
     cases h
     rcases List.mem_cons.1 hm with hm|hm
     ·cases hm
      exact .inl ⟨Nat.le_of_ble_eq_true hb,_,_,h1,h2,Nat.eq_of_beq_eq_true he,rfl,rfl,hC.1.1,hC.1.2⟩
     ·exact o_ hr hC.2 c k hm
    ·cases h
   ·cases h
  ·rename_i C1 hb hr
   split at h
   ·rename_i hc
    cases h
    rcases List.mem_cons.1 hm with hm|hm
    ·obtain ⟨rfl,rfl⟩:c=c'∧k=k':=by simpa using hm
     have:=Nat.le_of_ble_eq_true hc
     have hk:k<1000000000000:=by
      rcases Nat.lt_or_ge k 1000000000000 with h|h
      ·exact h
      ·rw [Nat.ble_eq_true_of_le h] at hb;cases hb
     exact .inr ⟨hk,ah⟩
    ·exact o_ hr hC c k hm
   ·cases h
  ·cases h
def x6 (ln:List (Nat×Nat)):Bool:=match tR (ln.map (·.1)) with|true=>tR (ln.map (·.2))|false=>false
theorem CQ {ln:List (Nat×Nat)} (h:x6 ln=true):(ln.map (·.1)).Nodup∧(ln.map (·.2)).Nodup:=by
 unfold x6 at h
 split at h
 ·rename_i h1;exact ⟨qG h1,qG h⟩
 ·cases h
def oR {α:Type} (H:List (Nat×α)):List Nat->List (Nat×α)
 | []=>H
 | i::l=>oR (cF H i) l
theorem rN {α:Type}:∀(l:List Nat) (H:List (Nat×α)) (i:Nat),look (oR H l) i=if i∈l then none else look H i
 | [],H,i=>by simp [oR]
 | j::l,H,i=>by
  simp only [oR]
  rw [rN l,bC]
  by_cases e:j=i
  ·subst e;simp
  ·by_cases h:i∈l
   ·simp [h]
   ·simp [h,e,Ne.symm e]
def iZ (s:AS) (ln:List (Nat×Nat)) (Hb:List (Nat×Row)):AS:=⟨(aR s (eQ ln)).F,Hb++oR (aR s (eQ ln)).H (ln.map (·.1))⟩
def nN (P:Program) (n:Nat) (s:AS) (d:Option Nat) (c:Callee) (args:List Operand) (h:Hint):Option (AS×List Prop) :=
 match callee s c,h.av with
 | some f,some r=>(match gU P f,fB s (((args.map (bj s)).flatMap n0).filter fun i=> !(zz i (h.ln.map (·.1)))) with
  | true,some s1=>(match iJ s1 h.ln h.ln,nw h.ho (inv h.ln) h.ln,x6 h.ln,pa s1 h.ho h.ln with
   | some Hl,some Hb,true,some C=>(match d with
    | some d=>(match nodupB ((bG d r).2.map (·.1)),fZ n ⟨(aR (iZ s1 h.ln Hb) ((bG d r).2.map (·.1))).F,(bG d r).2++(aR (iZ s1 h.ln Hb) ((bG d r).2.map (·.1))).H⟩ (some d) (bG d r).1 with
     | true,some s'=>some (s',gb P f (args.map fun x=>rD h.ln (bj s1 x)) Hl r h.ho::C)
     | _,_=>none)
    | none=>some (iZ s1 h.ln Hb,gb P f (args.map fun x=>rD h.ln (bj s1 x)) Hl r h.ho::C))
   | _,_,_,_=>none)
  | _,_=>none)
 | _,_=>none
section
variable {P:Program} {S0:bf} {w0 w w':World} {n:Nat} {s:AS} {a:Act} {φ:Nat->Option Nat}
theorem wU:∀(l:List Nat) (s:AS) (φ:Nat->Option Nat) (O:List Nat),aH S0 w0 n O s a w φ-> ∃O',aH S0 w0 n O' (aR s l) a w (fun id=>if id∈l then none else φ id)∧(∀g∈O',g∈O∨ ∃i∈l,φ i=some g)∧(∀g∈O,g∈O')∧(∀i∈l,∀g,φ i=some g->g∈O') ∧
  (∀id q,look (aR s l).H id=some q->id ∉ l∧ ∃q0,look s.H id=some q0∧q.e=q0.e∧q.cells.length=q0.cells.length∧q.full=q0.full)∧(∀id q0,id ∉ l->look s.H id=some q0-> ∃q,look (aR s l).H id=some q)
 | [],s,φ,O,h=>by
  have e:(fun id=>if id∈([]:List Nat) then none else φ id)=φ:=by funext id;simp
  rw [e]
  exact ⟨O,h,fun g hg=>.inl hg,fun g hg=>hg,fun i hi=>(by cases hi),fun id q hq=>⟨by simp,q,hq,rfl,rfl,rfl⟩,fun id q0 _ hq=>⟨q0,hq⟩⟩
 | i::l,s,φ,O,h=>by
  have h1:=h.jk i (match φ i with|some g=>g::O|none=>O) rfl
  obtain ⟨O',h2,h3,h4,h5,h6,h7⟩:=wU l _ _ _ h1
  have jQ:∀id,look (bX i s).H id=if i=id then none else (look s.H id).map (dr i):=fun id=>by
   unfold bX;rw [b7,bC];by_cases e:i=id<;>simp [e]
  refine ⟨O',?_,fun g hg=>?_,fun g hg=>h4 g ?_,fun j hj g hg=>?_,fun id q hq=>?_,fun id q0 hid hq=>?_⟩
  ·have:(fun id=>if id∈i::l then none else φ id)=fun id=>if id∈l then none else erase φ i id:=by
    funext id
    unfold erase
    by_cases e1:id=i<;>by_cases e2:id∈l<;>simp [e1,e2]
   rw [this];exact h2
  ·rcases h3 g hg with h|⟨j,hj,iW⟩
   ·cases bY:φ i with
    | none=>rw [bY] at h;exact .inl h
    | some g0 =>
     rw [bY] at h
     rcases List.mem_cons.1 h with rfl|h
     ·exact .inr ⟨i,by simp,bY⟩
     ·exact .inl h
   ·unfold erase at iW
    split at iW
    ·cases iW
    ·exact .inr ⟨j,by simp [hj],iW⟩
  ·cases bY:φ i with
   | none=>exact hg
   | some g0=>simp [hg]
  ·by_cases e:j=i
   ·subst e;exact h4 g (by rw [hg];simp)
   ·rcases List.mem_cons.1 hj with hj|hj
    ·exact absurd hj e
    ·exact h5 j hj g (by unfold erase;rw [if_neg e];exact hg)
  ·obtain ⟨k1,q1,k2,k3,k4,k5⟩:=h6 id q hq
   rw [jQ] at k2
   by_cases e:i=id
   ·rw [if_pos e] at k2;cases k2
   ·rw [if_neg e] at k2
    cases hl:look s.H id with
    | none=>rw [hl] at k2;cases k2
    | some q0 =>
     rw [hl] at k2;injection k2 with k2
     obtain ⟨m1,m2,m3,m4⟩:=fz i q0
     exact ⟨by simp [Ne.symm e,k1],q0,rfl,by rw [k3,←k2,m1],by rw [k4,←k2,m2],by rw [k5,←k2,m4]⟩
  ·simp only [List.mem_cons,not_or] at hid
   exact h7 id (dr i q0) hid.2 (by rw [jQ,if_neg (Ne.symm hid.1),hq];rfl)
def eD (ln:List (Nat×Nat)) (φ:Nat->Option Nat):Nat->Option Nat:=fun k=>(look (inv ln) k).bind φ
theorem Kg (hs:aH S0 w0 n [] s a w φ) {ln:List (Nat×Nat)} (h1:(ln.map (·.1)).Nodup) (h2:(ln.map (·.2)).Nodup) {Hl:List (Nat×Row)} (hl:iJ s ln ln=some Hl) :
  NK (aJ S0 w φ []) w (eD ln φ) Hl∧(∀i k x,look ln i=some k->az s.H φ i=some x->az Hl (eD ln φ) k=some x):=by
 have lg:=oo hl
 have hI:∀i k x,look ln i=some k->az s.H φ i=some x->az Hl (eD ln φ) k=some x:=by
  intro i k x LH hx
  obtain ⟨e,m,b⟩:=x
  obtain ⟨r,hr,he,hm,hb⟩:=aL hx
  have sg:=(jz h1 h2).2 LH
  rw [bn (r:=eO ln r) (by rw [lg,sg];simp [hr])]
  obtain ⟨m1,m2,-,-⟩:=kT ln r
  rw [m1,m2,he,hm]
  unfold eD;rw [sg];simp [hb]
 have back:∀k g,eD ln φ k=some g-> ∃c,look (inv ln) k=some c∧φ c=some g:=by
  intro k g hk
  unfold eD at hk
  cases hc:look (inv ln) k with
  | none=>rw [hc] at hk;cases hk
  | some c=>rw [hc] at hk;exact ⟨c,rfl,hk⟩
 refine ⟨⟨fun b hb=>⟨hb.1,fun ⟨k,hk⟩=>?_⟩,fun k hk=>?_,fun k k' g hk oP=>?_,fun k g hk=>?_,fun k r hr=>?_⟩,hI⟩
 ·obtain ⟨c,-,hc⟩:=back k b hk
  exact hb.2.2.1 c hc
 ·rw [lg] at hk
  cases hc:look (inv ln) k with
  | none=>unfold eD;rw [hc];rfl
  | some c =>
   rw [hc] at hk
   have UZ:look s.H c=none:=by simpa using hk
   unfold eD;rw [hc];exact hs.only c UZ
 ·obtain ⟨c,hc,hg⟩:=back k g hk
  obtain ⟨c',kR,iW⟩:=back k' g oP
  have e:=hs.inj c c' g hg iW
  subst e
  have e1:=(jz h1 h2).1 hc
  have e2:=(jz h1 h2).1 kR
  rw [e1] at e2;injection e2
 ·obtain ⟨c,-,hc⟩:=back k g hk
  exact (hs.cL c g hc).2
 ·rw [lg] at hr
  cases hc:look (inv ln) k with
  | none=>rw [hc] at hr;cases hr
  | some c =>
   rw [hc] at hr
   cases RZ:look s.H c with
   | none=>simp [RZ] at hr
   | some q =>
    simp [RZ] at hr
    subst hr
    have aK:=(hs.rows c q RZ).J0 ln hI (fun b hb=>hb)
    have e:eD ln φ k=φ c:=by unfold eD;rw [hc];rfl
    rw [e];exact aK
theorem EW (hs:aH S0 w0 n [] s a w φ) {ln:List (Nat×Nat)} (h1:(ln.map (·.1)).Nodup) (h2:(ln.map (·.2)).Nodup) {ho:List (Nat×Row)} {Hb:List (Nat×Row)} (hb:nw ho (inv ln) ln=some Hb)
  {C:List Prop} (hv:pa s ho ln=some C) (hC:bu C) {ck:Nat->Option Nat} {O:List Nat} {v:Value} {r:AV} (hB:Li (aJ S0 w φ []) w w' (eD ln φ) ck O ho v r) :
  ∃ wK,aH S0 w0 n O (iZ s ln Hb) a w' wK∧sq (aJ S0 w' wK O) w' v r O:=by
 obtain ⟨O0,hA,U9,-,Sa,Aa,Ta⟩:=wU (eQ ln) s φ [] hs
 generalize Q6:(fun id=>if id∈eQ ln then none else φ id)=NN at hA
 have eA:∀id,NN id=if id∈eQ ln then none else φ id:=fun id=>by rw [←Q6]
 have Tu:=fun c=>oq hb c
 let wK:Nat->Option Nat:=fun id=>match look ln id with|some k=>ck k|none=>φ id
 have Jx:∀id k,look ln id=some k->wK id=ck k:=fun id k h=>by show (match look ln id with|some k=>ck k|none=>φ id)=_;rw [h]
 have Jy:∀id,look ln id=none->wK id=φ id:=fun id h=>by show (match look ln id with|some k=>ck k|none=>φ id)=_;rw [h]
 have inr:∀g,lx (eD ln φ) g-> ∃c k,look ln c=some k∧φ c=some g:=by
  rintro g ⟨k,hk⟩
  unfold eD at hk
  cases hc:look (inv ln) k with
  | none=>rw [hc] at hk;cases hk
  | some c=>rw [hc] at hk;exact ⟨c,k,(jz h1 h2).1 hc,hk⟩
 have G1:∀c,c∈eQ ln-> ∃k,look ln c=some k∧k<1000000000000:=fun c hc=>by
  obtain ⟨k,hm,hk⟩:=qJ hc
  exact ⟨k,jy h1 hm,hk⟩
 have F2:∀b,aJ S0 w NN O0 b->aJ S0 w' wK O b∧w'.heap[b]?=w.heap[b]?:=by
  intro b ⟨f1,f2,f3,f4⟩
  have gu:¬lx (eD ln φ) b:=fun h=>by
   obtain ⟨c,k,wo,hc⟩:=inr b h
   by_cases ho:c∈eQ ln
   ·exact f2 (Sa c ho b hc)
   ·exact f3 c (by rw [eA,if_neg ho];exact hc)
  refine ⟨⟨Nat.lt_of_lt_of_le f1 hB.size,fun hm=>?_,fun id hid=>?_,f4⟩,hB.block b f1 gu⟩
  ·rcases (hB.own b hm).1 with h|h
   ·omega
   ·exact gu h
  ·cases hl:look ln id with
   | some k =>
    rw [Jx id k hl] at hid
    rcases hB.cL k b hid with h|h
    ·omega
    ·exact gu h
   | none =>
    rw [Jy id hl] at hid
    have:id ∉ eQ ln:=fun hm=>by obtain ⟨k,h,-⟩:=G1 id hm;rw [hl] at h;cases h
    exact f3 id (by rw [eA,if_neg this];exact hid)
 have F5:∀b,Em (aJ S0 w φ []) w w' (eD ln φ) ck O b->aJ S0 w' wK O b:=by
  intro b ⟨g1,g2,g3⟩
  have cW:b<w'.heap.size:=by
   rcases g1 with h|h
   ·exact Nat.lt_of_lt_of_le h.1 hB.size
   ·exact h.2
  refine ⟨cW,g2,fun id hid=>?_,?_⟩
  ·cases hl:look ln id with
   | some k=>rw [Jx id k hl] at hid;exact g3 ⟨k,hid⟩
   | none =>
    rw [Jy id hl] at hid
    rcases g1 with h|⟨h|h,-⟩
    ·exact h.2.2.1 id hid
    ·have:=(hs.cL id b hid).2;omega
    ·obtain ⟨c,k,wo,hc⟩:=inr b h
     have:=hs.inj id c b hid hc
     subst this;rw [hl] at wo;cases wo
  ·rcases g1 with h|⟨h|h,-⟩
   ·exact h.2.2.2
   ·exact hs.new b (.inl (Nat.le_trans hs.cM.size h))
   ·obtain ⟨c,k,wo,hc⟩:=inr b h
    exact hs.new b (hs.cL c b hc).1.2
 have zH:∀id k,look ln id=some k-> ∃r',look ho k=some r'∧look (iZ s ln Hb).H id=some (eO (inv ln) r'):=by
  intro id k hk
  obtain ⟨e1,e2⟩:=Tu id
  obtain ⟨r',gZ⟩:=e2 k hk
  refine ⟨r',gZ,?_⟩
  unfold iZ
  rw [bI,e1,hk]
  simp [gZ]
 have Hf:∀id,look ln id=none->look (iZ s ln Hb).H id=look (aR s (eQ ln)).H id:=by
  intro id hk
  obtain ⟨e1,-⟩:=Tu id
  unfold iZ
  rw [bI,e1,hk,rN]
  have:id ∉ ln.map (·.1):=fun hm=>by
   obtain ⟨⟨c,k⟩,LB,e⟩:=List.mem_map.1 hm
   have e:c=id:=e
   subst e
   rw [jy h1 LB] at hk;cases hk
  simp [this]
 have vars:∀id k,look ln id=some k->1000000000000≤k-> ∃r0 r' g,look s.H id=some r0∧look ho k=some r'∧r0.e=r'.e∧r0.full=true∧r'.full=true∧r0.cells.length=r'.cells.length∧ck k=some g∧φ id=some g:=by
  intro id k hk u_
  rcases o_ hv hC id k (kB hk) with ⟨-,r0,r',e1,e2,e3,e4,e5,e6,e7⟩|⟨h,-⟩
  ·have aK:=hB.Hk.rows k r' e2
   cases hg:ck k with
   | none =>
    rw [hg] at aK
    have:r'.cells= []:=aK
    rw [this] at e7;simp at e7
   | some g =>
    have:=hB.fix k g u_ hg
    unfold eD at this
    rw [(jz h1 h2).2 hk] at this
    exact ⟨r0,r',g,e1,e2,e3,e4,e5,e6,rfl,this⟩
  ·omega
 have F3:∀id x,az (aR s (eQ ln)).H NN id=some x->az (iZ s ln Hb).H wK id=some x:=by
  intro id x hx
  obtain ⟨e,m,b⟩:=x
  obtain ⟨q,hq,he,hm,qR⟩:=aL hx
  obtain ⟨gu,q0,Qr,Tn,LA,-⟩:=Aa id q hq
  rw [eA,if_neg gu] at qR
  cases hl:look ln id with
  | none=>rw [bn (r:=q) (by rw [Hf id hl];exact hq),Jy id hl,he,hm,qR]
  | some k =>
   have u_:1000000000000≤k:=by
    rcases Nat.lt_or_ge k 1000000000000 with h|h
    ·exact absurd (qE h (kB hl)) gu
    ·exact h
   obtain ⟨r0,r',g,f1,f2,f3,-,-,f6,f7,f8⟩:=vars id k hl u_
   rw [Qr] at f1;injection f1 with f1;subst f1
   obtain ⟨TX,f9,f10⟩:=zH id k hl
   rw [f2] at f9;injection f9 with f9;subst f9
   obtain ⟨m1,m2,-,-⟩:=kT (inv ln) r'
   rw [bn f10,m1,m2,Jx id k hl,f7,←f3,←Tn,he,←f6,←LA,hm,←qR,f8]
 have F4:∀id e m g,az (aR s (eQ ln)).H NN id=some (e,m,some g)->aS w' g=aS w g:=by
  intro id e m g hx
  obtain ⟨q,hq,he,hm,qR⟩:=aL hx
  obtain ⟨gu,q0,Qr,Tn,LA,-⟩:=Aa id q hq
  rw [eA,if_neg gu] at qR
  cases hl:look ln id with
  | none =>
   have Pj:¬lx (eD ln φ) g:=fun h=>by
    obtain ⟨c,k,wo,hc⟩:=inr g h
    have:=hs.inj id c g qR hc
    subst this;rw [hl] at wo;cases wo
   unfold aS;rw [hB.block g (hs.cL id g qR).2 Pj]
  | some k =>
   have u_:1000000000000≤k:=by
    rcases Nat.lt_or_ge k 1000000000000 with h|h
    ·exact absurd (qE h (kB hl)) gu
    ·exact h
   obtain ⟨r0,r',g',f1,f2,-,f4,f5,f6,f7,f8⟩:=vars id k hl u_
   rw [f8] at qR;injection qR with qR;subst qR
   have Tb:=hs.rows id r0 f1
   rw [f8] at Tb
   obtain ⟨cur,te,fr,u1,-,-,u2,-⟩:=Tb
   have gZ:=hB.Hk.rows k r' f2
   rw [f7] at gZ
   obtain ⟨cur',TR,QG,v1,-,-,v2,-⟩:=gZ
   unfold aS;rw [u1,v1]
   show cur'.size=cur.size
   rw [u2 f4,v2 f5,f6]
 refine ⟨wK,⟨hA.jF,hA.jJ,⟨hB.os.trans hs.cM.os,hB.tape.trans hs.cM.tape,hB.output.trans hs.cM.output,Nat.le_trans hs.cM.size hB.size,fun k hk hx=>?_,hs.cM.g0,hs.cM.gx⟩,fun i av hi=>(hA.ct i av hi).mono F3 F2 F4,fun id q hq=>?_,fun id hid=>?_,fun id oM g hg iW=>?_,fun id g hg=>?_,fun id g hg hm=>?_,hs.new⟩,hB.Vu.mono F5⟩
 ·have Pj:¬lx (eD ln φ) k:=fun h=>by
   obtain ⟨c,k',wo,hc⟩:=inr k h
   rcases (hs.cL c k hc).1.2 with h|h
   ·omega
   ·exact hx h
  rw [hB.block k (Nat.lt_of_lt_of_le hk hs.cM.size) Pj]
  exact hs.cM.block k hk hx
 ·cases hl:look ln id with
  | some k =>
   obtain ⟨r',f2,f10⟩:=zH id k hl
   rw [f10] at hq;injection hq with hq;subst hq
   rw [Jx id k hl]
   refine (hB.Hk.rows k r' f2).J0 (inv ln) (fun i c x UG hx=>?_) F5
   obtain ⟨e,m,b⟩:=x
   obtain ⟨q,hq,he,hm,qR⟩:=aL hx
   have Tq:=(jz h1 h2).1 UG
   obtain ⟨TX,f3,f4⟩:=zH c i Tq
   rw [hq] at f3;injection f3 with f3;subst f3
   obtain ⟨m1,m2,-,-⟩:=kT (inv ln) q
   rw [bn f4,m1,m2,Jx c i Tq,he,hm,qR]
  | none =>
   rw [Hf id hl] at hq
   have gu:id ∉ eQ ln:=(Aa id q hq).1
   have aK:=hA.rows id q hq
   have e:NN id=wK id:=by rw [eA,if_neg gu,Jy id hl]
   unfold bJ at aK ⊢
   rw [←e]
   cases hg:NN id with
   | none=>rw [hg] at aK;exact aK
   | some g =>
    rw [hg] at aK
    obtain ⟨cur,te,fr,u1,u2,u3,u4,u5⟩:=aK
    have bY:φ id=some g:=by rw [eA,if_neg gu] at hg;exact hg
    have Pj:¬lx (eD ln φ) g:=fun h=>by
     obtain ⟨c,k,wo,hc⟩:=inr g h
     have:=hs.inj id c g bY hc
     subst this;rw [hl] at wo;cases wo
    refine ⟨cur,te,fr,(hB.block g (hs.cL id g bY).2 Pj).trans u1,u2,u3,u4,fun j u x hu hx=>?_⟩
    have:=u5 j u x hu hx
    unfold a_ at this ⊢
    cases hp:q.pure with
    | true=>rw [hp] at this;exact this.mono F2
    | false=>rw [hp] at this;exact this.mono F3 F2 F4
 ·cases hl:look ln id with
  | some k=>obtain ⟨r',-,f⟩:=zH id k hl;rw [f] at hid;cases hid
  | none =>
   rw [Hf id hl] at hid
   have gu:id ∉ eQ ln:=fun hm=>by obtain ⟨k,h,-⟩:=G1 id hm;rw [hl] at h;cases h
   have:=hA.only id hid
   rw [eA,if_neg gu] at this
   rw [Jy id hl,this]
 ·have mixed:∀i j k,look ln i=some k->look ln j=none->ck k=some g->φ j=some g->False:=by
   intro i j k hi hj H7 Oh
   rcases hB.cL k g H7 with h|h
   ·have:=(hs.cL j g Oh).2;omega
   ·obtain ⟨c,k',wo,hc⟩:=inr g h
    have:=hs.inj j c g Oh hc
    subst this;rw [hj] at wo;cases wo
  cases hl:look ln id with
  | some k =>
   rw [Jx id k hl] at hg
   cases qP:look ln oM with
   | some k' =>
    rw [Jx oM k' qP] at iW
    have:=hB.Hk.inj k k' g hg iW
    subst this
    have e1:=(jz h1 h2).2 hl
    have e2:=(jz h1 h2).2 qP
    rw [e1] at e2;injection e2
   | none=>rw [Jy oM qP] at iW;exact (mixed id oM k hl qP hg iW).elim
  | none =>
   rw [Jy id hl] at hg
   cases qP:look ln oM with
   | some k'=>rw [Jx oM k' qP] at iW;exact (mixed oM id k' qP hl iW hg).elim
   | none=>rw [Jy oM qP] at iW;exact hs.inj id oM g hg iW
 ·cases hl:look ln id with
  | none =>
   rw [Jy id hl] at hg
   have:=hs.cL id g hg
   exact ⟨this.1,Nat.lt_of_lt_of_le this.2 hB.size⟩
  | some k =>
   rw [Jx id k hl] at hg
   refine ⟨⟨?_,?_⟩,hB.Hk.lt k g hg⟩
   ·rcases o_ hv hC id k (kB hl) with ⟨u_,-⟩|⟨-,h⟩
    ·obtain ⟨r0,r',g',-,-,-,-,-,-,f7,f8⟩:=vars id k hl u_
     rw [hg] at f7;injection f7 with f7;subst f7
     exact (hs.cL id g f8).1.1
    ·exact .inl h
   ·rcases hB.cL k g hg with h|h
    ·exact .inl (Nat.le_trans hs.cM.size h)
    ·obtain ⟨c,k',wo,hc⟩:=inr g h
     exact (hs.cL c g hc).1.2
 ·obtain ⟨o1,o2,o3⟩:=hB.own g hm
  cases hl:look ln id with
  | some k=>rw [Jx id k hl] at hg;exact o3 ⟨k,hg⟩
  | none =>
   rw [Jy id hl] at hg
   rcases o1 with h|h
   ·have:=(hs.cL id g hg).2;omega
   ·obtain ⟨c,k',wo,hc⟩:=inr g h
    have:=hs.inj id c g hg hc
    subst this;rw [hl] at wo;cases wo
end
section
variable {P:Program} {n:Nat} {s:AS} {o:Oper} {h:Hint} {q:AS×List Prop}
theorem uN {c:Callee} {xs:Array Operand} {ts:Array TypeId} (ho:o.op= .call ⟨c,xs,ts⟩) (hr:nN P n s o.dst c xs.toList h=some q):lV P n s o q.1 q.2:=by
 intro hC S0 w0 a w Q ⟨φ,hs⟩
 unfold nN at hr
 split at hr
 ·rename_i f r hc _
  split at hr
  ·rename_i s1 hE HE
   split at hr
   ·rename_i Hl Hb C hl hb wo hv
    obtain ⟨h1,h2⟩:=CQ wo
    obtain ⟨iy,gI⟩:=fA _ _ _ _ HE hs
    obtain ⟨Po,hI⟩:=Kg gI h1 h2 hl
    have bZ:=jd hs hc ho hE
    have main:gb P f (xs.toList.map fun x=>rD h.ln (bj s1 x)) Hl r h.ho->bu C-> ∀s',((∃d,o.dst=some d∧nodupB ((bG d r).2.map (·.1))=true∧fZ n ⟨(aR (iZ s1 h.ln Hb) ((bG d r).2.map (·.1))).F,(bG d r).2++(aR (iZ s1 h.ln Hb) ((bG d r).2.map (·.1))).H⟩ (some d) (bG d r).1=some s')∨(o.dst=none∧s'=iZ s1 h.ln Hb))->o.wp P a w (fun a' w'=>ib S0 w0 n s' a' w') Q:=by
     intro ni D0 s' hd
     unfold Oper.wp
     rw [bZ]
     have mE:=ni w (aJ S0 w iy []) (eD h.ln iy) (xs.toList.map a.eval) gI.cM.mm (fun id g hg hb=>by
      obtain ⟨k,hk⟩:∃k,iy k=some g:=by
       unfold eD at hg
       cases hl:look (inv h.ln) id with
       | none=>rw [hl] at hg;cases hg
       | some k=>rw [hl] at hg;exact ⟨k,hg⟩
      rcases (gI.cL k g hk).1.2 with h1|h1
      ·have:=gI.cM.g0.lt hb;omega
      ·exact gI.cM.gx g hb h1) Po (by simp) (fun j v x hv hx=>by
      rw [List.getElem?_map] at hv hx
      cases hj:xs.toList[j]? with
      | none=>rw [hj] at hv;cases hv
      | some y =>
       rw [hj] at hv hx
       injection hv with hv;injection hx with hx;subst hv;subst hx
       exact (gI.bj y).J0 h.ln hI (fun b hb=>hb))
     have e:(xs.toList.map a.eval).toArray=xs.map a.eval:=by apply Array.ext';simp
     rw [e] at mE
     refine mE.mono ?_
     rintro en w' ⟨v,O,ck,rfl,hB⟩
     show ib S0 w0 n s' (a.put o.dst v) w'
     obtain ⟨wK,h3,um⟩:=EW gI h1 h2 hb hv D0 hB
     have mh:∀g∈O,(w0.heap.size≤g∨S0.X g)∧g<w'.heap.size:=fun g hg=>by
      obtain ⟨o1,o2,-⟩:=hB.own g hg
      refine ⟨?_,o2⟩
      rcases o1 with h|⟨k,hk⟩
      ·exact .inl (Nat.le_trans gI.cM.size h)
      ·unfold eD at hk
       cases hc:look (inv h.ln) k with
       | none=>rw [hc] at hk;cases hk
       | some c=>rw [hc] at hk;exact (gI.cL c g hk).1.2
     rcases hd with ⟨d,hd,wh,dL⟩|⟨hd,rfl⟩
     ·obtain ⟨vb,h4,hF,HR⟩:=jX ((bG d r).2.map (·.1)) _ wK O h3
      have QF:aH S0 w0 n (O++ []) (aR (iZ s1 h.ln Hb) ((bG d r).2.map (·.1))) a w' vb:=by rw [List.append_nil];exact h4
      obtain ⟨TM,h5,h6,-⟩:=vG (aR (iZ s1 h.ln Hb) ((bG d r).2.map (·.1))) vb O [] v r d QF (by rw [List.append_nil];exact um.mono hF) (by rw [List.append_nil];exact hB.nodup) mh (fun i hi=>⟨HR i (.inr hi),qF wh i hi⟩) (im wh)
      rw [hd]
      exact ⟨TM,dB h5 h6 dL⟩
     ·rw [hd]
      have key:∀(O:List Nat),aH S0 w0 n O (iZ s1 h.ln Hb) a w' wK->aH S0 w0 n [] (iZ s1 h.ln Hb) a w' wK:=by
       intro O
       induction O with
       | nil=>exact fun h=>h
       | cons g O ih=>exact fun h=>ih h.uA
      have h5:=key O h3
      exact ⟨wK,⟨h5.jF,h5.jJ,h5.cM,h5.ct,h5.rows,h5.only,h5.inj,h5.cL,h5.apart,h5.new⟩⟩
    split at hr
    ·rename_i d hd
     split at hr
     ·rename_i s' wh dL
      cases hr
      exact main hC.1 hC.2 s' (.inl ⟨d,hd,wh,dL⟩)
     ·cases hr
    ·rename_i hd
     cases hr
     exact main hC.1 hC.2 _ (.inr ⟨hd,rfl⟩)
   ·cases hr
  ·cases hr
 ·cases hr
end
def ba (o:Oper):List Nat:=(o.after.toList.filter (Region.binds .any)).map (·.on)
def rA (ops:Array Oper) (a:Act) (d:Nat):Value :=
 match (ops[d]?).bind (·.dst) with
 | some s=>a.tmps.getD s undef
 | none=>undef
def lk (ops:Array Oper) (n:Nat):Bool :=
 (ops.toList.zipIdx.all fun p=>(ba p.1).all (· <p.2)) && (ops.toList.filterMap (·.dst)).Nodup && (ops.toList.all fun o=>match o.dst with|some s=>decide (s<n)|none=>true)
def dX (l:List (Oper×Nat)) (vs:Nat->Value) (a:Act):Act:=l.foldl (fun a p=>a.put p.1.dst (vs p.2)) a
theorem l7 (a:Act) (s:Nat) (v:Value) (h:s<a.tmps.size):(a.put (some s) v).tmps[s]?=some v:=by
 simp [Act.put,h]
theorem gN (a:Act) (d:Option Nat) (s:Nat) (v:Value) (h:d≠some s):(a.put d v).tmps[s]?=a.tmps[s]?:=by
 cases d with
 | none=>rfl
 | some t =>
  have:t≠s:=fun e=>h (by rw [e])
  simp [Act.put,Array.getElem?_setIfInBounds_ne this]
theorem pj (a:Act) (d:Option Nat) (v:Value):(a.put d v).tmps.size=a.tmps.size:=by
 cases d<;>simp [Act.put]
theorem put_defers (a:Act) (d:Option Nat) (v:Value):(a.put d v).defers=a.defers:=by
 cases d<;>simp [Act.put]
theorem jx (vs:Nat->Value):∀(l:List (Oper×Nat)) (a:Act),(l.filterMap (·.1.dst)).Nodup ->
  (dX l vs a).tmps.size=a.tmps.size∧(dX l vs a).defers=a.defers ∧
  (∀p∈l,∀s,p.1.dst=some s->s<a.tmps.size->(dX l vs a).tmps[s]?=some (vs p.2)) ∧
  (∀s,(∀p∈l,p.1.dst≠some s)->(dX l vs a).tmps[s]?=a.tmps[s]?)
 | [],a,_=>⟨rfl,rfl,by simp,fun _ _=>rfl⟩
 | p::l,a,hn=>by
  have sf:(l.filterMap (·.1.dst)).Nodup:=by
   cases hd:p.1.dst with
   | none=>rw [List.filterMap_cons_none (by simpa using hd)] at hn;exact hn
   | some s=>rw [List.filterMap_cons_some (by simpa using hd)] at hn;exact (List.nodup_cons.1 hn).2
  obtain ⟨h1,h2,h3,h4⟩:=jx vs l (a.put p.1.dst (vs p.2)) sf
  refine ⟨h1.trans (pj ..),h2.trans (put_defers ..),fun q hq s hs cW=>?_,fun s hs=>?_⟩
  ·rcases List.mem_cons.1 hq with rfl|hq
   ·have gu:∀p∈l,p.1.dst≠some s:=by
     intro p' DP he
     rw [List.filterMap_cons_some (by simpa using hs)] at hn
     exact (List.nodup_cons.1 hn).1 (List.mem_filterMap.2 ⟨p',DP,he⟩)
    show (dX l vs (a.put q.1.dst (vs q.2))).tmps[s]?=_
    rw [h4 s gu,hs]
    exact l7 a s _ cW
   ·exact h3 q hq s hs (by rw [pj];exact cW)
  ·show (dX l vs (a.put p.1.dst (vs p.2))).tmps[s]?=_
   rw [h4 s fun q hq=>hs q (List.mem_cons_of_mem _ hq),gN a _ s _ (hs p (List.mem_cons_self ..))]
def gE (P:Program) (ops:Array Oper) (Q:Exit->Act->World->Prop) (o:Oper) (a:Act) (w:World) (R:Value->World->Prop):Prop :=
 if Region.wanted o (yielded ops a.tmps) then o.wp P a w (fun a' w'=>∃v,a'=a.put o.dst v∧Below w.heap.size w w'∧R v w') Q else R undef w
section
variable {P:Program} {ops:Array Oper} {Q:Exit->Act->World->Prop} {a:Act} {w:World}
structure Inv (ops:Array Oper) (F:Nat->Value->World->Prop) (a:Act) (w:World) (listed:Array Bool) (a':Act) (w':World):Prop where
 grown:Below w.heap.size w w'
 size:listed.size=ops.size
 closed:∀k o,listed.getD k false=true->ops[k]?=some o-> ∀d∈ba o,listed.getD d false=true
 yC:a'.tmps.size=a.tmps.size
 sw:a'.defers=a.defers
 val:∀k o s,listed.getD k false=true->ops[k]?=some o->o.dst=some s-> ∃v,a'.tmps[s]?=some v∧F k v w'
 Dx:∀k o,listed.getD k false=true->ops[k]?=some o->o.dst=none-> ∃v,F k v w'
 old:∀s,(∀k o,listed.getD k false=true->ops[k]?=some o->o.dst≠some s)->a'.tmps[s]?=a.tmps[s]?
theorem fI {n:Nat} (h:lk ops n=true):(∀(k:Nat) (o:Oper),ops[k]?=some o-> ∀d∈ba o,d<k)∧(ops.toList.filterMap (·.dst)).Nodup∧(∀(k:Nat) (o:Oper) (s:Nat),ops[k]?=some o->o.dst=some s->s<n):=by
 unfold lk at h
 simp only [Bool.and_eq_true,List.all_eq_true,decide_eq_true_eq] at h
 obtain ⟨⟨h1,h2⟩,h3⟩:=h
 refine ⟨fun k o ho d hd=>?_,h2,fun k o s ho hs=>?_⟩
 ·have hm:(o,k)∈ops.toList.zipIdx:=by rw [List.mem_zipIdx_iff_getElem?];simpa using ho
  exact h1 (o,k) hm d hd
 ·have hm:o∈ops.toList:=by
   rw [←Array.getElem?_toList] at ho
   exact List.mem_of_getElem? ho
  have:=h3 o hm
  rw [hs] at this
  simpa using this
theorem nQ (hn:(ops.toList.filterMap (·.dst)).Nodup) {j k:Nat} {o p:Oper} {s:Nat} (hj:ops[j]?=some o) (hk:ops[k]?=some p) (ho:o.dst=some s) (hp:p.dst=some s):j=k:=by
 rw [←Array.getElem?_toList] at hj hk
 have key:∀(l:List Oper) (j k:Nat),(l.filterMap (·.dst)).Nodup->l[j]?=some o->l[k]?=some p->j=k:=by
  intro l
  induction l with
  | nil=>intro j k _ h;simp at h
  | cons x l ih =>
   intro j k hn hj hk
   have sf:(l.filterMap (·.dst)).Nodup:=by
    cases hd:x.dst with
    | none=>rw [List.filterMap_cons_none (by simpa using hd)] at hn;exact hn
    | some s=>rw [List.filterMap_cons_some (by simpa using hd)] at hn;exact (List.nodup_cons.1 hn).2
   have fresh:∀(i:Nat) (q:Oper),x.dst=some s->l[i]?=some q->q.dst≠some s:=by
    intro i q hx hq he
    rw [List.filterMap_cons_some (by simpa using hx)] at hn
    exact (List.nodup_cons.1 hn).1 (List.mem_filterMap.2 ⟨q,List.mem_of_getElem? hq,he⟩)
   cases j with
   | zero =>
    cases k with
    | zero=>rfl
    | succ k =>
     simp at hj hk;subst hj
     exact absurd hp (fresh k p ho hk)
   | succ j =>
    cases k with
    | zero =>
     simp at hj hk;subst hk
     exact absurd ho (fresh j o hp hj)
    | succ k=>rw [ih j k sf (by simpa using hj) (by simpa using hk)]
 exact key ops.toList j k hn hj hk
end
section
variable {P:Program} {ops:Array Oper} {Q:Exit->Act->World->Prop} {a:Act} {w:World}
theorem oV (l:List Bool):∀i:Nat,l[i]?=some false->((l.set i true).filter (· == false)).length+1=(l.filter (· == false)).length:=by
 induction l with
 | nil=>intro i hi;simp at hi
 | cons x l ih =>
  intro i hi
  cases i with
  | zero=>simp at hi;subst hi;simp
  | succ i =>
   simp only [List.set_cons_succ]
   have:=ih i (by simpa using hi)
   cases x
   ·rw [List.filter_cons_of_pos rfl,List.filter_cons_of_pos rfl];simp only [List.length_cons];omega
   ·rw [List.filter_cons_of_neg (by simp),List.filter_cons_of_neg (by simp)];exact this
theorem Bb {n T:Nat} (hT:T<ops.size) (Jq:Region.sinkB .any ops T=true) (A_:Region.chainB .any ops T=true) (O6:Region.seqB .any ops (ops.size-T) T ((List.range ops.size).map (decide<| · <T)).toArray=true) (dc:a.tmps.size=n) (hB:lk ops n=true) (F:Nat->Value->World->Prop) (mono:∀k v w w',Below w.heap.size w w'->F k v w->F k v w')
  (u7:∀k o,k<T->ops[k]?=some o-> ∀a' w',Below w.heap.size w w'->(∀d∈ba o,F d (rA ops a' d) w'∨(∃p,ops[d]?=some p∧p.dst=none))->(∀s,(∀(j:Nat) (p:Oper),j<T->ops[j]?=some p->p.dst≠some s)->a'.eval (.tmp s)=a.eval (.tmp s))->gE P ops Q o a' w' (F k))
  (lh:∀vs:Nat->Value,∀w',Below w.heap.size w w'->(∀k,k<T->F k (vs k) w')->wpList P ops Q (ops.toList.drop T) (dX (ops.toList.zipIdx.take T) vs a) w') :
  ∀(fuel:Nat) (listed:Array Bool) (a':Act) (w':World),Inv ops F a w listed a' w'->(∀j,T≤j->listed.getD j false=false) ->
   (listed.toList.filter (· == false)).length=fuel->wpAny P .any ops Q fuel listed a' w':=by
 obtain ⟨cW,g_,u9⟩:=fI hB
 have ks:∀(listed:Array Bool) (a':Act) (w':World),Inv ops F a w listed a' w'-> ∀k,k<T->listed.getD k false=false-> ∃i,i<T∧i∈Region.ready .any ops listed:=by
  intro listed a' w' I k
  induction k using Nat.strongRecOn with
  | _ k ih =>
   intro hk hl
   have iw:k<listed.size:=by rw [I.size];omega
   have xp:k<ops.size:=ah
   have oP:ops[k]?=some ops[k]:=Array.getElem?_eq_getElem xp
   by_cases f_:∀d∈ba ops[k],listed.getD d false=true
   ·refine ⟨k,hk,?_⟩
    rw [mem_ready]
    refine ⟨?_,ops[k],oP,fun e he hb=>f_ e.on ?_⟩
    ·simp [iw] at hl ⊢;exact hl
    ·unfold ba
     exact List.mem_map.2 ⟨e,List.mem_filter.2 ⟨by simpa using he,hb⟩,rfl⟩
   ·have:∃d,d∈ba ops[k]∧listed.getD d false=false:=by
     refine Classical.byContradiction fun gu=>f_ fun d hd=>?_
     cases hx:listed.getD d false with
     | true=>rfl
     | false=>exact absurd ⟨d,hd,hx⟩ gu
    obtain ⟨d,hd,hx⟩:=this
    exact ih d (cW k _ oP d hd) (by have:=cW k _ oP d hd;omega) hx
 have done:∀(listed:Array Bool) (a':Act) (w':World),Inv ops F a w listed a' w'->(∀k,k<T->listed.getD k false=true)->(∀j,T≤j->listed.getD j false=false)->wpList P ops Q (ops.toList.drop T) a' w':=by
  intro listed a' w' I all tail
  have hv:∀k,∃v,k<T->(F k v w'∧ ∀o s,ops[k]?=some o->o.dst=some s->a'.tmps[s]?=some v):=by
   intro k
   by_cases hk:k<T
   ·have xp:k<ops.size:=ah
    have oP:ops[k]?=some ops[k]:=Array.getElem?_eq_getElem xp
    cases hd:ops[k].dst with
    | none =>
     obtain ⟨v,hv⟩:=I.Dx k _ (all k hk) oP hd
     exact ⟨v,fun _=>⟨hv,fun o s ho hs=>by rw [oP] at ho;injection ho with ho;subst ho;rw [hd] at hs;cases hs⟩⟩
    | some s =>
     obtain ⟨v,hv,hF⟩:=I.val k _ s (all k hk) oP hd
     exact ⟨v,fun _=>⟨hF,fun o s' ho hs=>by rw [oP] at ho;injection ho with ho;subst ho;rw [hd] at hs;injection hs with hs;subst hs;exact hv⟩⟩
   ·exact ⟨undef,fun h=>absurd h hk⟩
  obtain ⟨vs,DM⟩:=Classical.axiomOfChoice hv
  have qO:∀p:Oper×Nat,p∈ops.toList.zipIdx.take T↔(p.2<T∧ops[p.2]?=some p.1):=by
   intro p
   rw [List.mem_iff_getElem?]
   constructor
   ·rintro ⟨x,hx⟩
    rw [List.getElem?_take] at hx
    split at hx
    ·rename_i z7
     rw [List.getElem?_zipIdx] at hx
     cases ho:ops.toList[x]? with
     | none=>rw [ho] at hx;simp at hx
     | some q =>
      rw [ho] at hx
      simp at hx
      subst hx
      exact ⟨by simpa using z7,by simpa using ho⟩
    ·cases hx
   ·rintro ⟨h1,h2⟩
    refine ⟨p.2,?_⟩
    rw [List.getElem?_take,if_pos h1,List.getElem?_zipIdx]
    have Oh:ops.toList[p.2]?=some p.1:=by simpa using h2
    rw [Oh];simp
  have jC:=jx vs (ops.toList.zipIdx.take T) a (by
   have h1:(ops.toList.zipIdx.take T).filterMap (·.1.dst)=(ops.toList.take T).filterMap (·.dst):=by
    conv=>rhs;rw [←List.zipIdx_map_fst 0 ops.toList,←List.map_take]
    rw [List.filterMap_map];rfl
   rw [h1]
   exact List.Nodup.sublist ((List.take_sublist T ops.toList).filterMap _) g_)
  have he:a'=dX (ops.toList.zipIdx.take T) vs a:=by
   have ht:a'.tmps=(dX (ops.toList.zipIdx.take T) vs a).tmps:=by
    apply Array.ext_getElem?
    intro s
    by_cases hs:∃(k:Nat) (o:Oper),k<T∧ops[k]?=some o∧o.dst=some s
    ·obtain ⟨k,o,hk,ho,hd⟩:=hs
     rw [(DM k hk).2 o s ho hd]
     exact (jC.2.2.1 (o,k) ((qO _).2 ⟨hk,ho⟩) s hd (by rw [dc];exact u9 k o s ho hd)).symm
    ·rw [I.old s fun k o hl ho hd=>hs ⟨k,o,(Classical.byContradiction fun hk=>(by have:=tail k (Nat.le_of_not_lt hk);rw [this] at hl;cases hl)),ho,hd⟩]
     exact (jC.2.2.2 s fun p hp hd=>hs ⟨p.2,p.1,((qO p).1 hp).1,((qO p).1 hp).2,hd⟩).symm
   have hd:a'.defers=(dX (ops.toList.zipIdx.take T) vs a).defers:=I.sw.trans jC.2.1.symm
   cases a';cases h:dX (ops.toList.zipIdx.take T) vs a
   rw [h] at ht hd
   simp only at ht hd
   rw [ht,hd]
  rw [he]
  exact lh vs w' I.grown fun k hk=>(DM k hk).1
 have rest:∀(fuel:Nat) (listed:Array Bool) (a':Act) (w':World),Inv ops F a w listed a' w'->(∀j,T≤j->listed.getD j false=false)->(listed.toList.filter (· == false)).length=fuel->(∀k,k<T->listed.getD k false=true)->wpAny P .any ops Q fuel listed a' w':=by
  intro fuel listed a' w' I tail hc all
  have nn:listed=((List.range ops.size).map (decide<| · <T)).toArray:=by
   apply Array.ext_getElem?
   intro x
   by_cases hx:x<ops.size
   ·have FP:x<listed.size:=by rw [I.size];exact hx
    have hr:((List.range ops.size).map (decide<| · <T)).toArray[x]?=some (decide (x<T)):=by simp [hx]
    rw [hr]
    by_cases z7:x<T
    ·have:=all x z7;simp [FP] at this ⊢;rw [this,decide_eq_true z7]
    ·have:=tail x ah;simp [FP] at this ⊢;rw [this,decide_eq_false z7]
   ·rw [Array.getElem?_eq_none (by rw [I.size];omega),Array.getElem?_eq_none (by simp;omega)]
  have hlen:fuel=(ops.toList.drop T).length:=by
   rw [←hc,nn]
   simp only [List.length_drop,Array.length_toList,List.filter_map,List.length_map]
   have key:∀n,T≤n->((List.range n).filter ((fun x=>x == false) ∘ (decide<| · <T))).length=n-T:=by
    intro n hn
    induction n with
    | zero=>simp
    | succ n ih =>
     rw [List.range_succ,List.filter_append,List.length_append]
     by_cases Pl:T≤n
     ·rw [ih Pl]
      have:((fun x=>x == false) ∘ (decide<| · <T)) n=true:=by simp;omega
      rw [List.filter_cons_of_pos this];simp;omega
     ·obtain rfl:T=n+1:=ah
      have h1:(List.range n).filter ((fun x=>x == false) ∘ (decide<| · <n+1))= []:=by
       rw [List.filter_eq_nil_iff];intro x hx;have:=List.mem_range.1 hx;simp;omega
      have h2:[n].filter ((fun x=>x == false) ∘ (decide<| · <n+1))= []:=by
       rw [List.filter_eq_nil_iff];intro x hx;simp at hx;subst hx;simp
      rw [h1,h2];simp
   exact key ops.size ah
  rw [hlen]
  refine wpAny_of_seq (ops.toList.drop T) T listed a' w' (fun j=>by rw [List.getElem?_drop];simp) ?_ (done listed a' w' I all tail)
  rw [nn]
  simpa using O6
 intro fuel
 induction fuel with
 | zero =>
  intro listed a' w' I tail hc
  refine rest 0 listed a' w' I tail hc fun k hk=>?_
  cases hx:listed.getD k false with
  | true=>rfl
  | false =>
   exfalso
   have iw:k<listed.size:=by rw [I.size];omega
   have:false∈listed.toList.filter (· == false):=by
    refine List.mem_filter.2 ⟨?_,rfl⟩
    have h1:listed.toList[k]?=some false:=by simp [iw] at hx ⊢;exact hx
    exact List.mem_of_getElem? h1
   have:=List.length_pos_of_mem this
   omega
 | succ fuel ih =>
  intro listed a' w' I tail hc
  by_cases hex:∀k,k<T->listed.getD k false=true
  ·exact rest (fuel+1) listed a' w' I tail hc hex
  have OY:∃k,k<T∧listed.getD k false=false:=by
   refine Classical.byContradiction fun gu=>hex fun k hk=>?_
   cases hx:listed.getD k false with
   | true=>rfl
   | false=>exact absurd ⟨k,hk,hx⟩ gu
  obtain ⟨k0,xq,Hy⟩:=OY
  have PH:HeadInv .any ops T listed:=⟨I.size,fun j oj hj hl e he hb=>I.closed j oj hl hj e.on (by
    unfold ba
    exact List.mem_map.2 ⟨e,List.mem_filter.2 ⟨by simpa using he,hb⟩,rfl⟩),fun t ht O5=>getD_in (by rw [I.size];exact O5) (tail t ht)⟩
  have HW:listed.getD k0 true=false:=getD_in (by rw [I.size];omega) Hy
  refine ⟨fun hr=>(by
   obtain ⟨i,_,hi⟩:=ks listed a' w' I k0 xq Hy
   rw [hr] at hi;cases hi),fun i hi=>?_⟩
  have Pq:i<T:=Classical.byContradiction fun h=>tail_waits Jq A_ hT PH _ k0 rfl xq HW i ah hi
  obtain ⟨h0,o,ho,f_⟩:=mem_ready.1 hi
  have HX:i<listed.size:=by rw [I.size];exact (Array.getElem?_eq_some_iff.1 ho).1
  have Oi:listed.getD i false=false:=by simp [HX] at h0 ⊢;exact h0
  have iY:∀d∈ba o,listed.getD d false=true:=by
   intro d hd
   unfold ba at hd
   obtain ⟨e,he,rfl⟩:=List.mem_map.1 hd
   obtain ⟨LK,KC⟩:=List.mem_filter.1 he
   exact f_ e (by simpa using LK) KC
  have next:∀v fa,Below w'.heap.size w' fa->F i v fa->Inv ops F a w (listed.setIfInBounds i true) (a'.put o.dst v) fa:=by
   intro v fa hb hF
   have lists:∀k,(listed.setIfInBounds i true).getD k false=true->k=i∨listed.getD k false=true:=by
    intro k hk
    by_cases sg:i=k
    ·exact .inl sg.symm
    ·right;rw [getD_set_ne false sg] at hk;exact hk
   refine ⟨I.grown.pc hb,by simpa using I.size,?_,(pj ..).trans I.yC,(put_defers ..).trans I.sw,?_,?_,?_⟩
   ·intro k p hk hp d hd
    rcases lists k hk with rfl|hk
    ·rw [ho] at hp;injection hp with hp;subst hp
     exact getD_set_true (iY d hd)
    ·exact getD_set_true (I.closed k p hk hp d hd)
   ·intro k p s hk hp hs
    rcases lists k hk with rfl|hk
    ·rw [ho] at hp;injection hp with hp;subst hp
     refine ⟨v,?_,hF⟩
     rw [hs]
     exact l7 a' s v (by rw [I.yC,dc];exact u9 k _ s ho hs)
    ·obtain ⟨u,hu,Se⟩:=I.val k p s hk hp hs
     refine ⟨u,?_,mono k u w' fa hb Se⟩
     rw [gN a' o.dst s v fun he=>?_]
     ·exact hu
     ·have:=nQ g_ ho hp he hs
      subst this
      rw [Oi] at hk;cases hk
   ·intro k p hk hp hs
    rcases lists k hk with rfl|hk
    ·exact ⟨v,hF⟩
    ·obtain ⟨u,hu⟩:=I.Dx k p hk hp hs
     exact ⟨u,mono k u w' fa hb hu⟩
   ·intro s hs
    rw [gN a' o.dst s v (hs i o (by simp [HX]) ho)]
    exact I.old s fun k p hk hp=>hs k p (getD_set_true hk) hp
  have nh:∀j,T≤j->(listed.setIfInBounds i true).getD j false=false:=fun j hj=>by rw [getD_set_ne false ah];exact tail j hj
  have nm:((listed.setIfInBounds i true).toList.filter (· == false)).length=fuel:=by
   have Pn:((listed.setIfInBounds i true).toList.filter (· == false)).length+1=(listed.toList.filter (· == false)).length:=by
    rw [Array.toList_setIfInBounds]
    have i6:listed.toList[i]?=some false:=by simp [HX] at h0 ⊢;exact h0
    exact oV _ i i6
   omega
  have iF:=u7 i o Pq ho a' w' I.grown (fun d hd=>by
   have hl:=iY d hd
   cases hp:ops[d]? with
   | none =>
    have sK:d<listed.size:=by
     rcases Nat.lt_or_ge d listed.size with h|h
     ·exact h
     ·simp [Array.getElem?_eq_none h] at hl
    rw [I.size] at sK
    rw [Array.getElem?_eq_getElem sK] at hp;cases hp
   | some p =>
    cases hs:p.dst with
    | none=>exact .inr ⟨p,rfl,hs⟩
    | some s =>
     left
     obtain ⟨u,hu,hF⟩:=I.val d p s hl hp hs
     unfold rA
     rw [hp]
     simp only [Option.bind_some,hs]
     simp [hu];exact hF) (fun s hs=>by
   show a'.tmps.getD s undef=a.tmps.getD s undef
   have:a'.tmps[s]?=a.tmps[s]?:=I.old s fun k p hk hp hd=>by
    have vm:k<T:=Classical.byContradiction fun h=>(by have:=tail k (Nat.le_of_not_lt h);rw [this] at hk;cases hk)
    exact hs k p vm hp hd
   simp [this])
  unfold gE at iF
  unfold wpOp
  rw [ho]
  simp only
  by_cases hw:Region.wanted o (yielded ops a'.tmps)=true
  ·rw [if_pos hw] at iF ⊢
   left
   exact Oper.wp_mono (fun ru fa ⟨v,he,hb,hF⟩=>by
    subst he
    exact ih _ _ _ (next v fa hb hF) nh nm) iF
  ·rw [if_neg hw] at iF ⊢
   exact ih _ _ _ (next undef w' (Below.refl _ _) iF) nh nm
def og (ops:Array Oper) (T:Nat):Bool :=
 decide (T<ops.size) && Region.sinkB .any ops T && Region.chainB .any ops T && Region.seqB .any ops (ops.size-T) T ((List.range ops.size).map (decide<| · <T)).toArray
end
end Go.Proofs.YtjgbhhnghedgdaaGreatDoor
