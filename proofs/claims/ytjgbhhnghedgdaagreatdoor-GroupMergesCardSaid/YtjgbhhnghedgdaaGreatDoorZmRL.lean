import Derived.Test.YtjgbhhnghedgdaaGreatDoorZmRB
import Derived.Orders
import Derived.BigCall
import Derived.StillTail
set_option linter.all false
namespace Go.Proofs.YtjgbhhnghedgdaaGreatDoor
open Go.RowKit
def gZ (ρ :List (Nat×Nat)):AV->AV
 | .ref i=>match look ρ i with|some k=>.ref k|none=>.dead
 | .pre i n=>match look ρ i with|some k=>.pre k n|none=>.dead
 | .js i o n=>match look ρ i with|some k=>.js k o n|none=>.dead
 | .addr i o=>match look ρ i with|some k=>.addr k o|none=>.dead
 | .agg _=>.dead
 | .bk _=>.dead
 | x=>x
def EE (ρ :List (Nat×Nat)):AV->AV
 | .agg cs=>.agg (cs.map (gZ ρ))
 | x=>gZ ρ x
def se (ρ :List (Nat×Nat)):AV->AV
 | .bk cs=>.bk (cs.map (EE ρ))
 | x=>EE ρ x
def fm (ρ :List (Nat×Nat)) (r:Row):Row:=match r.pure with|true=>r|false=>⟨r.e,false,r.full,r.cells.map (gZ ρ)⟩
theorem lh (ρ :List (Nat×Nat)) (r:Row):(fm ρ r).e=r.e∧(fm ρ r).cells.length=r.cells.length∧(fm ρ r).pure=r.pure∧(fm ρ r).full=r.full:=by
 unfold fm;cases h:r.pure<;>simp [h]
section
variable {I I':Info} {S S':Nat->Prop} {w:World}
theorem AK (ρ :List (Nat×Nat)) (hI:∀i k x,look ρ i=some k->I i=some x->I' k=some x) (hS:∀b,S b->S' b):jX I I' S S' w (gZ ρ) where
 agg:=fun _=>rfl
 bk:=fun _=>rfl
 leaf:=fun v x hx h1 h2=>by
  have sZ:∀b,S b->S' b∧w.heap[b]?=w.heap[b]?:=fun b h=>⟨hS b h,rfl⟩
  cases hx with
  | rep h=>cases h with
   | val v=>exact .rep (.val v)
   | nil=>exact .rep .nil
   | agg vs cs _ _=>exact absurd rfl (h1 cs)
   | bk vs cs _ _=>exact absurd rfl (h2 cs)
   | arr vs cs hl h=>exact .rep ((cB.arr vs cs hl h).mono sZ)
   | sl A n c e us row hl hn hc hm ha h=>exact .rep ((cB.sl A n c e us row hl hn hc hm ha h).mono sZ)
   | pC A n e us row hl hn hm ha h=>exact .rep ((cB.pC A n e us row hl hn hm ha h).mono sZ)
   | ptr ad us row off hl hs ha h=>exact .rep ((cB.ptr ad us row off hl hs ha h).mono sZ)
   | kX f vs cs hl h=>exact .rep ((cB.kX f vs cs hl h).mono sZ)
  | agg vs cs _ _=>exact absurd rfl (h1 cs)
  | bk vs cs _ _=>exact absurd rfl (h2 cs)
  | ref i e m g l c hi hm hc hx hs =>
   cases h:look ρ i with
   | none=>simp only [gZ,h];exact .dead _
   | some k=>simp only [gZ,h];exact .ref k _ m g l c (hI _ _ _ h hi) hm hc hx hs
  | cD i e hi =>
   cases h:look ρ i with
   | none=>simp only [gZ,h];exact .dead _
   | some k=>simp only [gZ,h];exact .cD k _ (hI _ _ _ h hi)
  | pre i n e m g l c hi hn hm hc hx hs =>
   cases h:look ρ i with
   | none=>simp only [gZ,h];exact .dead _
   | some k=>simp only [gZ,h];exact .pre k n _ m g l c (hI _ _ _ h hi) hn hm hc hx hs
  | dB i e hi =>
   cases h:look ρ i with
   | none=>simp only [gZ,h];exact .dead _
   | some k=>simp only [gZ,h];exact .dB k _ (hI _ _ _ h hi)
  | js i off n e m l c g A hi hn hm hc hx ha =>
   cases h:look ρ i with
   | none=>simp only [gZ,h];exact .dead _
   | some k=>simp only [gZ,h];exact .js k off n _ m l c g A (hI _ _ _ h hi) hn hm hc hx ha
  | addr i off e m g hi =>
   cases h:look ρ i with
   | none=>simp only [gZ,h];exact .dead _
   | some k=>simp only [gZ,h];exact .addr k off _ m g (hI _ _ _ h hi)
  | dead v=>exact .dead _
theorem AJ (ρ :List (Nat×Nat)) (y:AV) (h:∀cs,y≠ .agg cs):EE ρ y=gZ ρ y:=by
 cases y with
 | agg cs=>exact absurd rfl (h cs)
 | _=>rfl
theorem AH (ρ :List (Nat×Nat)) (y:AV) (h:∀cs,y≠ .bk cs):se ρ y=EE ρ y:=by
 cases y with
 | bk cs=>exact absurd rfl (h cs)
 | _=>rfl
theorem Den.KU (ρ :List (Nat×Nat)) (hI:∀i k x,look ρ i=some k->I i=some x->I' k=some x) (hS:∀b,S b->S' b) {v:Value} {x:AV} (h:Den I S w v x):Den I' S' w v (se ρ x) :=
 (AK ρ hI hS).two h (fun _=>rfl) (AJ ρ) (fun _=>rfl) (AH ρ)
theorem bR.KU (ρ :List (Nat×Nat)) (hI:∀i k x,look ρ i=some k->I i=some x->I' k=some x) (hS:∀b,S b->S' b) {b:Option Nat} {r:Row} (h:bR I S w b r):bR I' S' w b (fm ρ r):=by
 obtain ⟨he,hl,hp,hf⟩:=lh ρ r
 cases b with
 | none =>
  have h:r.cells= []:=h
  show (fm ρ r).cells= []
  exact List.eq_nil_of_length_eq_zero (by rw [hl,h];rfl)
 | some g =>
  obtain ⟨cur,te,fr,hg,gJ,hle,m7,hc⟩:=h
  refine ⟨cur,te,fr,hg,gJ,by rw [hl];exact hle,fun h=>by rw [hl];exact m7 (by rw [←hf];exact h),fun j u x hu hx=>?_⟩
  unfold bh
  cases Mo:r.pure with
  | true =>
   have e:fm ρ r=r:=by unfold fm;rw [Mo]
   rw [e] at hx ⊢
   have:=hc j u x hu hx
   unfold bh at this
   rw [Mo] at this ⊢
   exact this.mono fun b hb=>⟨hS b hb,rfl⟩
  | false =>
   have e:(fm ρ r).cells=r.cells.map (gZ ρ):=by unfold fm;rw [Mo]
   rw [hp,Mo]
   rw [e,List.getElem?_map] at hx
   cases hj:r.cells[j]? with
   | none=>rw [hj] at hx;cases hx
   | some y =>
    rw [hj] at hx;injection hx with hx;subst hx
    have:=hc j u y hu hj
    unfold bh at this
    rw [Mo] at this
    exact (AK ρ hI hS).all this
end
def lQ (φ:Nat->Option Nat) (g:Nat):Prop:=∃id,φ id=some g
structure OA (S:Nat->Prop) (w:World) (φ:Nat->Option Nat) (H:List (Nat×Row)):Prop where
 sep:∀b,S b->b<w.heap.size∧ ¬lQ φ b
 only:∀id,look H id=none->φ id=none
 inj:∀id pw g,φ id=some g->φ pw=some g->id=pw
 lt:∀id g,φ id=some g->g<w.heap.size
 rows:∀id r,look H id=some r->bR (az H φ) S w (φ id) r
def Fy (S:Nat->Prop) (w w':World) (φ cA:Nat->Option Nat) (O:List Nat):Nat->Prop:=fun b=>(S b∨((w.heap.size≤b∨lQ φ b)∧b<w'.heap.size))∧b ∉ O∧ ¬lQ cA b
structure L9 (S:Nat->Prop) (w w':World) (φ cA:Nat->Option Nat) (O:List Nat) (H':List (Nat×Row)) (v:Value) (r:AV):Prop where
 os:w'.os=w.os
 tape:w'.tape=w.tape
 output:w'.output=w.output
 size:w.heap.size≤w'.heap.size
 block:∀b,b<w.heap.size-> ¬lQ φ b->w'.heap[b]?=w.heap[b]?
 nodup:O.Nodup
 own:∀g∈O,(w.heap.size≤g∨lQ φ g)∧g<w'.heap.size∧ ¬lQ cA g
 cY:∀id g,cA id=some g->w.heap.size≤g∨lQ φ g
 fix:∀id g,1000000000000≤id->cA id=some g->φ id=some g
 Ip:OA (Fy S w w' φ cA O) w' cA H'
 V5:s_ (Fy S w w' φ cA O) w' v r O
def gm (P:Program) (f:FuncId) (args:List AV) (H:List (Nat×Row)) (r:AV) (H':List (Nat×Row)):Prop :=
 ∀(w:World) (S:Nat->Prop) (φ:Nat->Option Nat) (vs:List Value),Good w->(∀id g,φ id=some g-> ¬TB g)->OA S w φ H->vs.length=args.length->(∀(j:Nat) v x,vs[j]?=some v->args[j]?=some x->Den (az H φ) S w v x) ->
  Calls P f vs.toArray w fun e w'=>∃v O cA,e= .returned v∧L9 S w w' φ cA O H' v r
def inv:List (Nat×Nat)->List (Nat×Nat)
 | []=>[]
 | (c,k)::l=>(k,c)::inv l
def A9 (i:Nat):List Nat->Bool
 | []=>false
 | j::l=>match Nat.beq i j with|true=>true|false=>A9 i l
theorem A8 (i:Nat):∀(l:List Nat),A9 i l=true↔i∈l
 | []=>by simp [A9]
 | j::l=>by
  simp only [A9]
  rcases bK i j with ⟨h,e⟩|⟨h,e⟩
  ·rw [h];simp [e]
  ·rw [h];simp only [List.mem_cons];rw [A8 i l];simp [e]
def uz:List Nat->Bool
 | []=>true
 | i::l=>match A9 i l with|true=>false|false=>uz l
theorem rn:∀ {l:List Nat},uz l=true->l.Nodup
 | [],_=>List.nodup_nil
 | i::l,h=>by
  simp only [uz] at h
  split at h
  ·cases h
  ·rename_i hn
   rw [List.nodup_cons]
   refine ⟨fun hm=>?_,rn h⟩
   rw [(A8 i l).2 hm] at hn;cases hn
theorem kM {α:Type} {k:Nat} {x:α}:∀ {l:List (Nat×α)},look l k=some x->(k,x)∈l
 | [],h=>by cases h
 | (j,y)::l,h=>by
  rw [aF] at h
  by_cases e:j=k
  ·rw [if_pos e] at h;injection h with h;subst e;subst h;exact List.mem_cons_self ..
  ·rw [if_neg e] at h;exact List.mem_cons_of_mem _ (kM h)
theorem jM {α:Type} {k:Nat} {x:α}:∀ {l:List (Nat×α)},(l.map (·.1)).Nodup->(k,x)∈l->look l k=some x
 | [],_,h=>by cases h
 | (j,y)::l,hn,h=>by
  rw [aF]
  simp only [List.map_cons,List.nodup_cons] at hn
  rcases List.mem_cons.1 h with h|h
  ·cases h;rw [if_pos rfl]
  ·have:j≠k:=fun e=>hn.1 (by rw [e];exact List.mem_map.2 ⟨(k,x),h,rfl⟩)
   rw [if_neg this];exact jM hn.2 h
theorem yj {c k:Nat}:∀ {l:List (Nat×Nat)},(k,c)∈inv l↔(c,k)∈l
 | []=>by simp [inv]
 | (x,y)::l=>by
  simp only [inv,List.mem_cons,yj (l:=l),Prod.mk.injEq]
  constructor<;>(rintro (⟨h1,h2⟩|h);exact .inl ⟨h2,h1⟩;exact .inr h)
theorem EN:∀(l:List (Nat×Nat)),(inv l).map (·.1)=l.map (·.2)
 | []=>rfl
 | (x,y)::l=>by simp [inv,EN l]
theorem jN {l:List (Nat×Nat)} (h1:(l.map (·.1)).Nodup) (h2:(l.map (·.2)).Nodup) {c k:Nat}:look (inv l) k=some c↔look l c=some k :=
 ⟨fun h=>jM h1 (yj.1 (kM h)),fun h=>jM (by rw [EN];exact h2) (yj.2 (kM h))⟩
def iU (s:AS) (ρ :List (Nat×Nat)):List (Nat×Nat)->Option (List (Nat×Row))
 | []=>some []
 | (c,k)::l=>match look s.H c,iU s ρ l with|some r,some m=>some ((k,fm ρ r)::m)|_,_=>none
def nY (ho:List (Nat×Row)) (ρ :List (Nat×Nat)):List (Nat×Nat)->Option (List (Nat×Row))
 | []=>some []
 | (c,k)::l=>match look ho k,nY ho ρ l with|some r,some m=>some ((c,fm ρ r)::m)|_,_=>none
theorem oV {s:AS} {ρ :List (Nat×Nat)}:∀ {l:List (Nat×Nat)} {Hl:List (Nat×Row)},iU s ρ l=some Hl-> ∀k,look Hl k=(look (inv l) k).bind fun c=>(look s.H c).map (fm ρ)
 | [],Hl,h,k=>by cases h;rfl
 | (c,k')::l,Hl,h,k=>by
  simp only [iU] at h
  split at h
  ·rename_i r m hr hm
   cases h
   simp only [inv,aF]
   by_cases e:k'=k
   ·rw [if_pos e,if_pos e];simp [hr]
   ·rw [if_neg e,if_neg e];exact oV hm k
  ·cases h
theorem oW {ho:List (Nat×Row)} {ρ :List (Nat×Nat)}:∀ {l:List (Nat×Nat)} {Hb:List (Nat×Row)},nY ho ρ l=some Hb-> ∀c,look Hb c=(look l c).bind (fun k=>(look ho k).map (fm ρ))∧ ∀k,look l c=some k-> ∃r,look ho k=some r
 | [],Hb,h,c=>by cases h;exact ⟨rfl,fun k h=>by cases h⟩
 | (c',k)::l,Hb,h,c=>by
  simp only [nY] at h
  split at h
  ·rename_i r m hr hm
   cases h
   simp only [aF]
   by_cases e:c'=c
   ·rw [if_pos e,if_pos e]
    exact ⟨by simp [hr],fun k' h=>by injection h with h;subst h;exact ⟨r,hr⟩⟩
   ·rw [if_neg e,if_neg e];exact oW hm c
  ·cases h
def fo:List (Nat×Nat)->List Nat
 | []=>[]
 | (c,k)::l=>match Nat.ble 1000000000000 k with|true=>fo l|false=>c::fo l
theorem ru {c:Nat}:∀ {l:List (Nat×Nat)},c∈fo l-> ∃k,(c,k)∈l∧k<1000000000000
 | [],h=>by cases h
 | (c',k)::l,h=>by
  simp only [fo] at h
  split at h
  ·obtain ⟨k',h1,h2⟩:=ru h;exact ⟨k',by simp [h1],h2⟩
  ·rename_i hb
   rcases List.mem_cons.1 h with rfl|h
   ·exact ⟨k,by simp,by
     rcases Nat.lt_or_ge k 1000000000000 with h|h
     ·exact h
     ·rw [Nat.ble_eq_true_of_le h] at hb;cases hb⟩
   ·obtain ⟨k',h1,h2⟩:=ru h;exact ⟨k',by simp [h1],h2⟩
theorem rk {c k:Nat} (hk:k<1000000000000):∀ {l:List (Nat×Nat)},(c,k)∈l->c∈fo l
 | [],h=>by cases h
 | (c',k')::l,h=>by
  simp only [fo]
  rcases List.mem_cons.1 h with h|h
  ·cases h
   have:Nat.ble 1000000000000 k=false:=by
    cases hb:Nat.ble 1000000000000 k with
    | false=>rfl
    | true=>have:=Nat.le_of_ble_eq_true hb;omega
   rw [this];simp
  ·have:=rk hk h
   split
   ·exact this
   ·simp [this]
def pS (s:AS) (ho:List (Nat×Row)):List (Nat×Nat)->Option (List Prop)
 | []=>some []
 | (c,k)::l=>match Nat.ble 1000000000000 k,pS s ho l with
  | true,some C=>(match look s.H c,look ho k with
   | some ⟨e,_,true,cs⟩,some ⟨e',_,true,Ky⟩=>(match Nat.beq e e' with|true=>some ((cs.length=Ky.length∧0<Ky.length)::C)|false=>none)
   | _,_=>none)
  | false,some C=>(match Nat.ble c 999999999999 with|true=>some C|false=>none)
  | _,none=>none
theorem pR {s:AS} {ho:List (Nat×Row)}:∀ {l:List (Nat×Nat)} {C:List Prop},pS s ho l=some C->bz C-> ∀c k,(c,k)∈l ->
  (1000000000000≤k∧ ∃r r',look s.H c=some r∧look ho k=some r'∧r.e=r'.e∧r.full=true∧r'.full=true∧r.cells.length=r'.cells.length∧0<r'.cells.length)∨(k<1000000000000∧c<1000000000000)
 | [],C,h,hC,c,k,hm=>by cases hm
 | (c',k')::l,C,h,hC,c,k,hm=>by
  simp only [pS] at h
  split at h
  ·rename_i C1 hb hr
   split at h
   ·rename_i e p cs e' p' Ky h1 h2
    split at h
    ·rename_i he
     cases h
     rcases List.mem_cons.1 hm with hm|hm
     ·cases hm
      exact .inl ⟨Nat.le_of_ble_eq_true hb,_,_,h1,h2,Nat.eq_of_beq_eq_true he,rfl,rfl,hC.1.1,hC.1.2⟩
     ·exact pR hr hC.2 c k hm
    ·cases h
   ·cases h
  ·rename_i C1 hb hr
   split at h
   ·rename_i hc
    cases h
    rcases List.mem_cons.1 hm with hm|hm
    ·obtain ⟨rfl,rfl⟩:c=c'∧k=k':=by simpa using hm
     have:=Nat.le_of_ble_eq_true hc
     have hk:k<1000000000000:=by
      rcases Nat.lt_or_ge k 1000000000000 with h|h
      ·exact h
      ·rw [Nat.ble_eq_true_of_le h] at hb;cases hb
     exact .inr ⟨hk,ah⟩
    ·exact pR hr hC c k hm
   ·cases h
  ·cases h
def zy (ln:List (Nat×Nat)):Bool:=match uz (ln.map (·.1)) with|true=>uz (ln.map (·.2))|false=>false
theorem D7 {ln:List (Nat×Nat)} (h:zy ln=true):(ln.map (·.1)).Nodup∧(ln.map (·.2)).Nodup:=by
 unfold zy at h
 split at h
 ·rename_i h1;exact ⟨rn h1,rn h⟩
 ·cases h
def pE {α:Type} (H:List (Nat×α)):List Nat->List (Nat×α)
 | []=>H
 | i::l=>pE (cP H i) l
theorem su {α:Type}:∀(l:List Nat) (H:List (Nat×α)) (i:Nat),look (pE H l) i=if i∈l then none else look H i
 | [],H,i=>by simp [pE]
 | j::l,H,i=>by
  simp only [pE]
  rw [su l,bJ]
  by_cases e:j=i
  ·subst e;simp
  ·by_cases h:i∈l
   ·simp [h]
   ·simp [h,e,Ne.symm e]
def jd (s:AS) (ln:List (Nat×Nat)) (Hb:List (Nat×Row)):AS:=⟨(a6 s (fo ln)).F,Hb++pE (a6 s (fo ln)).H (ln.map (·.1))⟩
def ov (P:Program) (n:Nat) (s:AS) (d:Option Nat) (c:Callee) (args:List Operand) (h:Hint):Option (AS×List Prop) :=
 match callee s c,h.av with
 | some f,some r=>(match ig P f,fT s (((args.map (bp s)).flatMap oI).filter fun i=> !(A9 i (h.ln.map (·.1)))) with
  | true,some s1=>(match iU s1 h.ln h.ln,nY h.ho (inv h.ln) h.ln,zy h.ln,pS s1 h.ho h.ln with
   | some Hl,some Hb,true,some C=>(match d with
    | some d=>(match nodupB ((bO d r).2.map (·.1)),gr n ⟨(a6 (jd s1 h.ln Hb) ((bO d r).2.map (·.1))).F,(bO d r).2++(a6 (jd s1 h.ln Hb) ((bO d r).2.map (·.1))).H⟩ (some d) (bO d r).1 with
     | true,some s'=>some (s',gm P f (args.map fun x=>se h.ln (bp s1 x)) Hl r h.ho::C)
     | _,_=>none)
    | none=>some (jd s1 h.ln Hb,gm P f (args.map fun x=>se h.ln (bp s1 x)) Hl r h.ho::C))
   | _,_,_,_=>none)
  | _,_=>none)
 | _,_=>none
section
variable {P:Program} {S0:bn} {w0 w w':World} {n:Nat} {s:AS} {a:Act} {φ:Nat->Option Nat}
theorem xQ:∀(l:List Nat) (s:AS) (φ:Nat->Option Nat) (O:List Nat),aO S0 w0 n O s a w φ-> ∃O',aO S0 w0 n O' (a6 s l) a w (fun id=>if id∈l then none else φ id)∧(∀g∈O',g∈O∨ ∃i∈l,φ i=some g)∧(∀g∈O,g∈O')∧(∀i∈l,∀g,φ i=some g->g∈O') ∧
  (∀id q,look (a6 s l).H id=some q->id ∉ l∧ ∃q0,look s.H id=some q0∧q.e=q0.e∧q.cells.length=q0.cells.length∧q.full=q0.full)∧(∀id q0,id ∉ l->look s.H id=some q0-> ∃q,look (a6 s l).H id=some q)
 | [],s,φ,O,h=>by
  have e:(fun id=>if id∈([]:List Nat) then none else φ id)=φ:=by funext id;simp
  rw [e]
  exact ⟨O,h,fun g hg=>.inl hg,fun g hg=>hg,fun i hi=>(by cases hi),fun id q hq=>⟨by simp,q,hq,rfl,rfl,rfl⟩,fun id q0 _ hq=>⟨q0,hq⟩⟩
 | i::l,s,φ,O,h=>by
  have h1:=h.jx i (match φ i with|some g=>g::O|none=>O) rfl
  obtain ⟨O',h2,h3,h4,h5,h6,h7⟩:=xQ l _ _ _ h1
  have j6:∀id,look (cp i s).H id=if i=id then none else (look s.H id).map (cK i):=fun id=>by
   unfold cp;rw [cy,bJ];by_cases e:i=id<;>simp [e]
  refine ⟨O',?_,fun g hg=>?_,fun g hg=>h4 g ?_,fun j hj g hg=>?_,fun id q hq=>?_,fun id q0 hid hq=>?_⟩
  ·have:(fun id=>if id∈i::l then none else φ id)=fun id=>if id∈l then none else erase φ i id:=by
    funext id
    unfold erase
    by_cases e1:id=i<;>by_cases e2:id∈l<;>simp [e1,e2]
   rw [this];exact h2
  ·rcases h3 g hg with h|⟨j,hj,ja⟩
   ·cases ct:φ i with
    | none=>rw [ct] at h;exact .inl h
    | some g0 =>
     rw [ct] at h
     rcases List.mem_cons.1 h with rfl|h
     ·exact .inr ⟨i,by simp,ct⟩
     ·exact .inl h
   ·unfold erase at ja
    split at ja
    ·cases ja
    ·exact .inr ⟨j,by simp [hj],ja⟩
  ·cases ct:φ i with
   | none=>exact hg
   | some g0=>simp [hg]
  ·by_cases e:j=i
   ·subst e;exact h4 g (by rw [hg];simp)
   ·rcases List.mem_cons.1 hj with hj|hj
    ·exact absurd hj e
    ·exact h5 j hj g (by unfold erase;rw [if_neg e];exact hg)
  ·obtain ⟨k1,q1,k2,k3,k4,k5⟩:=h6 id q hq
   rw [j6] at k2
   by_cases e:i=id
   ·rw [if_pos e] at k2;cases k2
   ·rw [if_neg e] at k2
    cases hl:look s.H id with
    | none=>rw [hl] at k2;cases k2
    | some q0 =>
     rw [hl] at k2;injection k2 with k2
     obtain ⟨m1,m2,m3,m4⟩:=fQ i q0
     exact ⟨by simp [Ne.symm e,k1],q0,rfl,by rw [k3,←k2,m1],by rw [k4,←k2,m2],by rw [k5,←k2,m4]⟩
  ·simp only [List.mem_cons,not_or] at hid
   exact h7 id (cK i q0) hid.2 (by rw [j6,if_neg (Ne.symm hid.1),hq];rfl)
def eZ (ln:List (Nat×Nat)) (φ:Nat->Option Nat):Nat->Option Nat:=fun k=>(look (inv ln) k).bind φ
theorem K8 (hs:aO S0 w0 n [] s a w φ) {ln:List (Nat×Nat)} (h1:(ln.map (·.1)).Nodup) (h2:(ln.map (·.2)).Nodup) {Hl:List (Nat×Row)} (hl:iU s ln ln=some Hl) :
  OA (aQ S0 w φ []) w (eZ ln φ) Hl∧(∀i k x,look ln i=some k->az s.H φ i=some x->az Hl (eZ ln φ) k=some x):=by
 have lH:=oV hl
 have hI:∀i k x,look ln i=some k->az s.H φ i=some x->az Hl (eZ ln φ) k=some x:=by
  intro i k x Mw hx
  obtain ⟨e,m,b⟩:=x
  obtain ⟨r,hr,he,hm,hb⟩:=aT hx
  have sW:=(jN h1 h2).2 Mw
  rw [bu (r:=fm ln r) (by rw [lH,sW];simp [hr])]
  obtain ⟨m1,m2,-,-⟩:=lh ln r
  rw [m1,m2,he,hm]
  unfold eZ;rw [sW];simp [hb]
 have back:∀k g,eZ ln φ k=some g-> ∃c,look (inv ln) k=some c∧φ c=some g:=by
  intro k g hk
  unfold eZ at hk
  cases hc:look (inv ln) k with
  | none=>rw [hc] at hk;cases hk
  | some c=>rw [hc] at hk;exact ⟨c,rfl,hk⟩
 refine ⟨⟨fun b hb=>⟨hb.1,fun ⟨k,hk⟩=>?_⟩,fun k hk=>?_,fun k k' g hk oK=>?_,fun k g hk=>?_,fun k r hr=>?_⟩,hI⟩
 ·obtain ⟨c,-,hc⟩:=back k b hk
  exact hb.2.2.1 c hc
 ·rw [lH] at hk
  cases hc:look (inv ln) k with
  | none=>unfold eZ;rw [hc];rfl
  | some c =>
   rw [hc] at hk
   have Vy:look s.H c=none:=by simpa using hk
   unfold eZ;rw [hc];exact hs.only c Vy
 ·obtain ⟨c,hc,hg⟩:=back k g hk
  obtain ⟨c',la,ja⟩:=back k' g oK
  have e:=hs.inj c c' g hg ja
  subst e
  have e1:=(jN h1 h2).1 hc
  have e2:=(jN h1 h2).1 la
  rw [e1] at e2;injection e2
 ·obtain ⟨c,-,hc⟩:=back k g hk
  exact (hs.cY c g hc).2
 ·rw [lH] at hr
  cases hc:look (inv ln) k with
  | none=>rw [hc] at hr;cases hr
  | some c =>
   rw [hc] at hr
   cases SF:look s.H c with
   | none=>simp [SF] at hr
   | some q =>
    simp [SF] at hr
    subst hr
    have aR:=(hs.rows c q SF).KU ln hI (fun b hb=>hb)
    have e:eZ ln φ k=φ c:=by unfold eZ;rw [hc];rfl
    rw [e];exact aR
theorem F7 (hs:aO S0 w0 n [] s a w φ) {ln:List (Nat×Nat)} (h1:(ln.map (·.1)).Nodup) (h2:(ln.map (·.2)).Nodup) {ho:List (Nat×Row)} {Hb:List (Nat×Row)} (hb:nY ho (inv ln) ln=some Hb)
  {C:List Prop} (hv:pS s ho ln=some C) (hC:bz C) {cA:Nat->Option Nat} {O:List Nat} {v:Value} {r:AV} (hB:L9 (aQ S0 w φ []) w w' (eZ ln φ) cA O ho v r) :
  ∃ xD,aO S0 w0 n O (jd s ln Hb) a w' xD∧s_ (aQ S0 w' xD O) w' v r O:=by
 obtain ⟨O0,hA,VI,-,SR,Bm,TV⟩:=xQ (fo ln) s φ [] hs
 generalize RO:(fun id=>if id∈fo ln then none else φ id)=OD at hA
 have eA:∀id,OD id=if id∈fo ln then none else φ id:=fun id=>by rw [←RO]
 have Ud:=fun c=>oW hb c
 let xD:Nat->Option Nat:=fun id=>match look ln id with|some k=>cA k|none=>φ id
 have Kw:∀id k,look ln id=some k->xD id=cA k:=fun id k h=>by show (match look ln id with|some k=>cA k|none=>φ id)=_;rw [h]
 have Kx:∀id,look ln id=none->xD id=φ id:=fun id h=>by show (match look ln id with|some k=>cA k|none=>φ id)=_;rw [h]
 have inr:∀g,lQ (eZ ln φ) g-> ∃c k,look ln c=some k∧φ c=some g:=by
  rintro g ⟨k,hk⟩
  unfold eZ at hk
  cases hc:look (inv ln) k with
  | none=>rw [hc] at hk;cases hk
  | some c=>rw [hc] at hk;exact ⟨c,k,(jN h1 h2).1 hc,hk⟩
 have H5:∀c,c∈fo ln-> ∃k,look ln c=some k∧k<1000000000000:=fun c hc=>by
  obtain ⟨k,hm,hk⟩:=ru hc
  exact ⟨k,jM h1 hm,hk⟩
 have F2:∀b,aQ S0 w OD O0 b->aQ S0 w' xD O b∧w'.heap[b]?=w.heap[b]?:=by
  intro b ⟨f1,f2,f3,f4⟩
  have fM:¬lQ (eZ ln φ) b:=fun h=>by
   obtain ⟨c,k,xj,hc⟩:=inr b h
   by_cases ho:c∈fo ln
   ·exact f2 (SR c ho b hc)
   ·exact f3 c (by rw [eA,if_neg ho];exact hc)
  refine ⟨⟨Nat.lt_of_lt_of_le f1 hB.size,fun hm=>?_,fun id hid=>?_,f4⟩,hB.block b f1 fM⟩
  ·rcases (hB.own b hm).1 with h|h
   ·omega
   ·exact fM h
  ·cases hl:look ln id with
   | some k =>
    rw [Kw id k hl] at hid
    rcases hB.cY k b hid with h|h
    ·omega
    ·exact fM h
   | none =>
    rw [Kx id hl] at hid
    have:id ∉ fo ln:=fun hm=>by obtain ⟨k,h,-⟩:=H5 id hm;rw [hl] at h;cases h
    exact f3 id (by rw [eA,if_neg this];exact hid)
 have F5:∀b,Fy (aQ S0 w φ []) w w' (eZ ln φ) cA O b->aQ S0 w' xD O b:=by
  intro b ⟨g1,g2,g3⟩
  have dk:b<w'.heap.size:=by
   rcases g1 with h|h
   ·exact Nat.lt_of_lt_of_le h.1 hB.size
   ·exact h.2
  refine ⟨dk,g2,fun id hid=>?_,?_⟩
  ·cases hl:look ln id with
   | some k=>rw [Kw id k hl] at hid;exact g3 ⟨k,hid⟩
   | none =>
    rw [Kx id hl] at hid
    rcases g1 with h|⟨h|h,-⟩
    ·exact h.2.2.1 id hid
    ·have:=(hs.cY id b hid).2;omega
    ·obtain ⟨c,k,xj,hc⟩:=inr b h
     have:=hs.inj id c b hid hc
     subst this;rw [hl] at xj;cases xj
  ·rcases g1 with h|⟨h|h,-⟩
   ·exact h.2.2.2
   ·exact hs.new b (.inl (Nat.le_trans hs.cZ.size h))
   ·obtain ⟨c,k,xj,hc⟩:=inr b h
    exact hs.new b (hs.cY c b hc).1.2
 have Ba:∀id k,look ln id=some k-> ∃r',look ho k=some r'∧look (jd s ln Hb).H id=some (fm (inv ln) r'):=by
  intro id k hk
  obtain ⟨e1,e2⟩:=Ud id
  obtain ⟨r',iq⟩:=e2 k hk
  refine ⟨r',iq,?_⟩
  unfold jd
  rw [bQ,e1,hk]
  simp [iq]
 have Ij:∀id,look ln id=none->look (jd s ln Hb).H id=look (a6 s (fo ln)).H id:=by
  intro id hk
  obtain ⟨e1,-⟩:=Ud id
  unfold jd
  rw [bQ,e1,hk,su]
  have:id ∉ ln.map (·.1):=fun hm=>by
   obtain ⟨⟨c,k⟩,Mr,e⟩:=List.mem_map.1 hm
   have e:c=id:=e
   subst e
   rw [jM h1 Mr] at hk;cases hk
  simp [this]
 have vars:∀id k,look ln id=some k->1000000000000≤k-> ∃r0 r' g,look s.H id=some r0∧look ho k=some r'∧r0.e=r'.e∧r0.full=true∧r'.full=true∧r0.cells.length=r'.cells.length∧cA k=some g∧φ id=some g:=by
  intro id k hk uW
  rcases pR hv hC id k (kM hk) with ⟨-,r0,r',e1,e2,e3,e4,e5,e6,e7⟩|⟨h,-⟩
  ·have aR:=hB.Ip.rows k r' e2
   cases hg:cA k with
   | none =>
    rw [hg] at aR
    have:r'.cells= []:=aR
    rw [this] at e7;simp at e7
   | some g =>
    have:=hB.fix k g uW hg
    unfold eZ at this
    rw [(jN h1 h2).2 hk] at this
    exact ⟨r0,r',g,e1,e2,e3,e4,e5,e6,rfl,this⟩
  ·omega
 have F3:∀id x,az (a6 s (fo ln)).H OD id=some x->az (jd s ln Hb).H xD id=some x:=by
  intro id x hx
  obtain ⟨e,m,b⟩:=x
  obtain ⟨q,hq,he,hm,rE⟩:=aT hx
  obtain ⟨fM,q0,Q_,T8,Mq,-⟩:=Bm id q hq
  rw [eA,if_neg fM] at rE
  cases hl:look ln id with
  | none=>rw [bu (r:=q) (by rw [Ij id hl];exact hq),Kx id hl,he,hm,rE]
  | some k =>
   have uW:1000000000000≤k:=by
    rcases Nat.lt_or_ge k 1000000000000 with h|h
    ·exact absurd (rk h (kM hl)) fM
    ·exact h
   obtain ⟨r0,r',g,f1,f2,f3,-,-,f6,f7,f8⟩:=vars id k hl uW
   rw [Q_] at f1;injection f1 with f1;subst f1
   obtain ⟨UF,f9,f10⟩:=Ba id k hl
   rw [f2] at f9;injection f9 with f9;subst f9
   obtain ⟨m1,m2,-,-⟩:=lh (inv ln) r'
   rw [bu f10,m1,m2,Kw id k hl,f7,←f3,←T8,he,←f6,←Mq,hm,←rE,f8]
 have F4:∀id e m g,az (a6 s (fo ln)).H OD id=some (e,m,some g)->a7 w' g=a7 w g:=by
  intro id e m g hx
  obtain ⟨q,hq,he,hm,rE⟩:=aT hx
  obtain ⟨fM,q0,Q_,T8,Mq,-⟩:=Bm id q hq
  rw [eA,if_neg fM] at rE
  cases hl:look ln id with
  | none =>
   have P3:¬lQ (eZ ln φ) g:=fun h=>by
    obtain ⟨c,k,xj,hc⟩:=inr g h
    have:=hs.inj id c g rE hc
    subst this;rw [hl] at xj;cases xj
   unfold a7;rw [hB.block g (hs.cY id g rE).2 P3]
  | some k =>
   have uW:1000000000000≤k:=by
    rcases Nat.lt_or_ge k 1000000000000 with h|h
    ·exact absurd (rk h (kM hl)) fM
    ·exact h
   obtain ⟨r0,r',g',f1,f2,-,f4,f5,f6,f7,f8⟩:=vars id k hl uW
   rw [f8] at rE;injection rE with rE;subst rE
   have TW:=hs.rows id r0 f1
   rw [f8] at TW
   obtain ⟨cur,te,fr,u1,-,-,u2,-⟩:=TW
   have iq:=hB.Ip.rows k r' f2
   rw [f7] at iq
   obtain ⟨cur',Uz,Rn,v1,-,-,v2,-⟩:=iq
   unfold a7;rw [u1,v1]
   show cur'.size=cur.size
   rw [u2 f4,v2 f5,f6]
 refine ⟨xD,⟨hA.jS,hA.jV,⟨hB.os.trans hs.cZ.os,hB.tape.trans hs.cZ.tape,hB.output.trans hs.cZ.output,Nat.le_trans hs.cZ.size hB.size,fun k hk hx=>?_,hs.cZ.g0,hs.cZ.gx⟩,fun i av hi=>(hA.cC i av hi).mono F3 F2 F4,fun id q hq=>?_,fun id hid=>?_,fun id pw g hg ja=>?_,fun id g hg=>?_,fun id g hg hm=>?_,hs.new⟩,hB.V5.mono F5⟩
 ·have P3:¬lQ (eZ ln φ) k:=fun h=>by
   obtain ⟨c,k',xj,hc⟩:=inr k h
   rcases (hs.cY c k hc).1.2 with h|h
   ·omega
   ·exact hx h
  rw [hB.block k (Nat.lt_of_lt_of_le hk hs.cZ.size) P3]
  exact hs.cZ.block k hk hx
 ·cases hl:look ln id with
  | some k =>
   obtain ⟨r',f2,f10⟩:=Ba id k hl
   rw [f10] at hq;injection hq with hq;subst hq
   rw [Kw id k hl]
   refine (hB.Ip.rows k r' f2).KU (inv ln) (fun i c x Vi hx=>?_) F5
   obtain ⟨e,m,b⟩:=x
   obtain ⟨q,hq,he,hm,rE⟩:=aT hx
   have Ua:=(jN h1 h2).1 Vi
   obtain ⟨UF,f3,f4⟩:=Ba c i Ua
   rw [hq] at f3;injection f3 with f3;subst f3
   obtain ⟨m1,m2,-,-⟩:=lh (inv ln) q
   rw [bu f4,m1,m2,Kw c i Ua,he,hm,rE]
  | none =>
   rw [Ij id hl] at hq
   have fM:id ∉ fo ln:=(Bm id q hq).1
   have aR:=hA.rows id q hq
   have e:OD id=xD id:=by rw [eA,if_neg fM,Kx id hl]
   unfold bR at aR ⊢
   rw [←e]
   cases hg:OD id with
   | none=>rw [hg] at aR;exact aR
   | some g =>
    rw [hg] at aR
    obtain ⟨cur,te,fr,u1,u2,u3,u4,u5⟩:=aR
    have ct:φ id=some g:=by rw [eA,if_neg fM] at hg;exact hg
    have P3:¬lQ (eZ ln φ) g:=fun h=>by
     obtain ⟨c,k,xj,hc⟩:=inr g h
     have:=hs.inj id c g ct hc
     subst this;rw [hl] at xj;cases xj
    refine ⟨cur,te,fr,(hB.block g (hs.cY id g ct).2 P3).trans u1,u2,u3,u4,fun j u x hu hx=>?_⟩
    have:=u5 j u x hu hx
    unfold bh at this ⊢
    cases hp:q.pure with
    | true=>rw [hp] at this;exact this.mono F2
    | false=>rw [hp] at this;exact this.mono F3 F2 F4
 ·cases hl:look ln id with
  | some k=>obtain ⟨r',-,f⟩:=Ba id k hl;rw [f] at hid;cases hid
  | none =>
   rw [Ij id hl] at hid
   have fM:id ∉ fo ln:=fun hm=>by obtain ⟨k,h,-⟩:=H5 id hm;rw [hl] at h;cases h
   have:=hA.only id hid
   rw [eA,if_neg fM] at this
   rw [Kx id hl,this]
 ·have mixed:∀i j k,look ln i=some k->look ln j=none->cA k=some g->φ j=some g->False:=by
   intro i j k hi hj Jc O5
   rcases hB.cY k g Jc with h|h
   ·have:=(hs.cY j g O5).2;omega
   ·obtain ⟨c,k',xj,hc⟩:=inr g h
    have:=hs.inj j c g O5 hc
    subst this;rw [hj] at xj;cases xj
  cases hl:look ln id with
  | some k =>
   rw [Kw id k hl] at hg
   cases rC:look ln pw with
   | some k' =>
    rw [Kw pw k' rC] at ja
    have:=hB.Ip.inj k k' g hg ja
    subst this
    have e1:=(jN h1 h2).2 hl
    have e2:=(jN h1 h2).2 rC
    rw [e1] at e2;injection e2
   | none=>rw [Kx pw rC] at ja;exact (mixed id pw k hl rC hg ja).elim
  | none =>
   rw [Kx id hl] at hg
   cases rC:look ln pw with
   | some k'=>rw [Kw pw k' rC] at ja;exact (mixed pw id k' rC hl ja hg).elim
   | none=>rw [Kx pw rC] at ja;exact hs.inj id pw g hg ja
 ·cases hl:look ln id with
  | none =>
   rw [Kx id hl] at hg
   have:=hs.cY id g hg
   exact ⟨this.1,Nat.lt_of_lt_of_le this.2 hB.size⟩
  | some k =>
   rw [Kw id k hl] at hg
   refine ⟨⟨?_,?_⟩,hB.Ip.lt k g hg⟩
   ·rcases pR hv hC id k (kM hl) with ⟨uW,-⟩|⟨-,h⟩
    ·obtain ⟨r0,r',g',-,-,-,-,-,-,f7,f8⟩:=vars id k hl uW
     rw [hg] at f7;injection f7 with f7;subst f7
     exact (hs.cY id g f8).1.1
    ·exact .inl h
   ·rcases hB.cY k g hg with h|h
    ·exact .inl (Nat.le_trans hs.cZ.size h)
    ·obtain ⟨c,k',xj,hc⟩:=inr g h
     exact (hs.cY c g hc).1.2
 ·obtain ⟨o1,o2,o3⟩:=hB.own g hm
  cases hl:look ln id with
  | some k=>rw [Kw id k hl] at hg;exact o3 ⟨k,hg⟩
  | none =>
   rw [Kx id hl] at hg
   rcases o1 with h|h
   ·have:=(hs.cY id g hg).2;omega
   ·obtain ⟨c,k',xj,hc⟩:=inr g h
    have:=hs.inj id c g hg hc
    subst this;rw [hl] at xj;cases xj
end
section
variable {P:Program} {n:Nat} {s:AS} {o:Oper} {h:Hint} {q:AS×List Prop}
theorem vq {c:Callee} {xs:Array Operand} {ts:Array TypeId} (ho:o.op= .call ⟨c,xs,ts⟩) (hr:ov P n s o.dst c xs.toList h=some q):mi P n s o q.1 q.2:=by
 intro hC S0 w0 a w Q ⟨φ,hs⟩
 unfold ov at hr
 split at hr
 ·rename_i f r hc _
  split at hr
  ·rename_i s1 hE IH
   split at hr
   ·rename_i Hl Hb C hl hb xj hv
    obtain ⟨h1,h2⟩:=D7 xj
    obtain ⟨iI,gV⟩:=fS _ _ _ _ IH hs
    obtain ⟨P9,hI⟩:=K8 gV h1 h2 hl
    have cw:=jq hs hc ho hE
    have main:gm P f (xs.toList.map fun x=>se h.ln (bp s1 x)) Hl r h.ho->bz C-> ∀s',((∃d,o.dst=some d∧nodupB ((bO d r).2.map (·.1))=true∧gr n ⟨(a6 (jd s1 h.ln Hb) ((bO d r).2.map (·.1))).F,(bO d r).2++(a6 (jd s1 h.ln Hb) ((bO d r).2.map (·.1))).H⟩ (some d) (bO d r).1=some s')∨(o.dst=none∧s'=jd s1 h.ln Hb))->o.wp P a w (fun a' w'=>ix S0 w0 n s' a' w') Q:=by
     intro nM Fb s' hd
     unfold Oper.wp
     rw [cw]
     have m9:=nM w (aQ S0 w iI []) (eZ h.ln iI) (xs.toList.map a.eval) gV.cZ.mP (fun id g hg hb=>by
      obtain ⟨k,hk⟩:∃k,iI k=some g:=by
       unfold eZ at hg
       cases hl:look (inv h.ln) id with
       | none=>rw [hl] at hg;cases hg
       | some k=>rw [hl] at hg;exact ⟨k,hg⟩
      rcases (gV.cY k g hk).1.2 with h1|h1
      ·have:=gV.cZ.g0.lt hb;omega
      ·exact gV.cZ.gx g hb h1) P9 (by simp) (fun j v x hv hx=>by
      rw [List.getElem?_map] at hv hx
      cases hj:xs.toList[j]? with
      | none=>rw [hj] at hv;cases hv
      | some y =>
       rw [hj] at hv hx
       injection hv with hv;injection hx with hx;subst hv;subst hx
       exact (gV.bp y).KU h.ln hI (fun b hb=>hb))
     have e:(xs.toList.map a.eval).toArray=xs.map a.eval:=by apply Array.ext';simp
     rw [e] at m9
     refine m9.mono ?_
     rintro en w' ⟨v,O,cA,rfl,hB⟩
     show ix S0 w0 n s' (a.put o.dst v) w'
     obtain ⟨xD,h3,uV⟩:=F7 gV h1 h2 hb hv Fb hB
     have mL:∀g∈O,(w0.heap.size≤g∨S0.X g)∧g<w'.heap.size:=fun g hg=>by
      obtain ⟨o1,o2,-⟩:=hB.own g hg
      refine ⟨?_,o2⟩
      rcases o1 with h|⟨k,hk⟩
      ·exact .inl (Nat.le_trans gV.cZ.size h)
      ·unfold eZ at hk
       cases hc:look (inv h.ln) k with
       | none=>rw [hc] at hk;cases hk
       | some c=>rw [hc] at hk;exact (gV.cY c g hk).1.2
     rcases hd with ⟨d,hd,xf,ez⟩|⟨hd,rfl⟩
     ·obtain ⟨vR,h4,hF,IX⟩:=kg ((bO d r).2.map (·.1)) _ xD O h3
      have Rm:aO S0 w0 n (O++ []) (a6 (jd s1 h.ln Hb) ((bO d r).2.map (·.1))) a w' vR:=by rw [List.append_nil];exact h4
      obtain ⟨Uv,h5,h6,-⟩:=wL (a6 (jd s1 h.ln Hb) ((bO d r).2.map (·.1))) vR O [] v r d Rm (by rw [List.append_nil];exact uV.mono hF) (by rw [List.append_nil];exact hB.nodup) mL (fun i hi=>⟨IX i (.inr hi),rm xf i hi⟩) (iD xf)
      rw [hd]
      exact ⟨Uv,dX h5 h6 ez⟩
     ·rw [hd]
      have key:∀(O:List Nat),aO S0 w0 n O (jd s1 h.ln Hb) a w' xD->aO S0 w0 n [] (jd s1 h.ln Hb) a w' xD:=by
       intro O
       induction O with
       | nil=>exact fun h=>h
       | cons g O ih=>exact fun h=>ih h.vf
      have h5:=key O h3
      exact ⟨xD,⟨h5.jS,h5.jV,h5.cZ,h5.cC,h5.rows,h5.only,h5.inj,h5.cY,h5.apart,h5.new⟩⟩
    split at hr
    ·rename_i d hd
     split at hr
     ·rename_i s' xf ez
      cases hr
      exact main hC.1 hC.2 s' (.inl ⟨d,hd,xf,ez⟩)
     ·cases hr
    ·rename_i hd
     cases hr
     exact main hC.1 hC.2 _ (.inr ⟨hd,rfl⟩)
   ·cases hr
  ·cases hr
 ·cases hr
end
def bl (o:Oper):List Nat:=(o.after.toList.filter (Region.binds .any)).map (·.on)
def r_ (ops:Array Oper) (a:Act) (d:Nat):Value :=
 match (ops[d]?).bind (·.dst) with
 | some s=>a.tmps.getD s undef
 | none=>undef
def lK (ops:Array Oper) (n:Nat):Bool :=
 (ops.toList.zipIdx.all fun p=>(bl p.1).all (· <p.2)) && (ops.toList.filterMap (·.dst)).Nodup && (ops.toList.all fun o=>match o.dst with|some s=>decide (s<n)|none=>true)
def eJ (l:List (Oper×Nat)) (vs:Nat->Value) (a:Act):Act:=l.foldl (fun a p=>a.put p.1.dst (vs p.2)) a
theorem mB (a:Act) (s:Nat) (v:Value) (h:s<a.tmps.size):(a.put (some s) v).tmps[s]?=some v:=by
 simp [Act.put,h]
theorem g_ (a:Act) (d:Option Nat) (s:Nat) (v:Value) (h:d≠some s):(a.put d v).tmps[s]?=a.tmps[s]?:=by
 cases d with
 | none=>rfl
 | some t =>
  have:t≠s:=fun e=>h (by rw [e])
  simp [Act.put,Array.getElem?_setIfInBounds_ne this]
theorem p_ (a:Act) (d:Option Nat) (v:Value):(a.put d v).tmps.size=a.tmps.size:=by
 cases d<;>simp [Act.put]
theorem put_defers (a:Act) (d:Option Nat) (v:Value):(a.put d v).defers=a.defers:=by
 cases d<;>simp [Act.put]
theorem jL (vs:Nat->Value):∀(l:List (Oper×Nat)) (a:Act),(l.filterMap (·.1.dst)).Nodup ->
  (eJ l vs a).tmps.size=a.tmps.size∧(eJ l vs a).defers=a.defers ∧
  (∀p∈l,∀s,p.1.dst=some s->s<a.tmps.size->(eJ l vs a).tmps[s]?=some (vs p.2)) ∧
  (∀s,(∀p∈l,p.1.dst≠some s)->(eJ l vs a).tmps[s]?=a.tmps[s]?)
 | [],a,_=>⟨rfl,rfl,by simp,fun _ _=>rfl⟩
 | p::l,a,hn=>by
  have sV:(l.filterMap (·.1.dst)).Nodup:=by
   cases hd:p.1.dst with
   | none=>rw [List.filterMap_cons_none (by simpa using hd)] at hn;exact hn
   | some s=>rw [List.filterMap_cons_some (by simpa using hd)] at hn;exact (List.nodup_cons.1 hn).2
  obtain ⟨h1,h2,h3,h4⟩:=jL vs l (a.put p.1.dst (vs p.2)) sV
  refine ⟨h1.trans (p_ ..),h2.trans (put_defers ..),fun q hq s hs dk=>?_,fun s hs=>?_⟩
  ·rcases List.mem_cons.1 hq with rfl|hq
   ·have fM:∀p∈l,p.1.dst≠some s:=by
     intro p' EZ he
     rw [List.filterMap_cons_some (by simpa using hs)] at hn
     exact (List.nodup_cons.1 hn).1 (List.mem_filterMap.2 ⟨p',EZ,he⟩)
    show (eJ l vs (a.put q.1.dst (vs q.2))).tmps[s]?=_
    rw [h4 s fM,hs]
    exact mB a s _ dk
   ·exact h3 q hq s hs (by rw [p_];exact dk)
  ·show (eJ l vs (a.put p.1.dst (vs p.2))).tmps[s]?=_
   rw [h4 s fun q hq=>hs q (List.mem_cons_of_mem _ hq),g_ a _ s _ (hs p (List.mem_cons_self ..))]
def gS (P:Program) (ops:Array Oper) (Q:Exit->Act->World->Prop) (o:Oper) (a:Act) (w:World) (R:Value->World->Prop):Prop :=
 if Region.wanted o (yielded ops a.tmps) then o.wp P a w (fun a' w'=>∃v,a'=a.put o.dst v∧Below w.heap.size w w'∧R v w') Q else R undef w
section
variable {P:Program} {ops:Array Oper} {Q:Exit->Act->World->Prop} {a:Act} {w:World}
structure Inv (ops:Array Oper) (F:Nat->Value->World->Prop) (a:Act) (w:World) (listed:Array Bool) (a':Act) (w':World):Prop where
 grown:Below w.heap.size w w'
 size:listed.size=ops.size
 closed:∀k o,listed.getD k false=true->ops[k]?=some o-> ∀d∈bl o,listed.getD d false=true
 Al:a'.tmps.size=a.tmps.size
 td:a'.defers=a.defers
 val:∀k o s,listed.getD k false=true->ops[k]?=some o->o.dst=some s-> ∃v,a'.tmps[s]?=some v∧F k v w'
 EH:∀k o,listed.getD k false=true->ops[k]?=some o->o.dst=none-> ∃v,F k v w'
 old:∀s,(∀k o,listed.getD k false=true->ops[k]?=some o->o.dst≠some s)->a'.tmps[s]?=a.tmps[s]?
theorem f_ {n:Nat} (h:lK ops n=true):(∀(k:Nat) (o:Oper),ops[k]?=some o-> ∀d∈bl o,d<k)∧(ops.toList.filterMap (·.dst)).Nodup∧(∀(k:Nat) (o:Oper) (s:Nat),ops[k]?=some o->o.dst=some s->s<n):=by
 unfold lK at h
 simp only [Bool.and_eq_true,List.all_eq_true,decide_eq_true_eq] at h
 obtain ⟨⟨h1,h2⟩,h3⟩:=h
 refine ⟨fun k o ho d hd=>?_,h2,fun k o s ho hs=>?_⟩
 ·have hm:(o,k)∈ops.toList.zipIdx:=by rw [List.mem_zipIdx_iff_getElem?];simpa using ho
  exact h1 (o,k) hm d hd
 ·have hm:o∈ops.toList:=by
   rw [←Array.getElem?_toList] at ho
   exact List.mem_of_getElem? ho
  have:=h3 o hm
  rw [hs] at this
  simpa using this
theorem oz (hn:(ops.toList.filterMap (·.dst)).Nodup) {j k:Nat} {o p:Oper} {s:Nat} (hj:ops[j]?=some o) (hk:ops[k]?=some p) (ho:o.dst=some s) (hp:p.dst=some s):j=k:=by
 rw [←Array.getElem?_toList] at hj hk
 have key:∀(l:List Oper) (j k:Nat),(l.filterMap (·.dst)).Nodup->l[j]?=some o->l[k]?=some p->j=k:=by
  intro l
  induction l with
  | nil=>intro j k _ h;simp at h
  | cons x l ih =>
   intro j k hn hj hk
   have sV:(l.filterMap (·.dst)).Nodup:=by
    cases hd:x.dst with
    | none=>rw [List.filterMap_cons_none (by simpa using hd)] at hn;exact hn
    | some s=>rw [List.filterMap_cons_some (by simpa using hd)] at hn;exact (List.nodup_cons.1 hn).2
   have fresh:∀(i:Nat) (q:Oper),x.dst=some s->l[i]?=some q->q.dst≠some s:=by
    intro i q hx hq he
    rw [List.filterMap_cons_some (by simpa using hx)] at hn
    exact (List.nodup_cons.1 hn).1 (List.mem_filterMap.2 ⟨q,List.mem_of_getElem? hq,he⟩)
   cases j with
   | zero =>
    cases k with
    | zero=>rfl
    | succ k =>
     simp at hj hk;subst hj
     exact absurd hp (fresh k p ho hk)
   | succ j =>
    cases k with
    | zero =>
     simp at hj hk;subst hk
     exact absurd ho (fresh j o hp hj)
    | succ k=>rw [ih j k sV (by simpa using hj) (by simpa using hk)]
 exact key ops.toList j k hn hj hk
end
section
variable {P:Program} {ops:Array Oper} {Q:Exit->Act->World->Prop} {a:Act} {w:World}
theorem pJ (l:List Bool):∀i:Nat,l[i]?=some false->((l.set i true).filter (· == false)).length+1=(l.filter (· == false)).length:=by
 induction l with
 | nil=>intro i hi;simp at hi
 | cons x l ih =>
  intro i hi
  cases i with
  | zero=>simp at hi;subst hi;simp
  | succ i =>
   simp only [List.set_cons_succ]
   have:=ih i (by simpa using hi)
   cases x
   ·rw [List.filter_cons_of_pos rfl,List.filter_cons_of_pos rfl];simp only [List.length_cons];omega
   ·rw [List.filter_cons_of_neg (by simp),List.filter_cons_of_neg (by simp)];exact this
theorem Ck {n T:Nat} (hT:T<ops.size) (Kq:Region.sinkB .any ops T=true) (wj:Region.chainB .any ops T=true) (PM:Region.seqB .any ops (ops.size-T) T ((List.range ops.size).map (decide<| · <T)).toArray=true) (dw:a.tmps.size=n) (hB:lK ops n=true) (F:Nat->Value->World->Prop) (mono:∀k v w w',Below w.heap.size w w'->F k v w->F k v w')
  (vL:∀k o,k<T->ops[k]?=some o-> ∀a' w',Below w.heap.size w w'->(∀d∈bl o,F d (r_ ops a' d) w'∨(∃p,ops[d]?=some p∧p.dst=none))->(∀s,(∀(j:Nat) (p:Oper),j<T->ops[j]?=some p->p.dst≠some s)->a'.eval (.tmp s)=a.eval (.tmp s))->gS P ops Q o a' w' (F k))
  (kk:∀vs:Nat->Value,∀w',Below w.heap.size w w'->(∀k,k<T->F k (vs k) w')->wpList P ops Q (ops.toList.drop T) (eJ (ops.toList.zipIdx.take T) vs a) w') :
  ∀(fuel:Nat) (listed:Array Bool) (a':Act) (w':World),Inv ops F a w listed a' w'->(∀j,T≤j->listed.getD j false=false) ->
   (listed.toList.filter (· == false)).length=fuel->wpAny P .any ops Q fuel listed a' w':=by
 obtain ⟨dk,ir,vN⟩:=f_ hB
 have kE:∀(listed:Array Bool) (a':Act) (w':World),Inv ops F a w listed a' w'-> ∀k,k<T->listed.getD k false=false-> ∃i,i<T∧i∈Region.ready .any ops listed:=by
  intro listed a' w' I k
  induction k using Nat.strongRecOn with
  | _ k ih =>
   intro hk hl
   have iH:k<listed.size:=by rw [I.size];omega
   have pB:k<ops.size:=ah
   have oK:ops[k]?=some ops[k]:=Array.getElem?_eq_getElem pB
   by_cases fY:∀d∈bl ops[k],listed.getD d false=true
   ·refine ⟨k,hk,?_⟩
    rw [mem_ready]
    refine ⟨?_,ops[k],oK,fun e he hb=>fY e.on ?_⟩
    ·simp [iH] at hl ⊢;exact hl
    ·unfold bl
     exact List.mem_map.2 ⟨e,List.mem_filter.2 ⟨by simpa using he,hb⟩,rfl⟩
   ·have:∃d,d∈bl ops[k]∧listed.getD d false=false:=by
     refine Classical.byContradiction fun fM=>fY fun d hd=>?_
     cases hx:listed.getD d false with
     | true=>rfl
     | false=>exact absurd ⟨d,hd,hx⟩ fM
    obtain ⟨d,hd,hx⟩:=this
    exact ih d (dk k _ oK d hd) (by have:=dk k _ oK d hd;omega) hx
 have done:∀(listed:Array Bool) (a':Act) (w':World),Inv ops F a w listed a' w'->(∀k,k<T->listed.getD k false=true)->(∀j,T≤j->listed.getD j false=false)->wpList P ops Q (ops.toList.drop T) a' w':=by
  intro listed a' w' I all tail
  have hv:∀k,∃v,k<T->(F k v w'∧ ∀o s,ops[k]?=some o->o.dst=some s->a'.tmps[s]?=some v):=by
   intro k
   by_cases hk:k<T
   ·have pB:k<ops.size:=ah
    have oK:ops[k]?=some ops[k]:=Array.getElem?_eq_getElem pB
    cases hd:ops[k].dst with
    | none =>
     obtain ⟨v,hv⟩:=I.EH k _ (all k hk) oK hd
     exact ⟨v,fun _=>⟨hv,fun o s ho hs=>by rw [oK] at ho;injection ho with ho;subst ho;rw [hd] at hs;cases hs⟩⟩
    | some s =>
     obtain ⟨v,hv,hF⟩:=I.val k _ s (all k hk) oK hd
     exact ⟨v,fun _=>⟨hF,fun o s' ho hs=>by rw [oK] at ho;injection ho with ho;subst ho;rw [hd] at hs;injection hs with hs;subst hs;exact hv⟩⟩
   ·exact ⟨undef,fun h=>absurd h hk⟩
  obtain ⟨vs,EV⟩:=Classical.axiomOfChoice hv
  have rB:∀p:Oper×Nat,p∈ops.toList.zipIdx.take T↔(p.2<T∧ops[p.2]?=some p.1):=by
   intro p
   rw [List.mem_iff_getElem?]
   constructor
   ·rintro ⟨x,hx⟩
    rw [List.getElem?_take] at hx
    split at hx
    ·rename_i Bk
     rw [List.getElem?_zipIdx] at hx
     cases ho:ops.toList[x]? with
     | none=>rw [ho] at hx;simp at hx
     | some q =>
      rw [ho] at hx
      simp at hx
      subst hx
      exact ⟨by simpa using Bk,by simpa using ho⟩
    ·cases hx
   ·rintro ⟨h1,h2⟩
    refine ⟨p.2,?_⟩
    rw [List.getElem?_take,if_pos h1,List.getElem?_zipIdx]
    have O5:ops.toList[p.2]?=some p.1:=by simpa using h2
    rw [O5];simp
  have jP:=jL vs (ops.toList.zipIdx.take T) a (by
   have h1:(ops.toList.zipIdx.take T).filterMap (·.1.dst)=(ops.toList.take T).filterMap (·.dst):=by
    conv=>rhs;rw [←List.zipIdx_map_fst 0 ops.toList,←List.map_take]
    rw [List.filterMap_map];rfl
   rw [h1]
   exact List.Nodup.sublist ((List.take_sublist T ops.toList).filterMap _) ir)
  have he:a'=eJ (ops.toList.zipIdx.take T) vs a:=by
   have ht:a'.tmps=(eJ (ops.toList.zipIdx.take T) vs a).tmps:=by
    apply Array.ext_getElem?
    intro s
    by_cases hs:∃(k:Nat) (o:Oper),k<T∧ops[k]?=some o∧o.dst=some s
    ·obtain ⟨k,o,hk,ho,hd⟩:=hs
     rw [(EV k hk).2 o s ho hd]
     exact (jP.2.2.1 (o,k) ((rB _).2 ⟨hk,ho⟩) s hd (by rw [dw];exact vN k o s ho hd)).symm
    ·rw [I.old s fun k o hl ho hd=>hs ⟨k,o,(Classical.byContradiction fun hk=>(by have:=tail k (Nat.le_of_not_lt hk);rw [this] at hl;cases hl)),ho,hd⟩]
     exact (jP.2.2.2 s fun p hp hd=>hs ⟨p.2,p.1,((rB p).1 hp).1,((rB p).1 hp).2,hd⟩).symm
   have hd:a'.defers=(eJ (ops.toList.zipIdx.take T) vs a).defers:=I.td.trans jP.2.1.symm
   cases a';cases h:eJ (ops.toList.zipIdx.take T) vs a
   rw [h] at ht hd
   simp only at ht hd
   rw [ht,hd]
  rw [he]
  exact kk vs w' I.grown fun k hk=>(EV k hk).1
 have rest:∀(fuel:Nat) (listed:Array Bool) (a':Act) (w':World),Inv ops F a w listed a' w'->(∀j,T≤j->listed.getD j false=false)->(listed.toList.filter (· == false)).length=fuel->(∀k,k<T->listed.getD k false=true)->wpAny P .any ops Q fuel listed a' w':=by
  intro fuel listed a' w' I tail hc all
  have nP:listed=((List.range ops.size).map (decide<| · <T)).toArray:=by
   apply Array.ext_getElem?
   intro x
   by_cases hx:x<ops.size
   ·have G8:x<listed.size:=by rw [I.size];exact hx
    have hr:((List.range ops.size).map (decide<| · <T)).toArray[x]?=some (decide (x<T)):=by simp [hx]
    rw [hr]
    by_cases Bk:x<T
    ·have:=all x Bk;simp [G8] at this ⊢;rw [this,decide_eq_true Bk]
    ·have:=tail x ah;simp [G8] at this ⊢;rw [this,decide_eq_false Bk]
   ·rw [Array.getElem?_eq_none (by rw [I.size];omega),Array.getElem?_eq_none (by simp;omega)]
  have hlen:fuel=(ops.toList.drop T).length:=by
   rw [←hc,nP]
   simp only [List.length_drop,Array.length_toList,List.filter_map,List.length_map]
   have key:∀n,T≤n->((List.range n).filter ((fun x=>x == false) ∘ (decide<| · <T))).length=n-T:=by
    intro n hn
    induction n with
    | zero=>simp
    | succ n ih =>
     rw [List.range_succ,List.filter_append,List.length_append]
     by_cases P5:T≤n
     ·rw [ih P5]
      have:((fun x=>x == false) ∘ (decide<| · <T)) n=true:=by simp;omega
      rw [List.filter_cons_of_pos this];simp;omega
     ·obtain rfl:T=n+1:=ah
      have h1:(List.range n).filter ((fun x=>x == false) ∘ (decide<| · <n+1))= []:=by
       rw [List.filter_eq_nil_iff];intro x hx;have:=List.mem_range.1 hx;simp;omega
      have h2:[n].filter ((fun x=>x == false) ∘ (decide<| · <n+1))= []:=by
       rw [List.filter_eq_nil_iff];intro x hx;simp at hx;subst hx;simp
      rw [h1,h2];simp
   exact key ops.size ah
  rw [hlen]
  refine wpAny_of_seq (ops.toList.drop T) T listed a' w' (fun j=>by rw [List.getElem?_drop];simp) ?_ (done listed a' w' I all tail)
  rw [nP]
  simpa using PM
 intro fuel
 induction fuel with
 | zero =>
  intro listed a' w' I tail hc
  refine rest 0 listed a' w' I tail hc fun k hk=>?_
  cases hx:listed.getD k false with
  | true=>rfl
  | false =>
   exfalso
   have iH:k<listed.size:=by rw [I.size];omega
   have:false∈listed.toList.filter (· == false):=by
    refine List.mem_filter.2 ⟨?_,rfl⟩
    have h1:listed.toList[k]?=some false:=by simp [iH] at hx ⊢;exact hx
    exact List.mem_of_getElem? h1
   have:=List.length_pos_of_mem this
   omega
 | succ fuel ih =>
  intro listed a' w' I tail hc
  by_cases hex:∀k,k<T->listed.getD k false=true
  ·exact rest (fuel+1) listed a' w' I tail hc hex
  have PH:∃k,k<T∧listed.getD k false=false:=by
   refine Classical.byContradiction fun fM=>hex fun k hk=>?_
   cases hx:listed.getD k false with
   | true=>rfl
   | false=>exact absurd ⟨k,hk,hx⟩ fM
  obtain ⟨k0,yz,IC⟩:=PH
  have Qr:HeadInv .any ops T listed:=⟨I.size,fun j oj hj hl e he hb=>I.closed j oj hl hj e.on (by
    unfold bl
    exact List.mem_map.2 ⟨e,List.mem_filter.2 ⟨by simpa using he,hb⟩,rfl⟩),fun t ht PL=>getD_in (by rw [I.size];exact PL) (tail t ht)⟩
  have I3:listed.getD k0 true=false:=getD_in (by rw [I.size];omega) IC
  refine ⟨fun hr=>(by
   obtain ⟨i,_,hi⟩:=kE listed a' w' I k0 yz IC
   rw [hr] at hi;cases hi),fun i hi=>?_⟩
  have Qb:i<T:=Classical.byContradiction fun h=>tail_waits Kq wj hT Qr _ k0 rfl yz I3 i ah hi
  obtain ⟨h0,o,ho,fY⟩:=mem_ready.1 hi
  have I4:i<listed.size:=by rw [I.size];exact (Array.getElem?_eq_some_iff.1 ho).1
  have O6:listed.getD i false=false:=by simp [I4] at h0 ⊢;exact h0
  have jc:∀d∈bl o,listed.getD d false=true:=by
   intro d hd
   unfold bl at hd
   obtain ⟨e,he,rfl⟩:=List.mem_map.1 hd
   obtain ⟨My,Lt⟩:=List.mem_filter.1 he
   exact fY e (by simpa using My) Lt
  have next:∀v fy,Below w'.heap.size w' fy->F i v fy->Inv ops F a w (listed.setIfInBounds i true) (a'.put o.dst v) fy:=by
   intro v fy hb hF
   have lists:∀k,(listed.setIfInBounds i true).getD k false=true->k=i∨listed.getD k false=true:=by
    intro k hk
    by_cases sW:i=k
    ·exact .inl sW.symm
    ·right;rw [getD_set_ne false sW] at hk;exact hk
   refine ⟨I.grown.pV hb,by simpa using I.size,?_,(p_ ..).trans I.Al,(put_defers ..).trans I.td,?_,?_,?_⟩
   ·intro k p hk hp d hd
    rcases lists k hk with rfl|hk
    ·rw [ho] at hp;injection hp with hp;subst hp
     exact getD_set_true (jc d hd)
    ·exact getD_set_true (I.closed k p hk hp d hd)
   ·intro k p s hk hp hs
    rcases lists k hk with rfl|hk
    ·rw [ho] at hp;injection hp with hp;subst hp
     refine ⟨v,?_,hF⟩
     rw [hs]
     exact mB a' s v (by rw [I.Al,dw];exact vN k _ s ho hs)
    ·obtain ⟨u,hu,SX⟩:=I.val k p s hk hp hs
     refine ⟨u,?_,mono k u w' fy hb SX⟩
     rw [g_ a' o.dst s v fun he=>?_]
     ·exact hu
     ·have:=oz ir ho hp he hs
      subst this
      rw [O6] at hk;cases hk
   ·intro k p hk hp hs
    rcases lists k hk with rfl|hk
    ·exact ⟨v,hF⟩
    ·obtain ⟨u,hu⟩:=I.EH k p hk hp hs
     exact ⟨u,mono k u w' fy hb hu⟩
   ·intro s hs
    rw [g_ a' o.dst s v (hs i o (by simp [I4]) ho)]
    exact I.old s fun k p hk hp=>hs k p (getD_set_true hk) hp
  have nL:∀j,T≤j->(listed.setIfInBounds i true).getD j false=false:=fun j hj=>by rw [getD_set_ne false ah];exact tail j hj
  have nO:((listed.setIfInBounds i true).toList.filter (· == false)).length=fuel:=by
   have P8:((listed.setIfInBounds i true).toList.filter (· == false)).length+1=(listed.toList.filter (· == false)).length:=by
    rw [Array.toList_setIfInBounds]
    have ji:listed.toList[i]?=some false:=by simp [I4] at h0 ⊢;exact h0
    exact pJ _ i ji
   omega
  have iP:=vL i o Qb ho a' w' I.grown (fun d hd=>by
   have hl:=jc d hd
   cases hp:ops[d]? with
   | none =>
    have qQ:d<listed.size:=by
     rcases Nat.lt_or_ge d listed.size with h|h
     ·exact h
     ·simp [Array.getElem?_eq_none h] at hl
    rw [I.size] at qQ
    rw [Array.getElem?_eq_getElem qQ] at hp;cases hp
   | some p =>
    cases hs:p.dst with
    | none=>exact .inr ⟨p,rfl,hs⟩
    | some s =>
     left
     obtain ⟨u,hu,hF⟩:=I.val d p s hl hp hs
     unfold r_
     rw [hp]
     simp only [Option.bind_some,hs]
     simp [hu];exact hF) (fun s hs=>by
   show a'.tmps.getD s undef=a.tmps.getD s undef
   have:a'.tmps[s]?=a.tmps[s]?:=I.old s fun k p hk hp hd=>by
    have wg:k<T:=Classical.byContradiction fun h=>(by have:=tail k (Nat.le_of_not_lt h);rw [this] at hk;cases hk)
    exact hs k p wg hp hd
   simp [this])
  unfold gS at iP
  unfold wpOp
  rw [ho]
  simp only
  by_cases hw:Region.wanted o (yielded ops a'.tmps)=true
  ·rw [if_pos hw] at iP ⊢
   left
   exact Oper.wp_mono (fun r5 fy ⟨v,he,hb,hF⟩=>by
    subst he
    exact ih _ _ _ (next v fy hb hF) nL nO) iP
  ·rw [if_neg hw] at iP ⊢
   exact ih _ _ _ (next undef w' (Below.refl _ _) iP) nL nO
def oQ (ops:Array Oper) (T:Nat):Bool :=
 decide (T<ops.size) && Region.sinkB .any ops T && Region.chainB .any ops T && Region.seqB .any ops (ops.size-T) T ((List.range ops.size).map (decide<| · <T)).toArray
end
end Go.Proofs.YtjgbhhnghedgdaaGreatDoor
