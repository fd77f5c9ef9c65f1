import Derived.Test.YtjgbhhnghedgdaaGreatDoorZaRB
import Derived.Orders
import Derived.BigCall
import Derived.StillTail
set_option linter.all false
namespace Go.Proofs.YtjgbhhnghedgdaaGreatDoor
open Go.RowKit
def gY (ρ :List (Nat×Nat)):AV->AV
 | .ref i=>match look ρ i with|some k=>.ref k|none=>.dead
 | .pre i n=>match look ρ i with|some k=>.pre k n|none=>.dead
 | .js i o n=>match look ρ i with|some k=>.js k o n|none=>.dead
 | .addr i o=>match look ρ i with|some k=>.addr k o|none=>.dead
 | .agg _=>.dead
 | .bq _=>.dead
 | x=>x
def Ea (ρ :List (Nat×Nat)):AV->AV
 | .agg cs=>.agg (cs.map (gY ρ))
 | x=>gY ρ x
def rS (ρ :List (Nat×Nat)):AV->AV
 | .bq cs=>.bq (cs.map (Ea ρ))
 | x=>Ea ρ x
def fg (ρ :List (Nat×Nat)) (r:Row):Row:=match r.pure with|true=>r|false=>⟨r.e,false,r.full,r.cells.map (gY ρ)⟩
theorem k_ (ρ :List (Nat×Nat)) (r:Row):(fg ρ r).e=r.e∧(fg ρ r).cells.length=r.cells.length∧(fg ρ r).pure=r.pure∧(fg ρ r).full=r.full:=by
 unfold fg;cases h:r.pure<;>simp [h]
section
variable {I I':Info} {S S':Nat->Prop} {w:World}
theorem Ac (ρ :List (Nat×Nat)) (hI:∀i k x,look ρ i=some k->I i=some x->I' k=some x) (hS:∀b,S b->S' b):jU I I' S S' w (gY ρ) where
 agg:=fun _=>rfl
 bq:=fun _=>rfl
 leaf:=fun v x hx h1 h2=>by
  have sK:∀b,S b->S' b∧w.heap[b]?=w.heap[b]?:=fun b h=>⟨hS b h,rfl⟩
  cases hx with
  | rep h=>cases h with
   | val v=>exact .rep (.val v)
   | nil=>exact .rep .nil
   | agg vs cs _ _=>exact absurd rfl (h1 cs)
   | bq vs cs _ _=>exact absurd rfl (h2 cs)
   | arr vs cs hl h=>exact .rep ((cz.arr vs cs hl h).mono sK)
   | sl A n c e us row hl hn hc hm ha h=>exact .rep ((cz.sl A n c e us row hl hn hc hm ha h).mono sK)
   | pg A n e us row hl hn hm ha h=>exact .rep ((cz.pg A n e us row hl hn hm ha h).mono sK)
   | ptr ad us row off hl hs ha h=>exact .rep ((cz.ptr ad us row off hl hs ha h).mono sK)
   | lI f vs cs hl h=>exact .rep ((cz.lI f vs cs hl h).mono sK)
  | agg vs cs _ _=>exact absurd rfl (h1 cs)
  | bq vs cs _ _=>exact absurd rfl (h2 cs)
  | ref i e m g l c hi hm hc hx hs =>
   cases h:look ρ i with
   | none=>simp only [gY,h];exact .dead _
   | some k=>simp only [gY,h];exact .ref k _ m g l c (hI _ _ _ h hi) hm hc hx hs
  | cD i e hi =>
   cases h:look ρ i with
   | none=>simp only [gY,h];exact .dead _
   | some k=>simp only [gY,h];exact .cD k _ (hI _ _ _ h hi)
  | pre i n e m g l c hi hn hm hc hx hs =>
   cases h:look ρ i with
   | none=>simp only [gY,h];exact .dead _
   | some k=>simp only [gY,h];exact .pre k n _ m g l c (hI _ _ _ h hi) hn hm hc hx hs
  | dC i e hi =>
   cases h:look ρ i with
   | none=>simp only [gY,h];exact .dead _
   | some k=>simp only [gY,h];exact .dC k _ (hI _ _ _ h hi)
  | js i off n e m l c g A hi hn hm hc hx ha =>
   cases h:look ρ i with
   | none=>simp only [gY,h];exact .dead _
   | some k=>simp only [gY,h];exact .js k off n _ m l c g A (hI _ _ _ h hi) hn hm hc hx ha
  | addr i off e m g hi =>
   cases h:look ρ i with
   | none=>simp only [gY,h];exact .dead _
   | some k=>simp only [gY,h];exact .addr k off _ m g (hI _ _ _ h hi)
  | dead v=>exact .dead _
theorem Ab (ρ :List (Nat×Nat)) (y:AV) (h:∀cs,y≠ .agg cs):Ea ρ y=gY ρ y:=by
 cases y with
 | agg cs=>exact absurd rfl (h cs)
 | _=>rfl
theorem Aa (ρ :List (Nat×Nat)) (y:AV) (h:∀cs,y≠ .bq cs):rS ρ y=Ea ρ y:=by
 cases y with
 | bq cs=>exact absurd rfl (h cs)
 | _=>rfl
theorem Den.Kx (ρ :List (Nat×Nat)) (hI:∀i k x,look ρ i=some k->I i=some x->I' k=some x) (hS:∀b,S b->S' b) {v:Value} {x:AV} (h:Den I S w v x):Den I' S' w v (rS ρ x) :=
 (Ac ρ hI hS).two h (fun _=>rfl) (Ab ρ) (fun _=>rfl) (Aa ρ)
theorem bN.Kx (ρ :List (Nat×Nat)) (hI:∀i k x,look ρ i=some k->I i=some x->I' k=some x) (hS:∀b,S b->S' b) {b:Option Nat} {r:Row} (h:bN I S w b r):bN I' S' w b (fg ρ r):=by
 obtain ⟨he,hl,hp,hf⟩:=k_ ρ r
 cases b with
 | none =>
  have h:r.cells= []:=h
  show (fg ρ r).cells= []
  exact List.eq_nil_of_length_eq_zero (by rw [hl,h];rfl)
 | some g =>
  obtain ⟨cur,te,fr,hg,gw,hle,mS,hc⟩:=h
  refine ⟨cur,te,fr,hg,gw,by rw [hl];exact hle,fun h=>by rw [hl];exact mS (by rw [←hf];exact h),fun j u x hu hx=>?_⟩
  unfold bg
  cases L1:r.pure with
  | true =>
   have e:fg ρ r=r:=by unfold fg;rw [L1]
   rw [e] at hx ⊢
   have:=hc j u x hu hx
   unfold bg at this
   rw [L1] at this ⊢
   exact this.mono fun b hb=>⟨hS b hb,rfl⟩
  | false =>
   have e:(fg ρ r).cells=r.cells.map (gY ρ):=by unfold fg;rw [L1]
   rw [hp,L1]
   rw [e,List.getElem?_map] at hx
   cases hj:r.cells[j]? with
   | none=>rw [hj] at hx;cases hx
   | some y =>
    rw [hj] at hx;injection hx with hx;subst hx
    have:=hc j u y hu hj
    unfold bg at this
    rw [L1] at this
    exact (Ac ρ hI hS).all this
end
def lJ (φ:Nat->Option Nat) (g:Nat):Prop:=∃id,φ id=some g
structure Oc (S:Nat->Prop) (w:World) (φ:Nat->Option Nat) (H:List (Nat×Row)):Prop where
 sep:∀b,S b->b<w.heap.size∧ ¬lJ φ b
 only:∀id,look H id=none->φ id=none
 inj:∀id pd g,φ id=some g->φ pd=some g->id=pd
 lt:∀id g,φ id=some g->g<w.heap.size
 rows:∀id r,look H id=some r->bN (az H φ) S w (φ id) r
def E0 (S:Nat->Prop) (w w':World) (φ cB:Nat->Option Nat) (O:List Nat):Nat->Prop:=fun b=>(S b∨((w.heap.size≤b∨lJ φ b)∧b<w'.heap.size))∧b ∉ O∧ ¬lJ cB b
structure LK (S:Nat->Prop) (w w':World) (φ cB:Nat->Option Nat) (O:List Nat) (H':List (Nat×Row)) (v:Value) (r:AV):Prop where
 os:w'.os=w.os
 tape:w'.tape=w.tape
 output:w'.output=w.output
 size:w.heap.size≤w'.heap.size
 block:∀b,b<w.heap.size-> ¬lJ φ b->w'.heap[b]?=w.heap[b]?
 nodup:O.Nodup
 own:∀g∈O,(w.heap.size≤g∨lJ φ g)∧g<w'.heap.size∧ ¬lJ cB g
 cW:∀id g,cB id=some g->w.heap.size≤g∨lJ φ g
 fix:∀id g,1000000000000≤id->cB id=some g->φ id=some g
 HV:Oc (E0 S w w' φ cB O) w' cB H'
 VI:sP (E0 S w w' φ cB O) w' v r O
def ga (P:Program) (f:FuncId) (args:List AV) (H:List (Nat×Row)) (r:AV) (H':List (Nat×Row)):Prop :=
 ∀(w:World) (S:Nat->Prop) (φ:Nat->Option Nat) (vs:List Value),Good w->(∀id g,φ id=some g-> ¬TB g)->Oc S w φ H->vs.length=args.length->(∀(j:Nat) v x,vs[j]?=some v->args[j]?=some x->Den (az H φ) S w v x) ->
  Calls P f vs.toArray w fun e w'=>∃v O cB,e= .returned v∧LK S w w' φ cB O H' v r
def inv:List (Nat×Nat)->List (Nat×Nat)
 | []=>[]
 | (c,k)::l=>(k,c)::inv l
def Cl (i:Nat):List Nat->Bool
 | []=>false
 | j::l=>match Nat.beq i j with|true=>true|false=>Cl i l
theorem Aw (i:Nat):∀(l:List Nat),Cl i l=true↔i∈l
 | []=>by simp [Cl]
 | j::l=>by
  simp only [Cl]
  rcases bJ i j with ⟨h,e⟩|⟨h,e⟩
  ·rw [h];simp [e]
  ·rw [h];simp only [List.mem_cons];rw [Aw i l];simp [e]
def ue:List Nat->Bool
 | []=>true
 | i::l=>match Cl i l with|true=>false|false=>ue l
theorem qY:∀ {l:List Nat},ue l=true->l.Nodup
 | [],_=>List.nodup_nil
 | i::l,h=>by
  simp only [ue] at h
  split at h
  ·cases h
  ·rename_i hn
   rw [List.nodup_cons]
   refine ⟨fun hm=>?_,qY h⟩
   rw [(Aw i l).2 hm] at hn;cases hn
theorem kI {α:Type} {k:Nat} {x:α}:∀ {l:List (Nat×α)},look l k=some x->(k,x)∈l
 | [],h=>by cases h
 | (j,y)::l,h=>by
  rw [aE] at h
  by_cases e:j=k
  ·rw [if_pos e] at h;injection h with h;subst e;subst h;exact List.mem_cons_self ..
  ·rw [if_neg e] at h;exact List.mem_cons_of_mem _ (kI h)
theorem jJ {α:Type} {k:Nat} {x:α}:∀ {l:List (Nat×α)},(l.map (·.1)).Nodup->(k,x)∈l->look l k=some x
 | [],_,h=>by cases h
 | (j,y)::l,hn,h=>by
  rw [aE]
  simp only [List.map_cons,List.nodup_cons] at hn
  rcases List.mem_cons.1 h with h|h
  ·cases h;rw [if_pos rfl]
  ·have:j≠k:=fun e=>hn.1 (by rw [e];exact List.mem_map.2 ⟨(k,x),h,rfl⟩)
   rw [if_neg this];exact jJ hn.2 h
theorem xG {c k:Nat}:∀ {l:List (Nat×Nat)},(k,c)∈inv l↔(c,k)∈l
 | []=>by simp [inv]
 | (x,y)::l=>by
  simp only [inv,List.mem_cons,xG (l:=l),Prod.mk.injEq]
  constructor<;>(rintro (⟨h1,h2⟩|h);exact .inl ⟨h2,h1⟩;exact .inr h)
theorem Ei:∀(l:List (Nat×Nat)),(inv l).map (·.1)=l.map (·.2)
 | []=>rfl
 | (x,y)::l=>by simp [inv,Ei l]
theorem jK {l:List (Nat×Nat)} (h1:(l.map (·.1)).Nodup) (h2:(l.map (·.2)).Nodup) {c k:Nat}:look (inv l) k=some c↔look l c=some k :=
 ⟨fun h=>jJ h1 (xG.1 (kI h)),fun h=>jJ (by rw [Ei];exact h2) (xG.2 (kI h))⟩
def iT (s:AS) (ρ :List (Nat×Nat)):List (Nat×Nat)->Option (List (Nat×Row))
 | []=>some []
 | (c,k)::l=>match look s.H c,iT s ρ l with|some r,some m=>some ((k,fg ρ r)::m)|_,_=>none
def nP (ho:List (Nat×Row)) (ρ :List (Nat×Nat)):List (Nat×Nat)->Option (List (Nat×Row))
 | []=>some []
 | (c,k)::l=>match look ho k,nP ho ρ l with|some r,some m=>some ((c,fg ρ r)::m)|_,_=>none
theorem oL {s:AS} {ρ :List (Nat×Nat)}:∀ {l:List (Nat×Nat)} {Hl:List (Nat×Row)},iT s ρ l=some Hl-> ∀k,look Hl k=(look (inv l) k).bind fun c=>(look s.H c).map (fg ρ)
 | [],Hl,h,k=>by cases h;rfl
 | (c,k')::l,Hl,h,k=>by
  simp only [iT] at h
  split at h
  ·rename_i r m hr hm
   cases h
   simp only [inv,aE]
   by_cases e:k'=k
   ·rw [if_pos e,if_pos e];simp [hr]
   ·rw [if_neg e,if_neg e];exact oL hm k
  ·cases h
theorem oM {ho:List (Nat×Row)} {ρ :List (Nat×Nat)}:∀ {l:List (Nat×Nat)} {Hb:List (Nat×Row)},nP ho ρ l=some Hb-> ∀c,look Hb c=(look l c).bind (fun k=>(look ho k).map (fg ρ))∧ ∀k,look l c=some k-> ∃r,look ho k=some r
 | [],Hb,h,c=>by cases h;exact ⟨rfl,fun k h=>by cases h⟩
 | (c',k)::l,Hb,h,c=>by
  simp only [nP] at h
  split at h
  ·rename_i r m hr hm
   cases h
   simp only [aE]
   by_cases e:c'=c
   ·rw [if_pos e,if_pos e]
    exact ⟨by simp [hr],fun k' h=>by injection h with h;subst h;exact ⟨r,hr⟩⟩
   ·rw [if_neg e,if_neg e];exact oM hm c
  ·cases h
def fh:List (Nat×Nat)->List Nat
 | []=>[]
 | (c,k)::l=>match Nat.ble 1000000000000 k with|true=>fh l|false=>c::fh l
theorem q7 {c:Nat}:∀ {l:List (Nat×Nat)},c∈fh l-> ∃k,(c,k)∈l∧k<1000000000000
 | [],h=>by cases h
 | (c',k)::l,h=>by
  simp only [fh] at h
  split at h
  ·obtain ⟨k',h1,h2⟩:=q7 h;exact ⟨k',by simp [h1],h2⟩
  ·rename_i hb
   rcases List.mem_cons.1 h with rfl|h
   ·exact ⟨k,by simp,by
     rcases Nat.lt_or_ge k 1000000000000 with h|h
     ·exact h
     ·rw [Nat.ble_eq_true_of_le h] at hb;cases hb⟩
   ·obtain ⟨k',h1,h2⟩:=q7 h;exact ⟨k',by simp [h1],h2⟩
theorem qW {c k:Nat} (hk:k<1000000000000):∀ {l:List (Nat×Nat)},(c,k)∈l->c∈fh l
 | [],h=>by cases h
 | (c',k')::l,h=>by
  simp only [fh]
  rcases List.mem_cons.1 h with h|h
  ·cases h
   have:Nat.ble 1000000000000 k=false:=by
    cases hb:Nat.ble 1000000000000 k with
    | false=>rfl
    | true=>have:=Nat.le_of_ble_eq_true hb;omega
   rw [this];simp
  ·have:=qW hk h
   split
   ·exact this
   ·simp [this]
def pF (s:AS) (ho:List (Nat×Row)):List (Nat×Nat)->Option (List Prop)
 | []=>some []
 | (c,k)::l=>match Nat.ble 1000000000000 k,pF s ho l with
  | true,some C=>(match look s.H c,look ho k with
   | some ⟨e,_,true,cs⟩,some ⟨e',_,true,J8⟩=>(match Nat.beq e e' with|true=>some ((cs.length=J8.length∧0<J8.length)::C)|false=>none)
   | _,_=>none)
  | false,some C=>(match Nat.ble c 999999999999 with|true=>some C|false=>none)
  | _,none=>none
theorem pE {s:AS} {ho:List (Nat×Row)}:∀ {l:List (Nat×Nat)} {C:List Prop},pF s ho l=some C->bx C-> ∀c k,(c,k)∈l ->
  (1000000000000≤k∧ ∃r r',look s.H c=some r∧look ho k=some r'∧r.e=r'.e∧r.full=true∧r'.full=true∧r.cells.length=r'.cells.length∧0<r'.cells.length)∨(k<1000000000000∧c<1000000000000)
 | [],C,h,hC,c,k,hm=>by cases hm
 | (c',k')::l,C,h,hC,c,k,hm=>by
  simp only [pF] at h
  split at h
  ·rename_i C1 hb hr
   split at h
   ·rename_i e p cs e' p' J8 h1 h2
    split at h
    ·rename_i he
     cases h
     rcases List.mem_cons.1 hm with hm|hm
     ·cases hm
      exact .inl ⟨Nat.le_of_ble_eq_true hb,_,_,h1,h2,Nat.eq_of_beq_eq_true he,rfl,rfl,hC.1.1,hC.1.2⟩
     ·exact pE hr hC.2 c k hm
    ·cases h
   ·cases h
  ·rename_i C1 hb hr
   split at h
   ·rename_i hc
    cases h
    rcases List.mem_cons.1 hm with hm|hm
    ·obtain ⟨rfl,rfl⟩:c=c'∧k=k':=by simpa using hm
     have:=Nat.le_of_ble_eq_true hc
     have hk:k<1000000000000:=by
      rcases Nat.lt_or_ge k 1000000000000 with h|h
      ·exact h
      ·rw [Nat.ble_eq_true_of_le h] at hb;cases hb
     exact .inr ⟨hk,ah⟩
    ·exact pE hr hC c k hm
   ·cases h
  ·cases h
def yW (ln:List (Nat×Nat)):Bool:=match ue (ln.map (·.1)) with|true=>ue (ln.map (·.2))|false=>false
theorem Dy {ln:List (Nat×Nat)} (h:yW ln=true):(ln.map (·.1)).Nodup∧(ln.map (·.2)).Nodup:=by
 unfold yW at h
 split at h
 ·rename_i h1;exact ⟨qY h1,qY h⟩
 ·cases h
def pj {α:Type} (H:List (Nat×α)):List Nat->List (Nat×α)
 | []=>H
 | i::l=>pj (cS H i) l
theorem r7 {α:Type}:∀(l:List Nat) (H:List (Nat×α)) (i:Nat),look (pj H l) i=if i∈l then none else look H i
 | [],H,i=>by simp [pj]
 | j::l,H,i=>by
  simp only [pj]
  rw [r7 l,bI]
  by_cases e:j=i
  ·subst e;simp
  ·by_cases h:i∈l
   ·simp [h]
   ·simp [h,e,Ne.symm e]
def jd (s:AS) (ln:List (Nat×Nat)) (Hb:List (Nat×Row)):AS:=⟨(ba s (fh ln)).F,Hb++pj (ba s (fh ln)).H (ln.map (·.1))⟩
def oe (P:Program) (n:Nat) (s:AS) (d:Option Nat) (c:Callee) (args:List Operand) (h:Hint):Option (AS×List Prop) :=
 match callee s c,h.av with
 | some f,some r=>(match ib P f,gb s (((args.map (bp s)).flatMap p9).filter fun i=> !(Cl i (h.ln.map (·.1)))) with
  | true,some s1=>(match iT s1 h.ln h.ln,nP h.ho (inv h.ln) h.ln,yW h.ln,pF s1 h.ho h.ln with
   | some Hl,some Hb,true,some C=>(match d with
    | some d=>(match nodupB ((cw d r).2.map (·.1)),gE n ⟨(ba (jd s1 h.ln Hb) ((cw d r).2.map (·.1))).F,(cw d r).2++(ba (jd s1 h.ln Hb) ((cw d r).2.map (·.1))).H⟩ (some d) (cw d r).1 with
     | true,some s'=>some (s',ga P f (args.map fun x=>rS h.ln (bp s1 x)) Hl r h.ho::C)
     | _,_=>none)
    | none=>some (jd s1 h.ln Hb,ga P f (args.map fun x=>rS h.ln (bp s1 x)) Hl r h.ho::C))
   | _,_,_,_=>none)
  | _,_=>none)
 | _,_=>none
section
variable {P:Program} {S0:bm} {w0 w w':World} {n:Nat} {s:AS} {a:Act} {φ:Nat->Option Nat}
theorem xl:∀(l:List Nat) (s:AS) (φ:Nat->Option Nat) (O:List Nat),aL S0 w0 n O s a w φ-> ∃O',aL S0 w0 n O' (ba s l) a w (fun id=>if id∈l then none else φ id)∧(∀g∈O',g∈O∨ ∃i∈l,φ i=some g)∧(∀g∈O,g∈O')∧(∀i∈l,∀g,φ i=some g->g∈O') ∧
  (∀id q,look (ba s l).H id=some q->id ∉ l∧ ∃q0,look s.H id=some q0∧q.e=q0.e∧q.cells.length=q0.cells.length∧q.full=q0.full)∧(∀id q0,id ∉ l->look s.H id=some q0-> ∃q,look (ba s l).H id=some q)
 | [],s,φ,O,h=>by
  have e:(fun id=>if id∈([]:List Nat) then none else φ id)=φ:=by funext id;simp
  rw [e]
  exact ⟨O,h,fun g hg=>.inl hg,fun g hg=>hg,fun i hi=>(by cases hi),fun id q hq=>⟨by simp,q,hq,rfl,rfl,rfl⟩,fun id q0 _ hq=>⟨q0,hq⟩⟩
 | i::l,s,φ,O,h=>by
  have h1:=h.jw i (match φ i with|some g=>g::O|none=>O) rfl
  obtain ⟨O',h2,h3,h4,h5,h6,h7⟩:=xl l _ _ _ h1
  have jY:∀id,look (ck i s).H id=if i=id then none else (look s.H id).map (cN i):=fun id=>by
   unfold ck;rw [cy,bI];by_cases e:i=id<;>simp [e]
  refine ⟨O',?_,fun g hg=>?_,fun g hg=>h4 g ?_,fun j hj g hg=>?_,fun id q hq=>?_,fun id q0 hid hq=>?_⟩
  ·have:(fun id=>if id∈i::l then none else φ id)=fun id=>if id∈l then none else erase φ i id:=by
    funext id
    unfold erase
    by_cases e1:id=i<;>by_cases e2:id∈l<;>simp [e1,e2]
   rw [this];exact h2
  ·rcases h3 g hg with h|⟨j,hj,ja⟩
   ·cases cm:φ i with
    | none=>rw [cm] at h;exact .inl h
    | some g0 =>
     rw [cm] at h
     rcases List.mem_cons.1 h with rfl|h
     ·exact .inr ⟨i,by simp,cm⟩
     ·exact .inl h
   ·unfold erase at ja
    split at ja
    ·cases ja
    ·exact .inr ⟨j,by simp [hj],ja⟩
  ·cases cm:φ i with
   | none=>exact hg
   | some g0=>simp [hg]
  ·by_cases e:j=i
   ·subst e;exact h4 g (by rw [hg];simp)
   ·rcases List.mem_cons.1 hj with hj|hj
    ·exact absurd hj e
    ·exact h5 j hj g (by unfold erase;rw [if_neg e];exact hg)
  ·obtain ⟨k1,q1,k2,k3,k4,k5⟩:=h6 id q hq
   rw [jY] at k2
   by_cases e:i=id
   ·rw [if_pos e] at k2;cases k2
   ·rw [if_neg e] at k2
    cases hl:look s.H id with
    | none=>rw [hl] at k2;cases k2
    | some q0 =>
     rw [hl] at k2;injection k2 with k2
     obtain ⟨m1,m2,m3,m4⟩:=fK i q0
     exact ⟨by simp [Ne.symm e,k1],q0,rfl,by rw [k3,←k2,m1],by rw [k4,←k2,m2],by rw [k5,←k2,m4]⟩
  ·simp only [List.mem_cons,not_or] at hid
   exact h7 id (cN i q0) hid.2 (by rw [jY,if_neg (Ne.symm hid.1),hq];rfl)
def eT (ln:List (Nat×Nat)) (φ:Nat->Option Nat):Nat->Option Nat:=fun k=>(look (inv ln) k).bind φ
theorem KM (hs:aL S0 w0 n [] s a w φ) {ln:List (Nat×Nat)} (h1:(ln.map (·.1)).Nodup) (h2:(ln.map (·.2)).Nodup) {Hl:List (Nat×Row)} (hl:iT s ln ln=some Hl) :
  Oc (aN S0 w φ []) w (eT ln φ) Hl∧(∀i k x,look ln i=some k->az s.H φ i=some x->az Hl (eT ln φ) k=some x):=by
 have lB:=oL hl
 have hI:∀i k x,look ln i=some k->az s.H φ i=some x->az Hl (eT ln φ) k=some x:=by
  intro i k x L_ hx
  obtain ⟨e,m,b⟩:=x
  obtain ⟨r,hr,he,hm,hb⟩:=aQ hx
  have sG:=(jK h1 h2).2 L_
  rw [br (r:=fg ln r) (by rw [lB,sG];simp [hr])]
  obtain ⟨m1,m2,-,-⟩:=k_ ln r
  rw [m1,m2,he,hm]
  unfold eT;rw [sG];simp [hb]
 have back:∀k g,eT ln φ k=some g-> ∃c,look (inv ln) k=some c∧φ c=some g:=by
  intro k g hk
  unfold eT at hk
  cases hc:look (inv ln) k with
  | none=>rw [hc] at hk;cases hk
  | some c=>rw [hc] at hk;exact ⟨c,rfl,hk⟩
 refine ⟨⟨fun b hb=>⟨hb.1,fun ⟨k,hk⟩=>?_⟩,fun k hk=>?_,fun k k' g hk oA=>?_,fun k g hk=>?_,fun k r hr=>?_⟩,hI⟩
 ·obtain ⟨c,-,hc⟩:=back k b hk
  exact hb.2.2.1 c hc
 ·rw [lB] at hk
  cases hc:look (inv ln) k with
  | none=>unfold eT;rw [hc];rfl
  | some c =>
   rw [hc] at hk
   have Va:look s.H c=none:=by simpa using hk
   unfold eT;rw [hc];exact hs.only c Va
 ·obtain ⟨c,hc,hg⟩:=back k g hk
  obtain ⟨c',kY,ja⟩:=back k' g oA
  have e:=hs.inj c c' g hg ja
  subst e
  have e1:=(jK h1 h2).1 hc
  have e2:=(jK h1 h2).1 kY
  rw [e1] at e2;injection e2
 ·obtain ⟨c,-,hc⟩:=back k g hk
  exact (hs.cW c g hc).2
 ·rw [lB] at hr
  cases hc:look (inv ln) k with
  | none=>rw [hc] at hr;cases hr
  | some c =>
   rw [hc] at hr
   cases Sf:look s.H c with
   | none=>simp [Sf] at hr
   | some q =>
    simp [Sf] at hr
    subst hr
    have aP:=(hs.rows c q Sf).Kx ln hI (fun b hb=>hb)
    have e:eT ln φ k=φ c:=by unfold eT;rw [hc];rfl
    rw [e];exact aP
theorem Fy (hs:aL S0 w0 n [] s a w φ) {ln:List (Nat×Nat)} (h1:(ln.map (·.1)).Nodup) (h2:(ln.map (·.2)).Nodup) {ho:List (Nat×Row)} {Hb:List (Nat×Row)} (hb:nP ho (inv ln) ln=some Hb)
  {C:List Prop} (hv:pF s ho ln=some C) (hC:bx C) {cB:Nat->Option Nat} {O:List Nat} {v:Value} {r:AV} (hB:LK (aN S0 w φ []) w w' (eT ln φ) cB O ho v r) :
  ∃ w8,aL S0 w0 n O (jd s ln Hb) a w' w8∧sP (aN S0 w' w8 O) w' v r O:=by
 obtain ⟨O0,hA,Vm,-,Ss,AL,Tt⟩:=xl (fh ln) s φ [] hs
 generalize Rp:(fun id=>if id∈fh ln then none else φ id)=Of at hA
 have eA:∀id,Of id=if id∈fh ln then none else φ id:=fun id=>by rw [←Rp]
 have TN:=fun c=>oM hb c
 let w8:Nat->Option Nat:=fun id=>match look ln id with|some k=>cB k|none=>φ id
 have J6:∀id k,look ln id=some k->w8 id=cB k:=fun id k h=>by show (match look ln id with|some k=>cB k|none=>φ id)=_;rw [h]
 have J7:∀id,look ln id=none->w8 id=φ id:=fun id h=>by show (match look ln id with|some k=>cB k|none=>φ id)=_;rw [h]
 have inr:∀g,lJ (eT ln φ) g-> ∃c k,look ln c=some k∧φ c=some g:=by
  rintro g ⟨k,hk⟩
  unfold eT at hk
  cases hc:look (inv ln) k with
  | none=>rw [hc] at hk;cases hk
  | some c=>rw [hc] at hk;exact ⟨c,k,(jK h1 h2).1 hc,hk⟩
 have HB:∀c,c∈fh ln-> ∃k,look ln c=some k∧k<1000000000000:=fun c hc=>by
  obtain ⟨k,hm,hk⟩:=q7 hc
  exact ⟨k,jJ h1 hm,hk⟩
 have F2:∀b,aN S0 w Of O0 b->aN S0 w' w8 O b∧w'.heap[b]?=w.heap[b]?:=by
  intro b ⟨f1,f2,f3,f4⟩
  have gf:¬lJ (eT ln φ) b:=fun h=>by
   obtain ⟨c,k,wN,hc⟩:=inr b h
   by_cases ho:c∈fh ln
   ·exact f2 (Ss c ho b hc)
   ·exact f3 c (by rw [eA,if_neg ho];exact hc)
  refine ⟨⟨Nat.lt_of_lt_of_le f1 hB.size,fun hm=>?_,fun id hid=>?_,f4⟩,hB.block b f1 gf⟩
  ·rcases (hB.own b hm).1 with h|h
   ·omega
   ·exact gf h
  ·cases hl:look ln id with
   | some k =>
    rw [J6 id k hl] at hid
    rcases hB.cW k b hid with h|h
    ·omega
    ·exact gf h
   | none =>
    rw [J7 id hl] at hid
    have:id ∉ fh ln:=fun hm=>by obtain ⟨k,h,-⟩:=HB id hm;rw [hl] at h;cases h
    exact f3 id (by rw [eA,if_neg this];exact hid)
 have F5:∀b,E0 (aN S0 w φ []) w w' (eT ln φ) cB O b->aN S0 w' w8 O b:=by
  intro b ⟨g1,g2,g3⟩
  have dh:b<w'.heap.size:=by
   rcases g1 with h|h
   ·exact Nat.lt_of_lt_of_le h.1 hB.size
   ·exact h.2
  refine ⟨dh,g2,fun id hid=>?_,?_⟩
  ·cases hl:look ln id with
   | some k=>rw [J6 id k hl] at hid;exact g3 ⟨k,hid⟩
   | none =>
    rw [J7 id hl] at hid
    rcases g1 with h|⟨h|h,-⟩
    ·exact h.2.2.1 id hid
    ·have:=(hs.cW id b hid).2;omega
    ·obtain ⟨c,k,wN,hc⟩:=inr b h
     have:=hs.inj id c b hid hc
     subst this;rw [hl] at wN;cases wN
  ·rcases g1 with h|⟨h|h,-⟩
   ·exact h.2.2.2
   ·exact hs.new b (.inl (Nat.le_trans hs.cX.size h))
   ·obtain ⟨c,k,wN,hc⟩:=inr b h
    exact hs.new b (hs.cW c b hc).1.2
 have Ay:∀id k,look ln id=some k-> ∃r',look ho k=some r'∧look (jd s ln Hb).H id=some (fg (inv ln) r'):=by
  intro id k hk
  obtain ⟨e1,e2⟩:=TN id
  obtain ⟨r',ij⟩:=e2 k hk
  refine ⟨r',ij,?_⟩
  unfold jd
  rw [bM,e1,hk]
  simp [ij]
 have HQ:∀id,look ln id=none->look (jd s ln Hb).H id=look (ba s (fh ln)).H id:=by
  intro id hk
  obtain ⟨e1,-⟩:=TN id
  unfold jd
  rw [bM,e1,hk,r7]
  have:id ∉ ln.map (·.1):=fun hm=>by
   obtain ⟨⟨c,k⟩,L5,e⟩:=List.mem_map.1 hm
   have e:c=id:=e
   subst e
   rw [jJ h1 L5] at hk;cases hk
  simp [this]
 have vars:∀id k,look ln id=some k->1000000000000≤k-> ∃r0 r' g,look s.H id=some r0∧look ho k=some r'∧r0.e=r'.e∧r0.full=true∧r'.full=true∧r0.cells.length=r'.cells.length∧cB k=some g∧φ id=some g:=by
  intro id k hk uG
  rcases pE hv hC id k (kI hk) with ⟨-,r0,r',e1,e2,e3,e4,e5,e6,e7⟩|⟨h,-⟩
  ·have aP:=hB.HV.rows k r' e2
   cases hg:cB k with
   | none =>
    rw [hg] at aP
    have:r'.cells= []:=aP
    rw [this] at e7;simp at e7
   | some g =>
    have:=hB.fix k g uG hg
    unfold eT at this
    rw [(jK h1 h2).2 hk] at this
    exact ⟨r0,r',g,e1,e2,e3,e4,e5,e6,rfl,this⟩
  ·omega
 have F3:∀id x,az (ba s (fh ln)).H Of id=some x->az (jd s ln Hb).H w8 id=some x:=by
  intro id x hx
  obtain ⟨e,m,b⟩:=x
  obtain ⟨q,hq,he,hm,uM⟩:=aQ hx
  obtain ⟨gf,q0,QN,TH,L4,-⟩:=AL id q hq
  rw [eA,if_neg gf] at uM
  cases hl:look ln id with
  | none=>rw [br (r:=q) (by rw [HQ id hl];exact hq),J7 id hl,he,hm,uM]
  | some k =>
   have uG:1000000000000≤k:=by
    rcases Nat.lt_or_ge k 1000000000000 with h|h
    ·exact absurd (qW h (kI hl)) gf
    ·exact h
   obtain ⟨r0,r',g,f1,f2,f3,-,-,f6,f7,f8⟩:=vars id k hl uG
   rw [QN] at f1;injection f1 with f1;subst f1
   obtain ⟨Ug,f9,f10⟩:=Ay id k hl
   rw [f2] at f9;injection f9 with f9;subst f9
   obtain ⟨m1,m2,-,-⟩:=k_ (inv ln) r'
   rw [br f10,m1,m2,J6 id k hl,f7,←f3,←TH,he,←f6,←L4,hm,←uM,f8]
 have F4:∀id e m g,az (ba s (fh ln)).H Of id=some (e,m,some g)->aV w' g=aV w g:=by
  intro id e m g hx
  obtain ⟨q,hq,he,hm,uM⟩:=aQ hx
  obtain ⟨gf,q0,QN,TH,L4,-⟩:=AL id q hq
  rw [eA,if_neg gf] at uM
  cases hl:look ln id with
  | none =>
   have PI:¬lJ (eT ln φ) g:=fun h=>by
    obtain ⟨c,k,wN,hc⟩:=inr g h
    have:=hs.inj id c g uM hc
    subst this;rw [hl] at wN;cases wN
   unfold aV;rw [hB.block g (hs.cW id g uM).2 PI]
  | some k =>
   have uG:1000000000000≤k:=by
    rcases Nat.lt_or_ge k 1000000000000 with h|h
    ·exact absurd (qW h (kI hl)) gf
    ·exact h
   obtain ⟨r0,r',g',f1,f2,-,f4,f5,f6,f7,f8⟩:=vars id k hl uG
   rw [f8] at uM;injection uM with uM;subst uM
   have Tu:=hs.rows id r0 f1
   rw [f8] at Tu
   obtain ⟨cur,te,fr,u1,-,-,u2,-⟩:=Tu
   have ij:=hB.HV.rows k r' f2
   rw [f7] at ij
   obtain ⟨cur',Ua,Q0,v1,-,-,v2,-⟩:=ij
   unfold aV;rw [u1,v1]
   show cur'.size=cur.size
   rw [u2 f4,v2 f5,f6]
 refine ⟨w8,⟨hA.jP,hA.jS,⟨hB.os.trans hs.cX.os,hB.tape.trans hs.cX.tape,hB.output.trans hs.cX.output,Nat.le_trans hs.cX.size hB.size,fun k hk hx=>?_,hs.cX.g0,hs.cX.gx⟩,fun i av hi=>(hA.cC i av hi).mono F3 F2 F4,fun id q hq=>?_,fun id hid=>?_,fun id pd g hg ja=>?_,fun id g hg=>?_,fun id g hg hm=>?_,hs.new⟩,hB.VI.mono F5⟩
 ·have PI:¬lJ (eT ln φ) k:=fun h=>by
   obtain ⟨c,k',wN,hc⟩:=inr k h
   rcases (hs.cW c k hc).1.2 with h|h
   ·omega
   ·exact hx h
  rw [hB.block k (Nat.lt_of_lt_of_le hk hs.cX.size) PI]
  exact hs.cX.block k hk hx
 ·cases hl:look ln id with
  | some k =>
   obtain ⟨r',f2,f10⟩:=Ay id k hl
   rw [f10] at hq;injection hq with hq;subst hq
   rw [J6 id k hl]
   refine (hB.HV.rows k r' f2).Kx (inv ln) (fun i c x UU hx=>?_) F5
   obtain ⟨e,m,b⟩:=x
   obtain ⟨q,hq,he,hm,uM⟩:=aQ hx
   have TK:=(jK h1 h2).1 UU
   obtain ⟨Ug,f3,f4⟩:=Ay c i TK
   rw [hq] at f3;injection f3 with f3;subst f3
   obtain ⟨m1,m2,-,-⟩:=k_ (inv ln) q
   rw [br f4,m1,m2,J6 c i TK,he,hm,uM]
  | none =>
   rw [HQ id hl] at hq
   have gf:id ∉ fh ln:=(AL id q hq).1
   have aP:=hA.rows id q hq
   have e:Of id=w8 id:=by rw [eA,if_neg gf,J7 id hl]
   unfold bN at aP ⊢
   rw [←e]
   cases hg:Of id with
   | none=>rw [hg] at aP;exact aP
   | some g =>
    rw [hg] at aP
    obtain ⟨cur,te,fr,u1,u2,u3,u4,u5⟩:=aP
    have cm:φ id=some g:=by rw [eA,if_neg gf] at hg;exact hg
    have PI:¬lJ (eT ln φ) g:=fun h=>by
     obtain ⟨c,k,wN,hc⟩:=inr g h
     have:=hs.inj id c g cm hc
     subst this;rw [hl] at wN;cases wN
    refine ⟨cur,te,fr,(hB.block g (hs.cW id g cm).2 PI).trans u1,u2,u3,u4,fun j u x hu hx=>?_⟩
    have:=u5 j u x hu hx
    unfold bg at this ⊢
    cases hp:q.pure with
    | true=>rw [hp] at this;exact this.mono F2
    | false=>rw [hp] at this;exact this.mono F3 F2 F4
 ·cases hl:look ln id with
  | some k=>obtain ⟨r',-,f⟩:=Ay id k hl;rw [f] at hid;cases hid
  | none =>
   rw [HQ id hl] at hid
   have gf:id ∉ fh ln:=fun hm=>by obtain ⟨k,h,-⟩:=HB id hm;rw [hl] at h;cases h
   have:=hA.only id hid
   rw [eA,if_neg gf] at this
   rw [J7 id hl,this]
 ·have mixed:∀i j k,look ln i=some k->look ln j=none->cB k=some g->φ j=some g->False:=by
   intro i j k hi hj IG OE
   rcases hB.cW k g IG with h|h
   ·have:=(hs.cW j g OE).2;omega
   ·obtain ⟨c,k',wN,hc⟩:=inr g h
    have:=hs.inj j c g OE hc
    subst this;rw [hj] at wN;cases wN
  cases hl:look ln id with
  | some k =>
   rw [J6 id k hl] at hg
   cases rh:look ln pd with
   | some k' =>
    rw [J6 pd k' rh] at ja
    have:=hB.HV.inj k k' g hg ja
    subst this
    have e1:=(jK h1 h2).2 hl
    have e2:=(jK h1 h2).2 rh
    rw [e1] at e2;injection e2
   | none=>rw [J7 pd rh] at ja;exact (mixed id pd k hl rh hg ja).elim
  | none =>
   rw [J7 id hl] at hg
   cases rh:look ln pd with
   | some k'=>rw [J6 pd k' rh] at ja;exact (mixed pd id k' rh hl ja hg).elim
   | none=>rw [J7 pd rh] at ja;exact hs.inj id pd g hg ja
 ·cases hl:look ln id with
  | none =>
   rw [J7 id hl] at hg
   have:=hs.cW id g hg
   exact ⟨this.1,Nat.lt_of_lt_of_le this.2 hB.size⟩
  | some k =>
   rw [J6 id k hl] at hg
   refine ⟨⟨?_,?_⟩,hB.HV.lt k g hg⟩
   ·rcases pE hv hC id k (kI hl) with ⟨uG,-⟩|⟨-,h⟩
    ·obtain ⟨r0,r',g',-,-,-,-,-,-,f7,f8⟩:=vars id k hl uG
     rw [hg] at f7;injection f7 with f7;subst f7
     exact (hs.cW id g f8).1.1
    ·exact .inl h
   ·rcases hB.cW k g hg with h|h
    ·exact .inl (Nat.le_trans hs.cX.size h)
    ·obtain ⟨c,k',wN,hc⟩:=inr g h
     exact (hs.cW c g hc).1.2
 ·obtain ⟨o1,o2,o3⟩:=hB.own g hm
  cases hl:look ln id with
  | some k=>rw [J6 id k hl] at hg;exact o3 ⟨k,hg⟩
  | none =>
   rw [J7 id hl] at hg
   rcases o1 with h|h
   ·have:=(hs.cW id g hg).2;omega
   ·obtain ⟨c,k',wN,hc⟩:=inr g h
    have:=hs.inj id c g hg hc
    subst this;rw [hl] at wN;cases wN
end
section
variable {P:Program} {n:Nat} {s:AS} {o:Oper} {h:Hint} {q:AS×List Prop}
theorem u9 {c:Callee} {xs:Array Operand} {ts:Array TypeId} (ho:o.op= .call ⟨c,xs,ts⟩) (hr:oe P n s o.dst c xs.toList h=some q):ma P n s o q.1 q.2:=by
 intro hC S0 w0 a w Q ⟨φ,hs⟩
 unfold oe at hr
 split at hr
 ·rename_i f r hc _
  split at hr
  ·rename_i s1 hE Ib
   split at hr
   ·rename_i Hl Hb C hl hb wN hv
    obtain ⟨h1,h2⟩:=Dy wN
    obtain ⟨iH,gU⟩:=fL _ _ _ _ Ib hs
    obtain ⟨PN,hI⟩:=KM gU h1 h2 hl
    have cp:=jq hs hc ho hE
    have main:ga P f (xs.toList.map fun x=>rS h.ln (bp s1 x)) Hl r h.ho->bx C-> ∀s',((∃d,o.dst=some d∧nodupB ((cw d r).2.map (·.1))=true∧gE n ⟨(ba (jd s1 h.ln Hb) ((cw d r).2.map (·.1))).F,(cw d r).2++(ba (jd s1 h.ln Hb) ((cw d r).2.map (·.1))).H⟩ (some d) (cw d r).1=some s')∨(o.dst=none∧s'=jd s1 h.ln Hb))->o.wp P a w (fun a' w'=>iu S0 w0 n s' a' w') Q:=by
     intro nD EG s' hd
     unfold Oper.wp
     rw [cp]
     have mT:=nD w (aN S0 w iH []) (eT h.ln iH) (xs.toList.map a.eval) gU.cX.mG (fun id g hg hb=>by
      obtain ⟨k,hk⟩:∃k,iH k=some g:=by
       unfold eT at hg
       cases hl:look (inv h.ln) id with
       | none=>rw [hl] at hg;cases hg
       | some k=>rw [hl] at hg;exact ⟨k,hg⟩
      rcases (gU.cW k g hk).1.2 with h1|h1
      ·have:=gU.cX.g0.lt hb;omega
      ·exact gU.cX.gx g hb h1) PN (by simp) (fun j v x hv hx=>by
      rw [List.getElem?_map] at hv hx
      cases hj:xs.toList[j]? with
      | none=>rw [hj] at hv;cases hv
      | some y =>
       rw [hj] at hv hx
       injection hv with hv;injection hx with hx;subst hv;subst hx
       exact (gU.bp y).Kx h.ln hI (fun b hb=>hb))
     have e:(xs.toList.map a.eval).toArray=xs.map a.eval:=by apply Array.ext';simp
     rw [e] at mT
     refine mT.mono ?_
     rintro en w' ⟨v,O,cB,rfl,hB⟩
     show iu S0 w0 n s' (a.put o.dst v) w'
     obtain ⟨w8,h3,uF⟩:=Fy gU h1 h2 hb hv EG hB
     have mC:∀g∈O,(w0.heap.size≤g∨S0.X g)∧g<w'.heap.size:=fun g hg=>by
      obtain ⟨o1,o2,-⟩:=hB.own g hg
      refine ⟨?_,o2⟩
      rcases o1 with h|⟨k,hk⟩
      ·exact .inl (Nat.le_trans gU.cX.size h)
      ·unfold eT at hk
       cases hc:look (inv h.ln) k with
       | none=>rw [hc] at hk;cases hk
       | some c=>rw [hc] at hk;exact (gU.cW c g hk).1.2
     rcases hd with ⟨d,hd,zc,eW⟩|⟨hd,rfl⟩
     ·obtain ⟨vt,h4,hF,Ip⟩:=j_ ((cw d r).2.map (·.1)) _ w8 O h3
      have QZ:aL S0 w0 n (O++ []) (ba (jd s1 h.ln Hb) ((cw d r).2.map (·.1))) a w' vt:=by rw [List.append_nil];exact h4
      obtain ⟨T7,h5,h6,-⟩:=vY (ba (jd s1 h.ln Hb) ((cw d r).2.map (·.1))) vt O [] v r d QZ (by rw [List.append_nil];exact uF.mono hF) (by rw [List.append_nil];exact hB.nodup) mC (fun i hi=>⟨Ip i (.inr hi),qX zc i hi⟩) (iB zc)
      rw [hd]
      exact ⟨T7,dW h5 h6 eW⟩
     ·rw [hd]
      have key:∀(O:List Nat),aL S0 w0 n O (jd s1 h.ln Hb) a w' w8->aL S0 w0 n [] (jd s1 h.ln Hb) a w' w8:=by
       intro O
       induction O with
       | nil=>exact fun h=>h
       | cons g O ih=>exact fun h=>ih h.uS
      have h5:=key O h3
      exact ⟨w8,⟨h5.jP,h5.jS,h5.cX,h5.cC,h5.rows,h5.only,h5.inj,h5.cW,h5.apart,h5.new⟩⟩
    split at hr
    ·rename_i d hd
     split at hr
     ·rename_i s' zc eW
      cases hr
      exact main hC.1 hC.2 s' (.inl ⟨d,hd,zc,eW⟩)
     ·cases hr
    ·rename_i hd
     cases hr
     exact main hC.1 hC.2 _ (.inr ⟨hd,rfl⟩)
   ·cases hr
  ·cases hr
 ·cases hr
end
def bk (o:Oper):List Nat:=(o.after.toList.filter (Region.binds .any)).map (·.on)
def rP (ops:Array Oper) (a:Act) (d:Nat):Value :=
 match (ops[d]?).bind (·.dst) with
 | some s=>a.tmps.getD s undef
 | none=>undef
def lD (ops:Array Oper) (n:Nat):Bool :=
 (ops.toList.zipIdx.all fun p=>(bk p.1).all (· <p.2)) && (ops.toList.filterMap (·.dst)).Nodup && (ops.toList.all fun o=>match o.dst with|some s=>decide (s<n)|none=>true)
def eG (l:List (Oper×Nat)) (vs:Nat->Value) (a:Act):Act:=l.foldl (fun a p=>a.put p.1.dst (vs p.2)) a
theorem mn (a:Act) (s:Nat) (v:Value) (h:s<a.tmps.size):(a.put (some s) v).tmps[s]?=some v:=by
 simp [Act.put,h]
theorem gZ (a:Act) (d:Option Nat) (s:Nat) (v:Value) (h:d≠some s):(a.put d v).tmps[s]?=a.tmps[s]?:=by
 cases d with
 | none=>rfl
 | some t =>
  have:t≠s:=fun e=>h (by rw [e])
  simp [Act.put,Array.getElem?_setIfInBounds_ne this]
theorem pQ (a:Act) (d:Option Nat) (v:Value):(a.put d v).tmps.size=a.tmps.size:=by
 cases d<;>simp [Act.put]
theorem put_defers (a:Act) (d:Option Nat) (v:Value):(a.put d v).defers=a.defers:=by
 cases d<;>simp [Act.put]
theorem jI (vs:Nat->Value):∀(l:List (Oper×Nat)) (a:Act),(l.filterMap (·.1.dst)).Nodup ->
  (eG l vs a).tmps.size=a.tmps.size∧(eG l vs a).defers=a.defers ∧
  (∀p∈l,∀s,p.1.dst=some s->s<a.tmps.size->(eG l vs a).tmps[s]?=some (vs p.2)) ∧
  (∀s,(∀p∈l,p.1.dst≠some s)->(eG l vs a).tmps[s]?=a.tmps[s]?)
 | [],a,_=>⟨rfl,rfl,by simp,fun _ _=>rfl⟩
 | p::l,a,hn=>by
  have sF:(l.filterMap (·.1.dst)).Nodup:=by
   cases hd:p.1.dst with
   | none=>rw [List.filterMap_cons_none (by simpa using hd)] at hn;exact hn
   | some s=>rw [List.filterMap_cons_some (by simpa using hd)] at hn;exact (List.nodup_cons.1 hn).2
  obtain ⟨h1,h2,h3,h4⟩:=jI vs l (a.put p.1.dst (vs p.2)) sF
  refine ⟨h1.trans (pQ ..),h2.trans (put_defers ..),fun q hq s hs dh=>?_,fun s hs=>?_⟩
  ·rcases List.mem_cons.1 hq with rfl|hq
   ·have gf:∀p∈l,p.1.dst≠some s:=by
     intro p' Ew he
     rw [List.filterMap_cons_some (by simpa using hs)] at hn
     exact (List.nodup_cons.1 hn).1 (List.mem_filterMap.2 ⟨p',Ew,he⟩)
    show (eG l vs (a.put q.1.dst (vs q.2))).tmps[s]?=_
    rw [h4 s gf,hs]
    exact mn a s _ dh
   ·exact h3 q hq s hs (by rw [pQ];exact dh)
  ·show (eG l vs (a.put p.1.dst (vs p.2))).tmps[s]?=_
   rw [h4 s fun q hq=>hs q (List.mem_cons_of_mem _ hq),gZ a _ s _ (hs p (List.mem_cons_self ..))]
def gQ (P:Program) (ops:Array Oper) (Q:Exit->Act->World->Prop) (o:Oper) (a:Act) (w:World) (R:Value->World->Prop):Prop :=
 if Region.wanted o (yielded ops a.tmps) then o.wp P a w (fun a' w'=>∃v,a'=a.put o.dst v∧Below w.heap.size w w'∧R v w') Q else R undef w
section
variable {P:Program} {ops:Array Oper} {Q:Exit->Act->World->Prop} {a:Act} {w:World}
structure Inv (ops:Array Oper) (F:Nat->Value->World->Prop) (a:Act) (w:World) (listed:Array Bool) (a':Act) (w':World):Prop where
 grown:Below w.heap.size w w'
 size:listed.size=ops.size
 closed:∀k o,listed.getD k false=true->ops[k]?=some o-> ∀d∈bk o,listed.getD d false=true
 zu:a'.tmps.size=a.tmps.size
 sS:a'.defers=a.defers
 val:∀k o s,listed.getD k false=true->ops[k]?=some o->o.dst=some s-> ∃v,a'.tmps[s]?=some v∧F k v w'
 Ed:∀k o,listed.getD k false=true->ops[k]?=some o->o.dst=none-> ∃v,F k v w'
 old:∀s,(∀k o,listed.getD k false=true->ops[k]?=some o->o.dst≠some s)->a'.tmps[s]?=a.tmps[s]?
theorem fR {n:Nat} (h:lD ops n=true):(∀(k:Nat) (o:Oper),ops[k]?=some o-> ∀d∈bk o,d<k)∧(ops.toList.filterMap (·.dst)).Nodup∧(∀(k:Nat) (o:Oper) (s:Nat),ops[k]?=some o->o.dst=some s->s<n):=by
 unfold lD at h
 simp only [Bool.and_eq_true,List.all_eq_true,decide_eq_true_eq] at h
 obtain ⟨⟨h1,h2⟩,h3⟩:=h
 refine ⟨fun k o ho d hd=>?_,h2,fun k o s ho hs=>?_⟩
 ·have hm:(o,k)∈ops.toList.zipIdx:=by rw [List.mem_zipIdx_iff_getElem?];simpa using ho
  exact h1 (o,k) hm d hd
 ·have hm:o∈ops.toList:=by
   rw [←Array.getElem?_toList] at ho
   exact List.mem_of_getElem? ho
  have:=h3 o hm
  rw [hs] at this
  simpa using this
theorem oo (hn:(ops.toList.filterMap (·.dst)).Nodup) {j k:Nat} {o p:Oper} {s:Nat} (hj:ops[j]?=some o) (hk:ops[k]?=some p) (ho:o.dst=some s) (hp:p.dst=some s):j=k:=by
 rw [←Array.getElem?_toList] at hj hk
 have key:∀(l:List Oper) (j k:Nat),(l.filterMap (·.dst)).Nodup->l[j]?=some o->l[k]?=some p->j=k:=by
  intro l
  induction l with
  | nil=>intro j k _ h;simp at h
  | cons x l ih =>
   intro j k hn hj hk
   have sF:(l.filterMap (·.dst)).Nodup:=by
    cases hd:x.dst with
    | none=>rw [List.filterMap_cons_none (by simpa using hd)] at hn;exact hn
    | some s=>rw [List.filterMap_cons_some (by simpa using hd)] at hn;exact (List.nodup_cons.1 hn).2
   have fresh:∀(i:Nat) (q:Oper),x.dst=some s->l[i]?=some q->q.dst≠some s:=by
    intro i q hx hq he
    rw [List.filterMap_cons_some (by simpa using hx)] at hn
    exact (List.nodup_cons.1 hn).1 (List.mem_filterMap.2 ⟨q,List.mem_of_getElem? hq,he⟩)
   cases j with
   | zero =>
    cases k with
    | zero=>rfl
    | succ k =>
     simp at hj hk;subst hj
     exact absurd hp (fresh k p ho hk)
   | succ j =>
    cases k with
    | zero =>
     simp at hj hk;subst hk
     exact absurd ho (fresh j o hp hj)
    | succ k=>rw [ih j k sF (by simpa using hj) (by simpa using hk)]
 exact key ops.toList j k hn hj hk
end
section
variable {P:Program} {ops:Array Oper} {Q:Exit->Act->World->Prop} {a:Act} {w:World}
theorem pv (l:List Bool):∀i:Nat,l[i]?=some false->((l.set i true).filter (· == false)).length+1=(l.filter (· == false)).length:=by
 induction l with
 | nil=>intro i hi;simp at hi
 | cons x l ih =>
  intro i hi
  cases i with
  | zero=>simp at hi;subst hi;simp
  | succ i =>
   simp only [List.set_cons_succ]
   have:=ih i (by simpa using hi)
   cases x
   ·rw [List.filter_cons_of_pos rfl,List.filter_cons_of_pos rfl];simp only [List.length_cons];omega
   ·rw [List.filter_cons_of_neg (by simp),List.filter_cons_of_neg (by simp)];exact this
theorem BH {n T:Nat} (hT:T<ops.size) (J2:Region.sinkB .any ops T=true) (vJ:Region.chainB .any ops T=true) (Pt:Region.seqB .any ops (ops.size-T) T ((List.range ops.size).map (decide<| · <T)).toArray=true) (dw:a.tmps.size=n) (hB:lD ops n=true) (F:Nat->Value->World->Prop) (mono:∀k v w w',Below w.heap.size w w'->F k v w->F k v w')
  (vp:∀k o,k<T->ops[k]?=some o-> ∀a' w',Below w.heap.size w w'->(∀d∈bk o,F d (rP ops a' d) w'∨(∃p,ops[d]?=some p∧p.dst=none))->(∀s,(∀(j:Nat) (p:Oper),j<T->ops[j]?=some p->p.dst≠some s)->a'.eval (.tmp s)=a.eval (.tmp s))->gQ P ops Q o a' w' (F k))
  (ke:∀vs:Nat->Value,∀w',Below w.heap.size w w'->(∀k,k<T->F k (vs k) w')->wpList P ops Q (ops.toList.drop T) (eG (ops.toList.zipIdx.take T) vs a) w') :
  ∀(fuel:Nat) (listed:Array Bool) (a':Act) (w':World),Inv ops F a w listed a' w'->(∀j,T≤j->listed.getD j false=false) ->
   (listed.toList.filter (· == false)).length=fuel->wpAny P .any ops Q fuel listed a' w':=by
 obtain ⟨dh,ik,vq⟩:=fR hB
 have ky:∀(listed:Array Bool) (a':Act) (w':World),Inv ops F a w listed a' w'-> ∀k,k<T->listed.getD k false=false-> ∃i,i<T∧i∈Region.ready .any ops listed:=by
  intro listed a' w' I k
  induction k using Nat.strongRecOn with
  | _ k ih =>
   intro hk hl
   have iG:k<listed.size:=by rw [I.size];omega
   have r9:k<ops.size:=ah
   have oA:ops[k]?=some ops[k]:=Array.getElem?_eq_getElem r9
   by_cases gi:∀d∈bk ops[k],listed.getD d false=true
   ·refine ⟨k,hk,?_⟩
    rw [mem_ready]
    refine ⟨?_,ops[k],oA,fun e he hb=>gi e.on ?_⟩
    ·simp [iG] at hl ⊢;exact hl
    ·unfold bk
     exact List.mem_map.2 ⟨e,List.mem_filter.2 ⟨by simpa using he,hb⟩,rfl⟩
   ·have:∃d,d∈bk ops[k]∧listed.getD d false=false:=by
     refine Classical.byContradiction fun gf=>gi fun d hd=>?_
     cases hx:listed.getD d false with
     | true=>rfl
     | false=>exact absurd ⟨d,hd,hx⟩ gf
    obtain ⟨d,hd,hx⟩:=this
    exact ih d (dh k _ oA d hd) (by have:=dh k _ oA d hd;omega) hx
 have done:∀(listed:Array Bool) (a':Act) (w':World),Inv ops F a w listed a' w'->(∀k,k<T->listed.getD k false=true)->(∀j,T≤j->listed.getD j false=false)->wpList P ops Q (ops.toList.drop T) a' w':=by
  intro listed a' w' I all tail
  have hv:∀k,∃v,k<T->(F k v w'∧ ∀o s,ops[k]?=some o->o.dst=some s->a'.tmps[s]?=some v):=by
   intro k
   by_cases hk:k<T
   ·have r9:k<ops.size:=ah
    have oA:ops[k]?=some ops[k]:=Array.getElem?_eq_getElem r9
    cases hd:ops[k].dst with
    | none =>
     obtain ⟨v,hv⟩:=I.Ed k _ (all k hk) oA hd
     exact ⟨v,fun _=>⟨hv,fun o s ho hs=>by rw [oA] at ho;injection ho with ho;subst ho;rw [hd] at hs;cases hs⟩⟩
    | some s =>
     obtain ⟨v,hv,hF⟩:=I.val k _ s (all k hk) oA hd
     exact ⟨v,fun _=>⟨hF,fun o s' ho hs=>by rw [oA] at ho;injection ho with ho;subst ho;rw [hd] at hs;injection hs with hs;subst hs;exact hv⟩⟩
   ·exact ⟨undef,fun h=>absurd h hk⟩
  obtain ⟨vs,Es⟩:=Classical.axiomOfChoice hv
  have rb:∀p:Oper×Nat,p∈ops.toList.zipIdx.take T↔(p.2<T∧ops[p.2]?=some p.1):=by
   intro p
   rw [List.mem_iff_getElem?]
   constructor
   ·rintro ⟨x,hx⟩
    rw [List.getElem?_take] at hx
    split at hx
    ·rename_i AJ
     rw [List.getElem?_zipIdx] at hx
     cases ho:ops.toList[x]? with
     | none=>rw [ho] at hx;simp at hx
     | some q =>
      rw [ho] at hx
      simp at hx
      subst hx
      exact ⟨by simpa using AJ,by simpa using ho⟩
    ·cases hx
   ·rintro ⟨h1,h2⟩
    refine ⟨p.2,?_⟩
    rw [List.getElem?_take,if_pos h1,List.getElem?_zipIdx]
    have OE:ops.toList[p.2]?=some p.1:=by simpa using h2
    rw [OE];simp
  have jM:=jI vs (ops.toList.zipIdx.take T) a (by
   have h1:(ops.toList.zipIdx.take T).filterMap (·.1.dst)=(ops.toList.take T).filterMap (·.dst):=by
    conv=>rhs;rw [←List.zipIdx_map_fst 0 ops.toList,←List.map_take]
    rw [List.filterMap_map];rfl
   rw [h1]
   exact List.Nodup.sublist ((List.take_sublist T ops.toList).filterMap _) ik)
  have he:a'=eG (ops.toList.zipIdx.take T) vs a:=by
   have ht:a'.tmps=(eG (ops.toList.zipIdx.take T) vs a).tmps:=by
    apply Array.ext_getElem?
    intro s
    by_cases hs:∃(k:Nat) (o:Oper),k<T∧ops[k]?=some o∧o.dst=some s
    ·obtain ⟨k,o,hk,ho,hd⟩:=hs
     rw [(Es k hk).2 o s ho hd]
     exact (jM.2.2.1 (o,k) ((rb _).2 ⟨hk,ho⟩) s hd (by rw [dw];exact vq k o s ho hd)).symm
    ·rw [I.old s fun k o hl ho hd=>hs ⟨k,o,(Classical.byContradiction fun hk=>(by have:=tail k (Nat.le_of_not_lt hk);rw [this] at hl;cases hl)),ho,hd⟩]
     exact (jM.2.2.2 s fun p hp hd=>hs ⟨p.2,p.1,((rb p).1 hp).1,((rb p).1 hp).2,hd⟩).symm
   have hd:a'.defers=(eG (ops.toList.zipIdx.take T) vs a).defers:=I.sS.trans jM.2.1.symm
   cases a';cases h:eG (ops.toList.zipIdx.take T) vs a
   rw [h] at ht hd
   simp only at ht hd
   rw [ht,hd]
  rw [he]
  exact ke vs w' I.grown fun k hk=>(Es k hk).1
 have rest:∀(fuel:Nat) (listed:Array Bool) (a':Act) (w':World),Inv ops F a w listed a' w'->(∀j,T≤j->listed.getD j false=false)->(listed.toList.filter (· == false)).length=fuel->(∀k,k<T->listed.getD k false=true)->wpAny P .any ops Q fuel listed a' w':=by
  intro fuel listed a' w' I tail hc all
  have nG:listed=((List.range ops.size).map (decide<| · <T)).toArray:=by
   apply Array.ext_getElem?
   intro x
   by_cases hx:x<ops.size
   ·have Er:x<listed.size:=by rw [I.size];exact hx
    have hr:((List.range ops.size).map (decide<| · <T)).toArray[x]?=some (decide (x<T)):=by simp [hx]
    rw [hr]
    by_cases AJ:x<T
    ·have:=all x AJ;simp [Er] at this ⊢;rw [this,decide_eq_true AJ]
    ·have:=tail x ah;simp [Er] at this ⊢;rw [this,decide_eq_false AJ]
   ·rw [Array.getElem?_eq_none (by rw [I.size];omega),Array.getElem?_eq_none (by simp;omega)]
  have hlen:fuel=(ops.toList.drop T).length:=by
   rw [←hc,nG]
   simp only [List.length_drop,Array.length_toList,List.filter_map,List.length_map]
   have key:∀n,T≤n->((List.range n).filter ((fun x=>x == false) ∘ (decide<| · <T))).length=n-T:=by
    intro n hn
    induction n with
    | zero=>simp
    | succ n ih =>
     rw [List.range_succ,List.filter_append,List.length_append]
     by_cases PK:T≤n
     ·rw [ih PK]
      have:((fun x=>x == false) ∘ (decide<| · <T)) n=true:=by simp;omega
      rw [List.filter_cons_of_pos this];simp;omega
     ·obtain rfl:T=n+1:=ah
      have h1:(List.range n).filter ((fun x=>x == false) ∘ (decide<| · <n+1))= []:=by
       rw [List.filter_eq_nil_iff];intro x hx;have:=List.mem_range.1 hx;simp;omega
      have h2:[n].filter ((fun x=>x == false) ∘ (decide<| · <n+1))= []:=by
       rw [List.filter_eq_nil_iff];intro x hx;simp at hx;subst hx;simp
      rw [h1,h2];simp
   exact key ops.size ah
  rw [hlen]
  refine wpAny_of_seq (ops.toList.drop T) T listed a' w' (fun j=>by rw [List.getElem?_drop];simp) ?_ (done listed a' w' I all tail)
  rw [nG]
  simpa using Pt
 intro fuel
 induction fuel with
 | zero =>
  intro listed a' w' I tail hc
  refine rest 0 listed a' w' I tail hc fun k hk=>?_
  cases hx:listed.getD k false with
  | true=>rfl
  | false =>
   exfalso
   have iG:k<listed.size:=by rw [I.size];omega
   have:false∈listed.toList.filter (· == false):=by
    refine List.mem_filter.2 ⟨?_,rfl⟩
    have h1:listed.toList[k]?=some false:=by simp [iG] at hx ⊢;exact hx
    exact List.mem_of_getElem? h1
   have:=List.length_pos_of_mem this
   omega
 | succ fuel ih =>
  intro listed a' w' I tail hc
  by_cases hex:∀k,k<T->listed.getD k false=true
  ·exact rest (fuel+1) listed a' w' I tail hc hex
  have Po:∃k,k<T∧listed.getD k false=false:=by
   refine Classical.byContradiction fun gf=>hex fun k hk=>?_
   cases hx:listed.getD k false with
   | true=>rfl
   | false=>exact absurd ⟨k,hk,hx⟩ gf
  obtain ⟨k0,xU,H7⟩:=Po
  have P_:HeadInv .any ops T listed:=⟨I.size,fun j oj hj hl e he hb=>I.closed j oj hl hj e.on (by
    unfold bk
    exact List.mem_map.2 ⟨e,List.mem_filter.2 ⟨by simpa using he,hb⟩,rfl⟩),fun t ht Ps=>getD_in (by rw [I.size];exact Ps) (tail t ht)⟩
  have Iw:listed.getD k0 true=false:=getD_in (by rw [I.size];omega) H7
  refine ⟨fun hr=>(by
   obtain ⟨i,_,hi⟩:=ky listed a' w' I k0 xU H7
   rw [hr] at hi;cases hi),fun i hi=>?_⟩
  have PR:i<T:=Classical.byContradiction fun h=>tail_waits J2 vJ hT P_ _ k0 rfl xU Iw i ah hi
  obtain ⟨h0,o,ho,gi⟩:=mem_ready.1 hi
  have Ix:i<listed.size:=by rw [I.size];exact (Array.getElem?_eq_some_iff.1 ho).1
  have OG:listed.getD i false=false:=by simp [Ix] at h0 ⊢;exact h0
  have jc:∀d∈bk o,listed.getD d false=true:=by
   intro d hd
   unfold bk at hd
   obtain ⟨e,he,rfl⟩:=List.mem_map.1 hd
   obtain ⟨Mb,K6⟩:=List.mem_filter.1 he
   exact gi e (by simpa using Mb) K6
  have next:∀v fp,Below w'.heap.size w' fp->F i v fp->Inv ops F a w (listed.setIfInBounds i true) (a'.put o.dst v) fp:=by
   intro v fp hb hF
   have lists:∀k,(listed.setIfInBounds i true).getD k false=true->k=i∨listed.getD k false=true:=by
    intro k hk
    by_cases sG:i=k
    ·exact .inl sG.symm
    ·right;rw [getD_set_ne false sG] at hk;exact hk
   refine ⟨I.grown.pI hb,by simpa using I.size,?_,(pQ ..).trans I.zu,(put_defers ..).trans I.sS,?_,?_,?_⟩
   ·intro k p hk hp d hd
    rcases lists k hk with rfl|hk
    ·rw [ho] at hp;injection hp with hp;subst hp
     exact getD_set_true (jc d hd)
    ·exact getD_set_true (I.closed k p hk hp d hd)
   ·intro k p s hk hp hs
    rcases lists k hk with rfl|hk
    ·rw [ho] at hp;injection hp with hp;subst hp
     refine ⟨v,?_,hF⟩
     rw [hs]
     exact mn a' s v (by rw [I.zu,dw];exact vq k _ s ho hs)
    ·obtain ⟨u,hu,Sx⟩:=I.val k p s hk hp hs
     refine ⟨u,?_,mono k u w' fp hb Sx⟩
     rw [gZ a' o.dst s v fun he=>?_]
     ·exact hu
     ·have:=oo ik ho hp he hs
      subst this
      rw [OG] at hk;cases hk
   ·intro k p hk hp hs
    rcases lists k hk with rfl|hk
    ·exact ⟨v,hF⟩
    ·obtain ⟨u,hu⟩:=I.Ed k p hk hp hs
     exact ⟨u,mono k u w' fp hb hu⟩
   ·intro s hs
    rw [gZ a' o.dst s v (hs i o (by simp [Ix]) ho)]
    exact I.old s fun k p hk hp=>hs k p (getD_set_true hk) hp
  have nC:∀j,T≤j->(listed.setIfInBounds i true).getD j false=false:=fun j hj=>by rw [getD_set_ne false ah];exact tail j hj
  have nF:((listed.setIfInBounds i true).toList.filter (· == false)).length=fuel:=by
   have PM:((listed.setIfInBounds i true).toList.filter (· == false)).length+1=(listed.toList.filter (· == false)).length:=by
    rw [Array.toList_setIfInBounds]
    have jj:listed.toList[i]?=some false:=by simp [Ix] at h0 ⊢;exact h0
    exact pv _ i jj
   omega
  have iP:=vp i o PR ho a' w' I.grown (fun d hd=>by
   have hl:=jc d hd
   cases hp:ops[d]? with
   | none =>
    have qD:d<listed.size:=by
     rcases Nat.lt_or_ge d listed.size with h|h
     ·exact h
     ·simp [Array.getElem?_eq_none h] at hl
    rw [I.size] at qD
    rw [Array.getElem?_eq_getElem qD] at hp;cases hp
   | some p =>
    cases hs:p.dst with
    | none=>exact .inr ⟨p,rfl,hs⟩
    | some s =>
     left
     obtain ⟨u,hu,hF⟩:=I.val d p s hl hp hs
     unfold rP
     rw [hp]
     simp only [Option.bind_some,hs]
     simp [hu];exact hF) (fun s hs=>by
   show a'.tmps.getD s undef=a.tmps.getD s undef
   have:a'.tmps[s]?=a.tmps[s]?:=I.old s fun k p hk hp hd=>by
    have vG:k<T:=Classical.byContradiction fun h=>(by have:=tail k (Nat.le_of_not_lt h);rw [this] at hk;cases hk)
    exact hs k p vG hp hd
   simp [this])
  unfold gQ at iP
  unfold wpOp
  rw [ho]
  simp only
  by_cases hw:Region.wanted o (yielded ops a'.tmps)=true
  ·rw [if_pos hw] at iP ⊢
   left
   exact Oper.wp_mono (fun rK fp ⟨v,he,hb,hF⟩=>by
    subst he
    exact ih _ _ _ (next v fp hb hF) nC nF) iP
  ·rw [if_neg hw] at iP ⊢
   exact ih _ _ _ (next undef w' (Below.refl _ _) iP) nC nF
def oG (ops:Array Oper) (T:Nat):Bool :=
 decide (T<ops.size) && Region.sinkB .any ops T && Region.chainB .any ops T && Region.seqB .any ops (ops.size-T) T ((List.range ops.size).map (decide<| · <T)).toArray
end
end Go.Proofs.YtjgbhhnghedgdaaGreatDoor
