import Derived.Test.YtjgbhhnghedgdaaGreatDoorZbRB
import Derived.Orders
import Derived.BigCall
import Derived.StillTail
set_option linter.all false
namespace Go.Proofs.YtjgbhhnghedgdaaGreatDoor
open Go.RowKit
def g_ (ρ :List (Nat×Nat)):AV->AV
 | .ref i=>match look ρ i with|some k=>.ref k|none=>.dead
 | .pre i n=>match look ρ i with|some k=>.pre k n|none=>.dead
 | .jr i o n=>match look ρ i with|some k=>.jr k o n|none=>.dead
 | .addr i o=>match look ρ i with|some k=>.addr k o|none=>.dead
 | .agg _=>.dead
 | .bt _=>.dead
 | x=>x
def DZ (ρ :List (Nat×Nat)):AV->AV
 | .agg cs=>.agg (cs.map (g_ ρ))
 | x=>g_ ρ x
def rS (ρ :List (Nat×Nat)):AV->AV
 | .bt cs=>.bt (cs.map (DZ ρ))
 | x=>DZ ρ x
def fj (ρ :List (Nat×Nat)) (r:Row):Row:=match r.pure with|true=>r|false=>⟨r.e,false,r.full,r.cells.map (g_ ρ)⟩
theorem lb (ρ :List (Nat×Nat)) (r:Row):(fj ρ r).e=r.e∧(fj ρ r).cells.length=r.cells.length∧(fj ρ r).pure=r.pure∧(fj ρ r).full=r.full:=by
 unfold fj;cases h:r.pure<;>simp [h]
section
variable {I I':Info} {S S':Nat->Prop} {w:World}
theorem zM (ρ :List (Nat×Nat)) (hI:∀i k x,look ρ i=some k->I i=some x->I' k=some x) (hS:∀b,S b->S' b):jV I I' S S' w (g_ ρ) where
 agg:=fun _=>rfl
 bt:=fun _=>rfl
 leaf:=fun v x hx h1 h2=>by
  have sJ:∀b,S b->S' b∧w.heap[b]?=w.heap[b]?:=fun b h=>⟨hS b h,rfl⟩
  cases hx with
  | rep h=>cases h with
   | val v=>exact .rep (.val v)
   | nil=>exact .rep .nil
   | agg vs cs _ _=>exact absurd rfl (h1 cs)
   | bt vs cs _ _=>exact absurd rfl (h2 cs)
   | arr vs cs hl h=>exact .rep ((cB.arr vs cs hl h).mono sJ)
   | sl A n c e us row hl hn hc hm ha h=>exact .rep ((cB.sl A n c e us row hl hn hc hm ha h).mono sJ)
   | pf A n e us row hl hn hm ha h=>exact .rep ((cB.pf A n e us row hl hn hm ha h).mono sJ)
   | ptr ad us row off hl hs ha h=>exact .rep ((cB.ptr ad us row off hl hs ha h).mono sJ)
   | lK f vs cs hl h=>exact .rep ((cB.lK f vs cs hl h).mono sJ)
  | agg vs cs _ _=>exact absurd rfl (h1 cs)
  | bt vs cs _ _=>exact absurd rfl (h2 cs)
  | ref i e m g l c hi hm hc hx hs =>
   cases h:look ρ i with
   | none=>simp only [g_,h];exact .dead _
   | some k=>simp only [g_,h];exact .ref k _ m g l c (hI _ _ _ h hi) hm hc hx hs
  | cH i e hi =>
   cases h:look ρ i with
   | none=>simp only [g_,h];exact .dead _
   | some k=>simp only [g_,h];exact .cH k _ (hI _ _ _ h hi)
  | pre i n e m g l c hi hn hm hc hx hs =>
   cases h:look ρ i with
   | none=>simp only [g_,h];exact .dead _
   | some k=>simp only [g_,h];exact .pre k n _ m g l c (hI _ _ _ h hi) hn hm hc hx hs
  | dF i e hi =>
   cases h:look ρ i with
   | none=>simp only [g_,h];exact .dead _
   | some k=>simp only [g_,h];exact .dF k _ (hI _ _ _ h hi)
  | jr i off n e m l c g A hi hn hm hc hx ha =>
   cases h:look ρ i with
   | none=>simp only [g_,h];exact .dead _
   | some k=>simp only [g_,h];exact .jr k off n _ m l c g A (hI _ _ _ h hi) hn hm hc hx ha
  | addr i off e m g hi =>
   cases h:look ρ i with
   | none=>simp only [g_,h];exact .dead _
   | some k=>simp only [g_,h];exact .addr k off _ m g (hI _ _ _ h hi)
  | dead v=>exact .dead _
theorem zJ (ρ :List (Nat×Nat)) (y:AV) (h:∀cs,y≠ .agg cs):DZ ρ y=g_ ρ y:=by
 cases y with
 | agg cs=>exact absurd rfl (h cs)
 | _=>rfl
theorem zI (ρ :List (Nat×Nat)) (y:AV) (h:∀cs,y≠ .bt cs):rS ρ y=DZ ρ y:=by
 cases y with
 | bt cs=>exact absurd rfl (h cs)
 | _=>rfl
theorem Den.Kh (ρ :List (Nat×Nat)) (hI:∀i k x,look ρ i=some k->I i=some x->I' k=some x) (hS:∀b,S b->S' b) {v:Value} {x:AV} (h:Den I S w v x):Den I' S' w v (rS ρ x) :=
 (zM ρ hI hS).two h (fun _=>rfl) (zJ ρ) (fun _=>rfl) (zI ρ)
theorem bN.Kh (ρ :List (Nat×Nat)) (hI:∀i k x,look ρ i=some k->I i=some x->I' k=some x) (hS:∀b,S b->S' b) {b:Option Nat} {r:Row} (h:bN I S w b r):bN I' S' w b (fj ρ r):=by
 obtain ⟨he,hl,hp,hf⟩:=lb ρ r
 cases b with
 | none =>
  have h:r.cells= []:=h
  show (fj ρ r).cells= []
  exact List.eq_nil_of_length_eq_zero (by rw [hl,h];rfl)
 | some g =>
  obtain ⟨cur,te,fr,hg,gy,hle,mT,hc⟩:=h
  refine ⟨cur,te,fr,hg,gy,by rw [hl];exact hle,fun h=>by rw [hl];exact mT (by rw [←hf];exact h),fun j u x hu hx=>?_⟩
  unfold bj
  cases LN:r.pure with
  | true =>
   have e:fj ρ r=r:=by unfold fj;rw [LN]
   rw [e] at hx ⊢
   have:=hc j u x hu hx
   unfold bj at this
   rw [LN] at this ⊢
   exact this.mono fun b hb=>⟨hS b hb,rfl⟩
  | false =>
   have e:(fj ρ r).cells=r.cells.map (g_ ρ):=by unfold fj;rw [LN]
   rw [hp,LN]
   rw [e,List.getElem?_map] at hx
   cases hj:r.cells[j]? with
   | none=>rw [hj] at hx;cases hx
   | some y =>
    rw [hj] at hx;injection hx with hx;subst hx
    have:=hc j u y hu hj
    unfold bj at this
    rw [LN] at this
    exact (zM ρ hI hS).all this
end
def lL (φ:Nat->Option Nat) (g:Nat):Prop:=∃id,φ id=some g
structure NS (S:Nat->Prop) (w:World) (φ:Nat->Option Nat) (H:List (Nat×Row)):Prop where
 sep:∀b,S b->b<w.heap.size∧ ¬lL φ b
 only:∀id,look H id=none->φ id=none
 inj:∀id pc g,φ id=some g->φ pc=some g->id=pc
 lt:∀id g,φ id=some g->g<w.heap.size
 rows:∀id r,look H id=some r->bN (az H φ) S w (φ id) r
def ES (S:Nat->Prop) (w w':World) (φ cE:Nat->Option Nat) (O:List Nat):Nat->Prop:=fun b=>(S b∨((w.heap.size≤b∨lL φ b)∧b<w'.heap.size))∧b ∉ O∧ ¬lL cE b
structure Lv (S:Nat->Prop) (w w':World) (φ cE:Nat->Option Nat) (O:List Nat) (H':List (Nat×Row)) (v:Value) (r:AV):Prop where
 os:w'.os=w.os
 tape:w'.tape=w.tape
 output:w'.output=w.output
 size:w.heap.size≤w'.heap.size
 block:∀b,b<w.heap.size-> ¬lL φ b->w'.heap[b]?=w.heap[b]?
 nodup:O.Nodup
 own:∀g∈O,(w.heap.size≤g∨lL φ g)∧g<w'.heap.size∧ ¬lL cE g
 cY:∀id g,cE id=some g->w.heap.size≤g∨lL φ g
 fix:∀id g,1000000000000≤id->cE id=some g->φ id=some g
 HO:NS (ES S w w' φ cE O) w' cE H'
 Vr:sQ (ES S w w' φ cE O) w' v r O
def dh (P:Program) (f:FuncId) (args:List AV) (H:List (Nat×Row)) (r:AV) (H':List (Nat×Row)):Prop :=
 ∀(w:World) (S:Nat->Prop) (φ:Nat->Option Nat) (vs:List Value),Good w->(∀id g,φ id=some g-> ¬TB g)->NS S w φ H->vs.length=args.length->(∀(j:Nat) v x,vs[j]?=some v->args[j]?=some x->Den (az H φ) S w v x) ->
  Calls P f vs.toArray w fun e w'=>∃v O cE,e= .returned v∧Lv S w w' φ cE O H' v r
def inv:List (Nat×Nat)->List (Nat×Nat)
 | []=>[]
 | (c,k)::l=>(k,c)::inv l
def Ce (i:Nat):List Nat->Bool
 | []=>false
 | j::l=>match Nat.beq i j with|true=>true|false=>Ce i l
theorem Ak (i:Nat):∀(l:List Nat),Ce i l=true↔i∈l
 | []=>by simp [Ce]
 | j::l=>by
  simp only [Ce]
  rcases bJ i j with ⟨h,e⟩|⟨h,e⟩
  ·rw [h];simp [e]
  ·rw [h];simp only [List.mem_cons];rw [Ak i l];simp [e]
def uf:List Nat->Bool
 | []=>true
 | i::l=>match Ce i l with|true=>false|false=>uf l
theorem qY:∀ {l:List Nat},uf l=true->l.Nodup
 | [],_=>List.nodup_nil
 | i::l,h=>by
  simp only [uf] at h
  split at h
  ·cases h
  ·rename_i hn
   rw [List.nodup_cons]
   refine ⟨fun hm=>?_,qY h⟩
   rw [(Ak i l).2 hm] at hn;cases hn
theorem kL {α:Type} {k:Nat} {x:α}:∀ {l:List (Nat×α)},look l k=some x->(k,x)∈l
 | [],h=>by cases h
 | (j,y)::l,h=>by
  rw [aD] at h
  by_cases e:j=k
  ·rw [if_pos e] at h;injection h with h;subst e;subst h;exact List.mem_cons_self ..
  ·rw [if_neg e] at h;exact List.mem_cons_of_mem _ (kL h)
theorem jK {α:Type} {k:Nat} {x:α}:∀ {l:List (Nat×α)},(l.map (·.1)).Nodup->(k,x)∈l->look l k=some x
 | [],_,h=>by cases h
 | (j,y)::l,hn,h=>by
  rw [aD]
  simp only [List.map_cons,List.nodup_cons] at hn
  rcases List.mem_cons.1 h with h|h
  ·cases h;rw [if_pos rfl]
  ·have:j≠k:=fun e=>hn.1 (by rw [e];exact List.mem_map.2 ⟨(k,x),h,rfl⟩)
   rw [if_neg this];exact jK hn.2 h
theorem xC {c k:Nat}:∀ {l:List (Nat×Nat)},(k,c)∈inv l↔(c,k)∈l
 | []=>by simp [inv]
 | (x,y)::l=>by
  simp only [inv,List.mem_cons,xC (l:=l),Prod.mk.injEq]
  constructor<;>(rintro (⟨h1,h2⟩|h);exact .inl ⟨h2,h1⟩;exact .inr h)
theorem Ea:∀(l:List (Nat×Nat)),(inv l).map (·.1)=l.map (·.2)
 | []=>rfl
 | (x,y)::l=>by simp [inv,Ea l]
theorem jL {l:List (Nat×Nat)} (h1:(l.map (·.1)).Nodup) (h2:(l.map (·.2)).Nodup) {c k:Nat}:look (inv l) k=some c↔look l c=some k :=
 ⟨fun h=>jK h1 (xC.1 (kL h)),fun h=>jK (by rw [Ea];exact h2) (xC.2 (kL h))⟩
def iT (s:AS) (ρ :List (Nat×Nat)):List (Nat×Nat)->Option (List (Nat×Row))
 | []=>some []
 | (c,k)::l=>match look s.H c,iT s ρ l with|some r,some m=>some ((k,fj ρ r)::m)|_,_=>none
def nQ (ho:List (Nat×Row)) (ρ :List (Nat×Nat)):List (Nat×Nat)->Option (List (Nat×Row))
 | []=>some []
 | (c,k)::l=>match look ho k,nQ ho ρ l with|some r,some m=>some ((c,fj ρ r)::m)|_,_=>none
theorem oK {s:AS} {ρ :List (Nat×Nat)}:∀ {l:List (Nat×Nat)} {Hl:List (Nat×Row)},iT s ρ l=some Hl-> ∀k,look Hl k=(look (inv l) k).bind fun c=>(look s.H c).map (fj ρ)
 | [],Hl,h,k=>by cases h;rfl
 | (c,k')::l,Hl,h,k=>by
  simp only [iT] at h
  split at h
  ·rename_i r m hr hm
   cases h
   simp only [inv,aD]
   by_cases e:k'=k
   ·rw [if_pos e,if_pos e];simp [hr]
   ·rw [if_neg e,if_neg e];exact oK hm k
  ·cases h
theorem oL {ho:List (Nat×Row)} {ρ :List (Nat×Nat)}:∀ {l:List (Nat×Nat)} {Hb:List (Nat×Row)},nQ ho ρ l=some Hb-> ∀c,look Hb c=(look l c).bind (fun k=>(look ho k).map (fj ρ))∧ ∀k,look l c=some k-> ∃r,look ho k=some r
 | [],Hb,h,c=>by cases h;exact ⟨rfl,fun k h=>by cases h⟩
 | (c',k)::l,Hb,h,c=>by
  simp only [nQ] at h
  split at h
  ·rename_i r m hr hm
   cases h
   simp only [aD]
   by_cases e:c'=c
   ·rw [if_pos e,if_pos e]
    exact ⟨by simp [hr],fun k' h=>by injection h with h;subst h;exact ⟨r,hr⟩⟩
   ·rw [if_neg e,if_neg e];exact oL hm c
  ·cases h
def fk:List (Nat×Nat)->List Nat
 | []=>[]
 | (c,k)::l=>match Nat.ble 1000000000000 k with|true=>fk l|false=>c::fk l
theorem q7 {c:Nat}:∀ {l:List (Nat×Nat)},c∈fk l-> ∃k,(c,k)∈l∧k<1000000000000
 | [],h=>by cases h
 | (c',k)::l,h=>by
  simp only [fk] at h
  split at h
  ·obtain ⟨k',h1,h2⟩:=q7 h;exact ⟨k',by simp [h1],h2⟩
  ·rename_i hb
   rcases List.mem_cons.1 h with rfl|h
   ·exact ⟨k,by simp,by
     rcases Nat.lt_or_ge k 1000000000000 with h|h
     ·exact h
     ·rw [Nat.ble_eq_true_of_le h] at hb;cases hb⟩
   ·obtain ⟨k',h1,h2⟩:=q7 h;exact ⟨k',by simp [h1],h2⟩
theorem qW {c k:Nat} (hk:k<1000000000000):∀ {l:List (Nat×Nat)},(c,k)∈l->c∈fk l
 | [],h=>by cases h
 | (c',k')::l,h=>by
  simp only [fk]
  rcases List.mem_cons.1 h with h|h
  ·cases h
   have:Nat.ble 1000000000000 k=false:=by
    cases hb:Nat.ble 1000000000000 k with
    | false=>rfl
    | true=>have:=Nat.le_of_ble_eq_true hb;omega
   rw [this];simp
  ·have:=qW hk h
   split
   ·exact this
   ·simp [this]
def pF (s:AS) (ho:List (Nat×Row)):List (Nat×Nat)->Option (List Prop)
 | []=>some []
 | (c,k)::l=>match Nat.ble 1000000000000 k,pF s ho l with
  | true,some C=>(match look s.H c,look ho k with
   | some ⟨e,_,true,cs⟩,some ⟨e',_,true,JV⟩=>(match Nat.beq e e' with|true=>some ((cs.length=JV.length∧0<JV.length)::C)|false=>none)
   | _,_=>none)
  | false,some C=>(match Nat.ble c 999999999999 with|true=>some C|false=>none)
  | _,none=>none
theorem pE {s:AS} {ho:List (Nat×Row)}:∀ {l:List (Nat×Nat)} {C:List Prop},pF s ho l=some C->bz C-> ∀c k,(c,k)∈l ->
  (1000000000000≤k∧ ∃r r',look s.H c=some r∧look ho k=some r'∧r.e=r'.e∧r.full=true∧r'.full=true∧r.cells.length=r'.cells.length∧0<r'.cells.length)∨(k<1000000000000∧c<1000000000000)
 | [],C,h,hC,c,k,hm=>by cases hm
 | (c',k')::l,C,h,hC,c,k,hm=>by
  simp only [pF] at h
  split at h
  ·rename_i C1 hb hr
   split at h
   ·rename_i e p cs e' p' JV h1 h2
    split at h
    ·rename_i he
     cases h
     rcases List.mem_cons.1 hm with hm|hm
     ·cases hm
      exact .inl ⟨Nat.le_of_ble_eq_true hb,_,_,h1,h2,Nat.eq_of_beq_eq_true he,rfl,rfl,hC.1.1,hC.1.2⟩
     ·exact pE hr hC.2 c k hm
    ·cases h
   ·cases h
  ·rename_i C1 hb hr
   split at h
   ·rename_i hc
    cases h
    rcases List.mem_cons.1 hm with hm|hm
    ·obtain ⟨rfl,rfl⟩:c=c'∧k=k':=by simpa using hm
     have:=Nat.le_of_ble_eq_true hc
     have hk:k<1000000000000:=by
      rcases Nat.lt_or_ge k 1000000000000 with h|h
      ·exact h
      ·rw [Nat.ble_eq_true_of_le h] at hb;cases hb
     exact .inr ⟨hk,aj⟩
    ·exact pE hr hC c k hm
   ·cases h
  ·cases h
def yy (ln:List (Nat×Nat)):Bool:=match uf (ln.map (·.1)) with|true=>uf (ln.map (·.2))|false=>false
theorem Dr {ln:List (Nat×Nat)} (h:yy ln=true):(ln.map (·.1)).Nodup∧(ln.map (·.2)).Nodup:=by
 unfold yy at h
 split at h
 ·rename_i h1;exact ⟨qY h1,qY h⟩
 ·cases h
def ph {α:Type} (H:List (Nat×α)):List Nat->List (Nat×α)
 | []=>H
 | i::l=>ph (cU H i) l
theorem r7 {α:Type}:∀(l:List Nat) (H:List (Nat×α)) (i:Nat),look (ph H l) i=if i∈l then none else look H i
 | [],H,i=>by simp [ph]
 | j::l,H,i=>by
  simp only [ph]
  rw [r7 l,bH]
  by_cases e:j=i
  ·subst e;simp
  ·by_cases h:i∈l
   ·simp [h]
   ·simp [h,e,Ne.symm e]
def je (s:AS) (ln:List (Nat×Nat)) (Hb:List (Nat×Row)):AS:=⟨(a8 s (fk ln)).F,Hb++ph (a8 s (fk ln)).H (ln.map (·.1))⟩
def og (P:Program) (n:Nat) (s:AS) (d:Option Nat) (c:Callee) (args:List Operand) (h:Hint):Option (AS×List Prop) :=
 match callee s c,h.av with
 | some f,some r=>(match ie P f,gg s (((args.map (bq s)).flatMap p8).filter fun i=> !(Ce i (h.ln.map (·.1)))) with
  | true,some s1=>(match iT s1 h.ln h.ln,nQ h.ho (inv h.ln) h.ln,yy h.ln,pF s1 h.ho h.ln with
   | some Hl,some Hb,true,some C=>(match d with
    | some d=>(match nodupB ((cy d r).2.map (·.1)),gG n ⟨(a8 (je s1 h.ln Hb) ((cy d r).2.map (·.1))).F,(cy d r).2++(a8 (je s1 h.ln Hb) ((cy d r).2.map (·.1))).H⟩ (some d) (cy d r).1 with
     | true,some s'=>some (s',dh P f (args.map fun x=>rS h.ln (bq s1 x)) Hl r h.ho::C)
     | _,_=>none)
    | none=>some (je s1 h.ln Hb,dh P f (args.map fun x=>rS h.ln (bq s1 x)) Hl r h.ho::C))
   | _,_,_,_=>none)
  | _,_=>none)
 | _,_=>none
section
variable {P:Program} {S0:bo} {w0 w w':World} {n:Nat} {s:AS} {a:Act} {φ:Nat->Option Nat}
theorem xh:∀(l:List Nat) (s:AS) (φ:Nat->Option Nat) (O:List Nat),aJ S0 w0 n O s a w φ-> ∃O',aJ S0 w0 n O' (a8 s l) a w (fun id=>if id∈l then none else φ id)∧(∀g∈O',g∈O∨ ∃i∈l,φ i=some g)∧(∀g∈O,g∈O')∧(∀i∈l,∀g,φ i=some g->g∈O') ∧
  (∀id q,look (a8 s l).H id=some q->id ∉ l∧ ∃q0,look s.H id=some q0∧q.e=q0.e∧q.cells.length=q0.cells.length∧q.full=q0.full)∧(∀id q0,id ∉ l->look s.H id=some q0-> ∃q,look (a8 s l).H id=some q)
 | [],s,φ,O,h=>by
  have e:(fun id=>if id∈([]:List Nat) then none else φ id)=φ:=by funext id;simp
  rw [e]
  exact ⟨O,h,fun g hg=>.inl hg,fun g hg=>hg,fun i hi=>(by cases hi),fun id q hq=>⟨by simp,q,hq,rfl,rfl,rfl⟩,fun id q0 _ hq=>⟨q0,hq⟩⟩
 | i::l,s,φ,O,h=>by
  have h1:=h.jw i (match φ i with|some g=>g::O|none=>O) rfl
  obtain ⟨O',h2,h3,h4,h5,h6,h7⟩:=xh l _ _ _ h1
  have jZ:∀id,look (ck i s).H id=if i=id then none else (look s.H id).map (cP i):=fun id=>by
   unfold ck;rw [cz,bH];by_cases e:i=id<;>simp [e]
  refine ⟨O',?_,fun g hg=>?_,fun g hg=>h4 g ?_,fun j hj g hg=>?_,fun id q hq=>?_,fun id q0 hid hq=>?_⟩
  ·have:(fun id=>if id∈i::l then none else φ id)=fun id=>if id∈l then none else erase φ i id:=by
    funext id
    unfold erase
    by_cases e1:id=i<;>by_cases e2:id∈l<;>simp [e1,e2]
   rw [this];exact h2
  ·rcases h3 g hg with h|⟨j,hj,jb⟩
   ·cases cm:φ i with
    | none=>rw [cm] at h;exact .inl h
    | some g0 =>
     rw [cm] at h
     rcases List.mem_cons.1 h with rfl|h
     ·exact .inr ⟨i,by simp,cm⟩
     ·exact .inl h
   ·unfold erase at jb
    split at jb
    ·cases jb
    ·exact .inr ⟨j,by simp [hj],jb⟩
  ·cases cm:φ i with
   | none=>exact hg
   | some g0=>simp [hg]
  ·by_cases e:j=i
   ·subst e;exact h4 g (by rw [hg];simp)
   ·rcases List.mem_cons.1 hj with hj|hj
    ·exact absurd hj e
    ·exact h5 j hj g (by unfold erase;rw [if_neg e];exact hg)
  ·obtain ⟨k1,q1,k2,k3,k4,k5⟩:=h6 id q hq
   rw [jZ] at k2
   by_cases e:i=id
   ·rw [if_pos e] at k2;cases k2
   ·rw [if_neg e] at k2
    cases hl:look s.H id with
    | none=>rw [hl] at k2;cases k2
    | some q0 =>
     rw [hl] at k2;injection k2 with k2
     obtain ⟨m1,m2,m3,m4⟩:=fL i q0
     exact ⟨by simp [Ne.symm e,k1],q0,rfl,by rw [k3,←k2,m1],by rw [k4,←k2,m2],by rw [k5,←k2,m4]⟩
  ·simp only [List.mem_cons,not_or] at hid
   exact h7 id (cP i q0) hid.2 (by rw [jZ,if_neg (Ne.symm hid.1),hq];rfl)
def eY (ln:List (Nat×Nat)) (φ:Nat->Option Nat):Nat->Option Nat:=fun k=>(look (inv ln) k).bind φ
theorem KA (hs:aJ S0 w0 n [] s a w φ) {ln:List (Nat×Nat)} (h1:(ln.map (·.1)).Nodup) (h2:(ln.map (·.2)).Nodup) {Hl:List (Nat×Row)} (hl:iT s ln ln=some Hl) :
  NS (aM S0 w φ []) w (eY ln φ) Hl∧(∀i k x,look ln i=some k->az s.H φ i=some x->az Hl (eY ln φ) k=some x):=by
 have lD:=oK hl
 have hI:∀i k x,look ln i=some k->az s.H φ i=some x->az Hl (eY ln φ) k=some x:=by
  intro i k x LW hx
  obtain ⟨e,m,b⟩:=x
  obtain ⟨r,hr,he,hm,hb⟩:=aQ hx
  have sF:=(jL h1 h2).2 LW
  rw [bu (r:=fj ln r) (by rw [lD,sF];simp [hr])]
  obtain ⟨m1,m2,-,-⟩:=lb ln r
  rw [m1,m2,he,hm]
  unfold eY;rw [sF];simp [hb]
 have back:∀k g,eY ln φ k=some g-> ∃c,look (inv ln) k=some c∧φ c=some g:=by
  intro k g hk
  unfold eY at hk
  cases hc:look (inv ln) k with
  | none=>rw [hc] at hk;cases hk
  | some c=>rw [hc] at hk;exact ⟨c,rfl,hk⟩
 refine ⟨⟨fun b hb=>⟨hb.1,fun ⟨k,hk⟩=>?_⟩,fun k hk=>?_,fun k k' g hk oz=>?_,fun k g hk=>?_,fun k r hr=>?_⟩,hI⟩
 ·obtain ⟨c,-,hc⟩:=back k b hk
  exact hb.2.2.1 c hc
 ·rw [lD] at hk
  cases hc:look (inv ln) k with
  | none=>unfold eY;rw [hc];rfl
  | some c =>
   rw [hc] at hk
   have UU:look s.H c=none:=by simpa using hk
   unfold eY;rw [hc];exact hs.only c UU
 ·obtain ⟨c,hc,hg⟩:=back k g hk
  obtain ⟨c',k7,jb⟩:=back k' g oz
  have e:=hs.inj c c' g hg jb
  subst e
  have e1:=(jL h1 h2).1 hc
  have e2:=(jL h1 h2).1 k7
  rw [e1] at e2;injection e2
 ·obtain ⟨c,-,hc⟩:=back k g hk
  exact (hs.cY c g hc).2
 ·rw [lD] at hr
  cases hc:look (inv ln) k with
  | none=>rw [hc] at hr;cases hr
  | some c =>
   rw [hc] at hr
   cases R3:look s.H c with
   | none=>simp [R3] at hr
   | some q =>
    simp [R3] at hr
    subst hr
    have aN:=(hs.rows c q R3).Kh ln hI (fun b hb=>hb)
    have e:eY ln φ k=φ c:=by unfold eY;rw [hc];rfl
    rw [e];exact aN
theorem Fo (hs:aJ S0 w0 n [] s a w φ) {ln:List (Nat×Nat)} (h1:(ln.map (·.1)).Nodup) (h2:(ln.map (·.2)).Nodup) {ho:List (Nat×Row)} {Hb:List (Nat×Row)} (hb:nQ ho (inv ln) ln=some Hb)
  {C:List Prop} (hv:pF s ho ln=some C) (hC:bz C) {cE:Nat->Option Nat} {O:List Nat} {v:Value} {r:AV} (hB:Lv (aM S0 w φ []) w w' (eY ln φ) cE O ho v r) :
  ∃ w7,aJ S0 w0 n O (je s ln Hb) a w' w7∧sQ (aM S0 w' w7 O) w' v r O:=by
 obtain ⟨O0,hA,U7,-,Se,Ay,Tf⟩:=xh (fk ln) s φ [] hs
 generalize Rc:(fun id=>if id∈fk ln then none else φ id)=NV at hA
 have eA:∀id,NV id=if id∈fk ln then none else φ id:=fun id=>by rw [←Rc]
 have Tz:=fun c=>oL hb c
 let w7:Nat->Option Nat:=fun id=>match look ln id with|some k=>cE k|none=>φ id
 have JT:∀id k,look ln id=some k->w7 id=cE k:=fun id k h=>by show (match look ln id with|some k=>cE k|none=>φ id)=_;rw [h]
 have JU:∀id,look ln id=none->w7 id=φ id:=fun id h=>by show (match look ln id with|some k=>cE k|none=>φ id)=_;rw [h]
 have inr:∀g,lL (eY ln φ) g-> ∃c k,look ln c=some k∧φ c=some g:=by
  rintro g ⟨k,hk⟩
  unfold eY at hk
  cases hc:look (inv ln) k with
  | none=>rw [hc] at hk;cases hk
  | some c=>rw [hc] at hk;exact ⟨c,k,(jL h1 h2).1 hc,hk⟩
 have Hu:∀c,c∈fk ln-> ∃k,look ln c=some k∧k<1000000000000:=fun c hc=>by
  obtain ⟨k,hm,hk⟩:=q7 hc
  exact ⟨k,jK h1 hm,hk⟩
 have F2:∀b,aM S0 w NV O0 b->aM S0 w' w7 O b∧w'.heap[b]?=w.heap[b]?:=by
  intro b ⟨f1,f2,f3,f4⟩
  have gh:¬lL (eY ln φ) b:=fun h=>by
   obtain ⟨c,k,wM,hc⟩:=inr b h
   by_cases ho:c∈fk ln
   ·exact f2 (Se c ho b hc)
   ·exact f3 c (by rw [eA,if_neg ho];exact hc)
  refine ⟨⟨Nat.lt_of_lt_of_le f1 hB.size,fun hm=>?_,fun id hid=>?_,f4⟩,hB.block b f1 gh⟩
  ·rcases (hB.own b hm).1 with h|h
   ·omega
   ·exact gh h
  ·cases hl:look ln id with
   | some k =>
    rw [JT id k hl] at hid
    rcases hB.cY k b hid with h|h
    ·omega
    ·exact gh h
   | none =>
    rw [JU id hl] at hid
    have:id ∉ fk ln:=fun hm=>by obtain ⟨k,h,-⟩:=Hu id hm;rw [hl] at h;cases h
    exact f3 id (by rw [eA,if_neg this];exact hid)
 have F5:∀b,ES (aM S0 w φ []) w w' (eY ln φ) cE O b->aM S0 w' w7 O b:=by
  intro b ⟨g1,g2,g3⟩
  have dj:b<w'.heap.size:=by
   rcases g1 with h|h
   ·exact Nat.lt_of_lt_of_le h.1 hB.size
   ·exact h.2
  refine ⟨dj,g2,fun id hid=>?_,?_⟩
  ·cases hl:look ln id with
   | some k=>rw [JT id k hl] at hid;exact g3 ⟨k,hid⟩
   | none =>
    rw [JU id hl] at hid
    rcases g1 with h|⟨h|h,-⟩
    ·exact h.2.2.1 id hid
    ·have:=(hs.cY id b hid).2;omega
    ·obtain ⟨c,k,wM,hc⟩:=inr b h
     have:=hs.inj id c b hid hc
     subst this;rw [hl] at wM;cases wM
  ·rcases g1 with h|⟨h|h,-⟩
   ·exact h.2.2.2
   ·exact hs.new b (.inl (Nat.le_trans hs.cZ.size h))
   ·obtain ⟨c,k,wM,hc⟩:=inr b h
    exact hs.new b (hs.cY c b hc).1.2
 have Am:∀id k,look ln id=some k-> ∃r',look ho k=some r'∧look (je s ln Hb).H id=some (fj (inv ln) r'):=by
  intro id k hk
  obtain ⟨e1,e2⟩:=Tz id
  obtain ⟨r',il⟩:=e2 k hk
  refine ⟨r',il,?_⟩
  unfold je
  rw [bM,e1,hk]
  simp [il]
 have HI:∀id,look ln id=none->look (je s ln Hb).H id=look (a8 s (fk ln)).H id:=by
  intro id hk
  obtain ⟨e1,-⟩:=Tz id
  unfold je
  rw [bM,e1,hk,r7]
  have:id ∉ ln.map (·.1):=fun hm=>by
   obtain ⟨⟨c,k⟩,LQ,e⟩:=List.mem_map.1 hm
   have e:c=id:=e
   subst e
   rw [jK h1 LQ] at hk;cases hk
  simp [this]
 have vars:∀id k,look ln id=some k->1000000000000≤k-> ∃r0 r' g,look s.H id=some r0∧look ho k=some r'∧r0.e=r'.e∧r0.full=true∧r'.full=true∧r0.cells.length=r'.cells.length∧cE k=some g∧φ id=some g:=by
  intro id k hk uI
  rcases pE hv hC id k (kL hk) with ⟨-,r0,r',e1,e2,e3,e4,e5,e6,e7⟩|⟨h,-⟩
  ·have aN:=hB.HO.rows k r' e2
   cases hg:cE k with
   | none =>
    rw [hg] at aN
    have:r'.cells= []:=aN
    rw [this] at e7;simp at e7
   | some g =>
    have:=hB.fix k g uI hg
    unfold eY at this
    rw [(jL h1 h2).2 hk] at this
    exact ⟨r0,r',g,e1,e2,e3,e4,e5,e6,rfl,this⟩
  ·omega
 have F3:∀id x,az (a8 s (fk ln)).H NV id=some x->az (je s ln Hb).H w7 id=some x:=by
  intro id x hx
  obtain ⟨e,m,b⟩:=x
  obtain ⟨q,hq,he,hm,uO⟩:=aQ hx
  obtain ⟨gh,q0,QA,Tt,LP,-⟩:=Ay id q hq
  rw [eA,if_neg gh] at uO
  cases hl:look ln id with
  | none=>rw [bu (r:=q) (by rw [HI id hl];exact hq),JU id hl,he,hm,uO]
  | some k =>
   have uI:1000000000000≤k:=by
    rcases Nat.lt_or_ge k 1000000000000 with h|h
    ·exact absurd (qW h (kL hl)) gh
    ·exact h
   obtain ⟨r0,r',g,f1,f2,f3,-,-,f6,f7,f8⟩:=vars id k hl uI
   rw [QA] at f1;injection f1 with f1;subst f1
   obtain ⟨T3,f9,f10⟩:=Am id k hl
   rw [f2] at f9;injection f9 with f9;subst f9
   obtain ⟨m1,m2,-,-⟩:=lb (inv ln) r'
   rw [bu f10,m1,m2,JT id k hl,f7,←f3,←Tt,he,←f6,←LP,hm,←uO,f8]
 have F4:∀id e m g,az (a8 s (fk ln)).H NV id=some (e,m,some g)->aV w' g=aV w g:=by
  intro id e m g hx
  obtain ⟨q,hq,he,hm,uO⟩:=aQ hx
  obtain ⟨gh,q0,QA,Tt,LP,-⟩:=Ay id q hq
  rw [eA,if_neg gh] at uO
  cases hl:look ln id with
  | none =>
   have Pv:¬lL (eY ln φ) g:=fun h=>by
    obtain ⟨c,k,wM,hc⟩:=inr g h
    have:=hs.inj id c g uO hc
    subst this;rw [hl] at wM;cases wM
   unfold aV;rw [hB.block g (hs.cY id g uO).2 Pv]
  | some k =>
   have uI:1000000000000≤k:=by
    rcases Nat.lt_or_ge k 1000000000000 with h|h
    ·exact absurd (qW h (kL hl)) gh
    ·exact h
   obtain ⟨r0,r',g',f1,f2,-,f4,f5,f6,f7,f8⟩:=vars id k hl uI
   rw [f8] at uO;injection uO with uO;subst uO
   have Tg:=hs.rows id r0 f1
   rw [f8] at Tg
   obtain ⟨cur,te,fr,u1,-,-,u2,-⟩:=Tg
   have il:=hB.HO.rows k r' f2
   rw [f7] at il
   obtain ⟨cur',TW,QN,v1,-,-,v2,-⟩:=il
   unfold aV;rw [u1,v1]
   show cur'.size=cur.size
   rw [u2 f4,v2 f5,f6]
 refine ⟨w7,⟨hA.jQ,hA.jT,⟨hB.os.trans hs.cZ.os,hB.tape.trans hs.cZ.tape,hB.output.trans hs.cZ.output,Nat.le_trans hs.cZ.size hB.size,fun k hk hx=>?_,hs.cZ.g0,hs.cZ.gx⟩,fun i av hi=>(hA.cG i av hi).mono F3 F2 F4,fun id q hq=>?_,fun id hid=>?_,fun id pc g hg jb=>?_,fun id g hg=>?_,fun id g hg hm=>?_,hs.new⟩,hB.Vr.mono F5⟩
 ·have Pv:¬lL (eY ln φ) k:=fun h=>by
   obtain ⟨c,k',wM,hc⟩:=inr k h
   rcases (hs.cY c k hc).1.2 with h|h
   ·omega
   ·exact hx h
  rw [hB.block k (Nat.lt_of_lt_of_le hk hs.cZ.size) Pv]
  exact hs.cZ.block k hk hx
 ·cases hl:look ln id with
  | some k =>
   obtain ⟨r',f2,f10⟩:=Am id k hl
   rw [f10] at hq;injection hq with hq;subst hq
   rw [JT id k hl]
   refine (hB.HO.rows k r' f2).Kh (inv ln) (fun i c x UE hx=>?_) F5
   obtain ⟨e,m,b⟩:=x
   obtain ⟨q,hq,he,hm,uO⟩:=aQ hx
   have Tw:=(jL h1 h2).1 UE
   obtain ⟨T3,f3,f4⟩:=Am c i Tw
   rw [hq] at f3;injection f3 with f3;subst f3
   obtain ⟨m1,m2,-,-⟩:=lb (inv ln) q
   rw [bu f4,m1,m2,JT c i Tw,he,hm,uO]
  | none =>
   rw [HI id hl] at hq
   have gh:id ∉ fk ln:=(Ay id q hq).1
   have aN:=hA.rows id q hq
   have e:NV id=w7 id:=by rw [eA,if_neg gh,JU id hl]
   unfold bN at aN ⊢
   rw [←e]
   cases hg:NV id with
   | none=>rw [hg] at aN;exact aN
   | some g =>
    rw [hg] at aN
    obtain ⟨cur,te,fr,u1,u2,u3,u4,u5⟩:=aN
    have cm:φ id=some g:=by rw [eA,if_neg gh] at hg;exact hg
    have Pv:¬lL (eY ln φ) g:=fun h=>by
     obtain ⟨c,k,wM,hc⟩:=inr g h
     have:=hs.inj id c g cm hc
     subst this;rw [hl] at wM;cases wM
    refine ⟨cur,te,fr,(hB.block g (hs.cY id g cm).2 Pv).trans u1,u2,u3,u4,fun j u x hu hx=>?_⟩
    have:=u5 j u x hu hx
    unfold bj at this ⊢
    cases hp:q.pure with
    | true=>rw [hp] at this;exact this.mono F2
    | false=>rw [hp] at this;exact this.mono F3 F2 F4
 ·cases hl:look ln id with
  | some k=>obtain ⟨r',-,f⟩:=Am id k hl;rw [f] at hid;cases hid
  | none =>
   rw [HI id hl] at hid
   have gh:id ∉ fk ln:=fun hm=>by obtain ⟨k,h,-⟩:=Hu id hm;rw [hl] at h;cases h
   have:=hA.only id hid
   rw [eA,if_neg gh] at this
   rw [JU id hl,this]
 ·have mixed:∀i j k,look ln i=some k->look ln j=none->cE k=some g->φ j=some g->False:=by
   intro i j k hi hj Iz Oq
   rcases hB.cY k g Iz with h|h
   ·have:=(hs.cY j g Oq).2;omega
   ·obtain ⟨c,k',wM,hc⟩:=inr g h
    have:=hs.inj j c g Oq hc
    subst this;rw [hj] at wM;cases wM
  cases hl:look ln id with
  | some k =>
   rw [JT id k hl] at hg
   cases rh:look ln pc with
   | some k' =>
    rw [JT pc k' rh] at jb
    have:=hB.HO.inj k k' g hg jb
    subst this
    have e1:=(jL h1 h2).2 hl
    have e2:=(jL h1 h2).2 rh
    rw [e1] at e2;injection e2
   | none=>rw [JU pc rh] at jb;exact (mixed id pc k hl rh hg jb).elim
  | none =>
   rw [JU id hl] at hg
   cases rh:look ln pc with
   | some k'=>rw [JT pc k' rh] at jb;exact (mixed pc id k' rh hl jb hg).elim
   | none=>rw [JU pc rh] at jb;exact hs.inj id pc g hg jb
 ·cases hl:look ln id with
  | none =>
   rw [JU id hl] at hg
   have:=hs.cY id g hg
   exact ⟨this.1,Nat.lt_of_lt_of_le this.2 hB.size⟩
  | some k =>
   rw [JT id k hl] at hg
   refine ⟨⟨?_,?_⟩,hB.HO.lt k g hg⟩
   ·rcases pE hv hC id k (kL hl) with ⟨uI,-⟩|⟨-,h⟩
    ·obtain ⟨r0,r',g',-,-,-,-,-,-,f7,f8⟩:=vars id k hl uI
     rw [hg] at f7;injection f7 with f7;subst f7
     exact (hs.cY id g f8).1.1
    ·exact .inl h
   ·rcases hB.cY k g hg with h|h
    ·exact .inl (Nat.le_trans hs.cZ.size h)
    ·obtain ⟨c,k',wM,hc⟩:=inr g h
     exact (hs.cY c g hc).1.2
 ·obtain ⟨o1,o2,o3⟩:=hB.own g hm
  cases hl:look ln id with
  | some k=>rw [JT id k hl] at hg;exact o3 ⟨k,hg⟩
  | none =>
   rw [JU id hl] at hg
   rcases o1 with h|h
   ·have:=(hs.cY id g hg).2;omega
   ·obtain ⟨c,k',wM,hc⟩:=inr g h
    have:=hs.inj id c g hg hc
    subst this;rw [hl] at wM;cases wM
end
section
variable {P:Program} {n:Nat} {s:AS} {o:Oper} {h:Hint} {q:AS×List Prop}
theorem u_ {c:Callee} {xs:Array Operand} {ts:Array TypeId} (ho:o.op= .call ⟨c,xs,ts⟩) (hr:og P n s o.dst c xs.toList h=some q):mc P n s o q.1 q.2:=by
 intro hC S0 w0 a w Q ⟨φ,hs⟩
 unfold og at hr
 split at hr
 ·rename_i f r hc _
  split at hr
  ·rename_i s1 hE H5
   split at hr
   ·rename_i Hl Hb C hl hb wM hv
    obtain ⟨h1,h2⟩:=Dr wM
    obtain ⟨iI,gV⟩:=fM _ _ _ _ H5 hs
    obtain ⟨PA,hI⟩:=KA gV h1 h2 hl
    have cp:=jo hs hc ho hE
    have main:dh P f (xs.toList.map fun x=>rS h.ln (bq s1 x)) Hl r h.ho->bz C-> ∀s',((∃d,o.dst=some d∧nodupB ((cy d r).2.map (·.1))=true∧gG n ⟨(a8 (je s1 h.ln Hb) ((cy d r).2.map (·.1))).F,(cy d r).2++(a8 (je s1 h.ln Hb) ((cy d r).2.map (·.1))).H⟩ (some d) (cy d r).1=some s')∨(o.dst=none∧s'=je s1 h.ln Hb))->o.wp P a w (fun a' w'=>iv S0 w0 n s' a' w') Q:=by
     intro nE Ey s' hd
     unfold Oper.wp
     rw [cp]
     have mU:=nE w (aM S0 w iI []) (eY h.ln iI) (xs.toList.map a.eval) gV.cZ.mH (fun id g hg hb=>by
      obtain ⟨k,hk⟩:∃k,iI k=some g:=by
       unfold eY at hg
       cases hl:look (inv h.ln) id with
       | none=>rw [hl] at hg;cases hg
       | some k=>rw [hl] at hg;exact ⟨k,hg⟩
      rcases (gV.cY k g hk).1.2 with h1|h1
      ·have:=gV.cZ.g0.lt hb;omega
      ·exact gV.cZ.gx g hb h1) PA (by simp) (fun j v x hv hx=>by
      rw [List.getElem?_map] at hv hx
      cases hj:xs.toList[j]? with
      | none=>rw [hj] at hv;cases hv
      | some y =>
       rw [hj] at hv hx
       injection hv with hv;injection hx with hx;subst hv;subst hx
       exact (gV.bq y).Kh h.ln hI (fun b hb=>hb))
     have e:(xs.toList.map a.eval).toArray=xs.map a.eval:=by apply Array.ext';simp
     rw [e] at mU
     refine mU.mono ?_
     rintro en w' ⟨v,O,cE,rfl,hB⟩
     show iv S0 w0 n s' (a.put o.dst v) w'
     obtain ⟨w7,h3,uH⟩:=Fo gV h1 h2 hb hv Ey hB
     have mD:∀g∈O,(w0.heap.size≤g∨S0.X g)∧g<w'.heap.size:=fun g hg=>by
      obtain ⟨o1,o2,-⟩:=hB.own g hg
      refine ⟨?_,o2⟩
      rcases o1 with h|⟨k,hk⟩
      ·exact .inl (Nat.le_trans gV.cZ.size h)
      ·unfold eY at hk
       cases hc:look (inv h.ln) k with
       | none=>rw [hc] at hk;cases hk
       | some c=>rw [hc] at hk;exact (gV.cY c g hk).1.2
     rcases hd with ⟨d,hd,yZ,e9⟩|⟨hd,rfl⟩
     ·obtain ⟨vu,h4,hF,Ih⟩:=ka ((cy d r).2.map (·.1)) _ w7 O h3
      have QM:aJ S0 w0 n (O++ []) (a8 (je s1 h.ln Hb) ((cy d r).2.map (·.1))) a w' vu:=by rw [List.append_nil];exact h4
      obtain ⟨TR,h5,h6,-⟩:=vX (a8 (je s1 h.ln Hb) ((cy d r).2.map (·.1))) vu O [] v r d QM (by rw [List.append_nil];exact uH.mono hF) (by rw [List.append_nil];exact hB.nodup) mD (fun i hi=>⟨Ih i (.inr hi),qX yZ i hi⟩) (iC yZ)
      rw [hd]
      exact ⟨TR,dY h5 h6 e9⟩
     ·rw [hd]
      have key:∀(O:List Nat),aJ S0 w0 n O (je s1 h.ln Hb) a w' w7->aJ S0 w0 n [] (je s1 h.ln Hb) a w' w7:=by
       intro O
       induction O with
       | nil=>exact fun h=>h
       | cons g O ih=>exact fun h=>ih h.uT
      have h5:=key O h3
      exact ⟨w7,⟨h5.jQ,h5.jT,h5.cZ,h5.cG,h5.rows,h5.only,h5.inj,h5.cY,h5.apart,h5.new⟩⟩
    split at hr
    ·rename_i d hd
     split at hr
     ·rename_i s' yZ e9
      cases hr
      exact main hC.1 hC.2 s' (.inl ⟨d,hd,yZ,e9⟩)
     ·cases hr
    ·rename_i hd
     cases hr
     exact main hC.1 hC.2 _ (.inr ⟨hd,rfl⟩)
   ·cases hr
  ·cases hr
 ·cases hr
end
def bm (o:Oper):List Nat:=(o.after.toList.filter (Region.binds .any)).map (·.on)
def rQ (ops:Array Oper) (a:Act) (d:Nat):Value :=
 match (ops[d]?).bind (·.dst) with
 | some s=>a.tmps.getD s undef
 | none=>undef
def lF (ops:Array Oper) (n:Nat):Bool :=
 (ops.toList.zipIdx.all fun p=>(bm p.1).all (· <p.2)) && (ops.toList.filterMap (·.dst)).Nodup && (ops.toList.all fun o=>match o.dst with|some s=>decide (s<n)|none=>true)
def eJ (l:List (Oper×Nat)) (vs:Nat->Value) (a:Act):Act:=l.foldl (fun a p=>a.put p.1.dst (vs p.2)) a
theorem mo (a:Act) (s:Nat) (v:Value) (h:s<a.tmps.size):(a.put (some s) v).tmps[s]?=some v:=by
 simp [Act.put,h]
theorem hU (a:Act) (d:Option Nat) (s:Nat) (v:Value) (h:d≠some s):(a.put d v).tmps[s]?=a.tmps[s]?:=by
 cases d with
 | none=>rfl
 | some t =>
  have:t≠s:=fun e=>h (by rw [e])
  simp [Act.put,Array.getElem?_setIfInBounds_ne this]
theorem pP (a:Act) (d:Option Nat) (v:Value):(a.put d v).tmps.size=a.tmps.size:=by
 cases d<;>simp [Act.put]
theorem put_defers (a:Act) (d:Option Nat) (v:Value):(a.put d v).defers=a.defers:=by
 cases d<;>simp [Act.put]
theorem jJ (vs:Nat->Value):∀(l:List (Oper×Nat)) (a:Act),(l.filterMap (·.1.dst)).Nodup ->
  (eJ l vs a).tmps.size=a.tmps.size∧(eJ l vs a).defers=a.defers ∧
  (∀p∈l,∀s,p.1.dst=some s->s<a.tmps.size->(eJ l vs a).tmps[s]?=some (vs p.2)) ∧
  (∀s,(∀p∈l,p.1.dst≠some s)->(eJ l vs a).tmps[s]?=a.tmps[s]?)
 | [],a,_=>⟨rfl,rfl,by simp,fun _ _=>rfl⟩
 | p::l,a,hn=>by
  have sE:(l.filterMap (·.1.dst)).Nodup:=by
   cases hd:p.1.dst with
   | none=>rw [List.filterMap_cons_none (by simpa using hd)] at hn;exact hn
   | some s=>rw [List.filterMap_cons_some (by simpa using hd)] at hn;exact (List.nodup_cons.1 hn).2
  obtain ⟨h1,h2,h3,h4⟩:=jJ vs l (a.put p.1.dst (vs p.2)) sE
  refine ⟨h1.trans (pP ..),h2.trans (put_defers ..),fun q hq s hs dj=>?_,fun s hs=>?_⟩
  ·rcases List.mem_cons.1 hq with rfl|hq
   ·have gh:∀p∈l,p.1.dst≠some s:=by
     intro p' En he
     rw [List.filterMap_cons_some (by simpa using hs)] at hn
     exact (List.nodup_cons.1 hn).1 (List.mem_filterMap.2 ⟨p',En,he⟩)
    show (eJ l vs (a.put q.1.dst (vs q.2))).tmps[s]?=_
    rw [h4 s gh,hs]
    exact mo a s _ dj
   ·exact h3 q hq s hs (by rw [pP];exact dj)
  ·show (eJ l vs (a.put p.1.dst (vs p.2))).tmps[s]?=_
   rw [h4 s fun q hq=>hs q (List.mem_cons_of_mem _ hq),hU a _ s _ (hs p (List.mem_cons_self ..))]
def gS (P:Program) (ops:Array Oper) (Q:Exit->Act->World->Prop) (o:Oper) (a:Act) (w:World) (R:Value->World->Prop):Prop :=
 if Region.wanted o (yielded ops a.tmps) then o.wp P a w (fun a' w'=>∃v,a'=a.put o.dst v∧Below w.heap.size w w'∧R v w') Q else R undef w
section
variable {P:Program} {ops:Array Oper} {Q:Exit->Act->World->Prop} {a:Act} {w:World}
structure Inv (ops:Array Oper) (F:Nat->Value->World->Prop) (a:Act) (w:World) (listed:Array Bool) (a':Act) (w':World):Prop where
 grown:Below w.heap.size w w'
 size:listed.size=ops.size
 closed:∀k o,listed.getD k false=true->ops[k]?=some o-> ∀d∈bm o,listed.getD d false=true
 zi:a'.tmps.size=a.tmps.size
 sV:a'.defers=a.defers
 val:∀k o s,listed.getD k false=true->ops[k]?=some o->o.dst=some s-> ∃v,a'.tmps[s]?=some v∧F k v w'
 D6:∀k o,listed.getD k false=true->ops[k]?=some o->o.dst=none-> ∃v,F k v w'
 old:∀s,(∀k o,listed.getD k false=true->ops[k]?=some o->o.dst≠some s)->a'.tmps[s]?=a.tmps[s]?
theorem fT {n:Nat} (h:lF ops n=true):(∀(k:Nat) (o:Oper),ops[k]?=some o-> ∀d∈bm o,d<k)∧(ops.toList.filterMap (·.dst)).Nodup∧(∀(k:Nat) (o:Oper) (s:Nat),ops[k]?=some o->o.dst=some s->s<n):=by
 unfold lF at h
 simp only [Bool.and_eq_true,List.all_eq_true,decide_eq_true_eq] at h
 obtain ⟨⟨h1,h2⟩,h3⟩:=h
 refine ⟨fun k o ho d hd=>?_,h2,fun k o s ho hs=>?_⟩
 ·have hm:(o,k)∈ops.toList.zipIdx:=by rw [List.mem_zipIdx_iff_getElem?];simpa using ho
  exact h1 (o,k) hm d hd
 ·have hm:o∈ops.toList:=by
   rw [←Array.getElem?_toList] at ho
   exact List.mem_of_getElem? ho
  have:=h3 o hm
  rw [hs] at this
  simpa using this
theorem oo (hn:(ops.toList.filterMap (·.dst)).Nodup) {j k:Nat} {o p:Oper} {s:Nat} (hj:ops[j]?=some o) (hk:ops[k]?=some p) (ho:o.dst=some s) (hp:p.dst=some s):j=k:=by
 rw [←Array.getElem?_toList] at hj hk
 have key:∀(l:List Oper) (j k:Nat),(l.filterMap (·.dst)).Nodup->l[j]?=some o->l[k]?=some p->j=k:=by
  intro l
  induction l with
  | nil=>intro j k _ h;simp at h
  | cons x l ih =>
   intro j k hn hj hk
   have sE:(l.filterMap (·.dst)).Nodup:=by
    cases hd:x.dst with
    | none=>rw [List.filterMap_cons_none (by simpa using hd)] at hn;exact hn
    | some s=>rw [List.filterMap_cons_some (by simpa using hd)] at hn;exact (List.nodup_cons.1 hn).2
   have fresh:∀(i:Nat) (q:Oper),x.dst=some s->l[i]?=some q->q.dst≠some s:=by
    intro i q hx hq he
    rw [List.filterMap_cons_some (by simpa using hx)] at hn
    exact (List.nodup_cons.1 hn).1 (List.mem_filterMap.2 ⟨q,List.mem_of_getElem? hq,he⟩)
   cases j with
   | zero =>
    cases k with
    | zero=>rfl
    | succ k =>
     simp at hj hk;subst hj
     exact absurd hp (fresh k p ho hk)
   | succ j =>
    cases k with
    | zero =>
     simp at hj hk;subst hk
     exact absurd ho (fresh j o hp hj)
    | succ k=>rw [ih j k sE (by simpa using hj) (by simpa using hk)]
 exact key ops.toList j k hn hj hk
end
section
variable {P:Program} {ops:Array Oper} {Q:Exit->Act->World->Prop} {a:Act} {w:World}
theorem pt (l:List Bool):∀i:Nat,l[i]?=some false->((l.set i true).filter (· == false)).length+1=(l.filter (· == false)).length:=by
 induction l with
 | nil=>intro i hi;simp at hi
 | cons x l ih =>
  intro i hi
  cases i with
  | zero=>simp at hi;subst hi;simp
  | succ i =>
   simp only [List.set_cons_succ]
   have:=ih i (by simpa using hi)
   cases x
   ·rw [List.filter_cons_of_pos rfl,List.filter_cons_of_pos rfl];simp only [List.length_cons];omega
   ·rw [List.filter_cons_of_neg (by simp),List.filter_cons_of_neg (by simp)];exact this
theorem BA {n T:Nat} (hT:T<ops.size) (JP:Region.sinkB .any ops T=true) (vJ:Region.chainB .any ops T=true) (Pg:Region.seqB .any ops (ops.size-T) T ((List.range ops.size).map (decide<| · <T)).toArray=true) (dC:a.tmps.size=n) (hB:lF ops n=true) (F:Nat->Value->World->Prop) (mono:∀k v w w',Below w.heap.size w w'->F k v w->F k v w')
  (vq:∀k o,k<T->ops[k]?=some o-> ∀a' w',Below w.heap.size w w'->(∀d∈bm o,F d (rQ ops a' d) w'∨(∃p,ops[d]?=some p∧p.dst=none))->(∀s,(∀(j:Nat) (p:Oper),j<T->ops[j]?=some p->p.dst≠some s)->a'.eval (.tmp s)=a.eval (.tmp s))->gS P ops Q o a' w' (F k))
  (kf:∀vs:Nat->Value,∀w',Below w.heap.size w w'->(∀k,k<T->F k (vs k) w')->wpList P ops Q (ops.toList.drop T) (eJ (ops.toList.zipIdx.take T) vs a) w') :
  ∀(fuel:Nat) (listed:Array Bool) (a':Act) (w':World),Inv ops F a w listed a' w'->(∀j,T≤j->listed.getD j false=false) ->
   (listed.toList.filter (· == false)).length=fuel->wpAny P .any ops Q fuel listed a' w':=by
 obtain ⟨dj,im,vr⟩:=fT hB
 have kB:∀(listed:Array Bool) (a':Act) (w':World),Inv ops F a w listed a' w'-> ∀k,k<T->listed.getD k false=false-> ∃i,i<T∧i∈Region.ready .any ops listed:=by
  intro listed a' w' I k
  induction k using Nat.strongRecOn with
  | _ k ih =>
   intro hk hl
   have iH:k<listed.size:=by rw [I.size];omega
   have r9:k<ops.size:=aj
   have oz:ops[k]?=some ops[k]:=Array.getElem?_eq_getElem r9
   by_cases gj:∀d∈bm ops[k],listed.getD d false=true
   ·refine ⟨k,hk,?_⟩
    rw [mem_ready]
    refine ⟨?_,ops[k],oz,fun e he hb=>gj e.on ?_⟩
    ·simp [iH] at hl ⊢;exact hl
    ·unfold bm
     exact List.mem_map.2 ⟨e,List.mem_filter.2 ⟨by simpa using he,hb⟩,rfl⟩
   ·have:∃d,d∈bm ops[k]∧listed.getD d false=false:=by
     refine Classical.byContradiction fun gh=>gj fun d hd=>?_
     cases hx:listed.getD d false with
     | true=>rfl
     | false=>exact absurd ⟨d,hd,hx⟩ gh
    obtain ⟨d,hd,hx⟩:=this
    exact ih d (dj k _ oz d hd) (by have:=dj k _ oz d hd;omega) hx
 have done:∀(listed:Array Bool) (a':Act) (w':World),Inv ops F a w listed a' w'->(∀k,k<T->listed.getD k false=true)->(∀j,T≤j->listed.getD j false=false)->wpList P ops Q (ops.toList.drop T) a' w':=by
  intro listed a' w' I all tail
  have hv:∀k,∃v,k<T->(F k v w'∧ ∀o s,ops[k]?=some o->o.dst=some s->a'.tmps[s]?=some v):=by
   intro k
   by_cases hk:k<T
   ·have r9:k<ops.size:=aj
    have oz:ops[k]?=some ops[k]:=Array.getElem?_eq_getElem r9
    cases hd:ops[k].dst with
    | none =>
     obtain ⟨v,hv⟩:=I.D6 k _ (all k hk) oz hd
     exact ⟨v,fun _=>⟨hv,fun o s ho hs=>by rw [oz] at ho;injection ho with ho;subst ho;rw [hd] at hs;cases hs⟩⟩
    | some s =>
     obtain ⟨v,hv,hF⟩:=I.val k _ s (all k hk) oz hd
     exact ⟨v,fun _=>⟨hF,fun o s' ho hs=>by rw [oz] at ho;injection ho with ho;subst ho;rw [hd] at hs;injection hs with hs;subst hs;exact hv⟩⟩
   ·exact ⟨undef,fun h=>absurd h hk⟩
  obtain ⟨vs,Ej⟩:=Classical.axiomOfChoice hv
  have rb:∀p:Oper×Nat,p∈ops.toList.zipIdx.take T↔(p.2<T∧ops[p.2]?=some p.1):=by
   intro p
   rw [List.mem_iff_getElem?]
   constructor
   ·rintro ⟨x,hx⟩
    rw [List.getElem?_take] at hx
    split at hx
    ·rename_i Aw
     rw [List.getElem?_zipIdx] at hx
     cases ho:ops.toList[x]? with
     | none=>rw [ho] at hx;simp at hx
     | some q =>
      rw [ho] at hx
      simp at hx
      subst hx
      exact ⟨by simpa using Aw,by simpa using ho⟩
    ·cases hx
   ·rintro ⟨h1,h2⟩
    refine ⟨p.2,?_⟩
    rw [List.getElem?_take,if_pos h1,List.getElem?_zipIdx]
    have Oq:ops.toList[p.2]?=some p.1:=by simpa using h2
    rw [Oq];simp
  have jN:=jJ vs (ops.toList.zipIdx.take T) a (by
   have h1:(ops.toList.zipIdx.take T).filterMap (·.1.dst)=(ops.toList.take T).filterMap (·.dst):=by
    conv=>rhs;rw [←List.zipIdx_map_fst 0 ops.toList,←List.map_take]
    rw [List.filterMap_map];rfl
   rw [h1]
   exact List.Nodup.sublist ((List.take_sublist T ops.toList).filterMap _) im)
  have he:a'=eJ (ops.toList.zipIdx.take T) vs a:=by
   have ht:a'.tmps=(eJ (ops.toList.zipIdx.take T) vs a).tmps:=by
    apply Array.ext_getElem?
    intro s
    by_cases hs:∃(k:Nat) (o:Oper),k<T∧ops[k]?=some o∧o.dst=some s
    ·obtain ⟨k,o,hk,ho,hd⟩:=hs
     rw [(Ej k hk).2 o s ho hd]
     exact (jN.2.2.1 (o,k) ((rb _).2 ⟨hk,ho⟩) s hd (by rw [dC];exact vr k o s ho hd)).symm
    ·rw [I.old s fun k o hl ho hd=>hs ⟨k,o,(Classical.byContradiction fun hk=>(by have:=tail k (Nat.le_of_not_lt hk);rw [this] at hl;cases hl)),ho,hd⟩]
     exact (jN.2.2.2 s fun p hp hd=>hs ⟨p.2,p.1,((rb p).1 hp).1,((rb p).1 hp).2,hd⟩).symm
   have hd:a'.defers=(eJ (ops.toList.zipIdx.take T) vs a).defers:=I.sV.trans jN.2.1.symm
   cases a';cases h:eJ (ops.toList.zipIdx.take T) vs a
   rw [h] at ht hd
   simp only at ht hd
   rw [ht,hd]
  rw [he]
  exact kf vs w' I.grown fun k hk=>(Ej k hk).1
 have rest:∀(fuel:Nat) (listed:Array Bool) (a':Act) (w':World),Inv ops F a w listed a' w'->(∀j,T≤j->listed.getD j false=false)->(listed.toList.filter (· == false)).length=fuel->(∀k,k<T->listed.getD k false=true)->wpAny P .any ops Q fuel listed a' w':=by
  intro fuel listed a' w' I tail hc all
  have nH:listed=((List.range ops.size).map (decide<| · <T)).toArray:=by
   apply Array.ext_getElem?
   intro x
   by_cases hx:x<ops.size
   ·have Ei:x<listed.size:=by rw [I.size];exact hx
    have hr:((List.range ops.size).map (decide<| · <T)).toArray[x]?=some (decide (x<T)):=by simp [hx]
    rw [hr]
    by_cases Aw:x<T
    ·have:=all x Aw;simp [Ei] at this ⊢;rw [this,decide_eq_true Aw]
    ·have:=tail x aj;simp [Ei] at this ⊢;rw [this,decide_eq_false Aw]
   ·rw [Array.getElem?_eq_none (by rw [I.size];omega),Array.getElem?_eq_none (by simp;omega)]
  have hlen:fuel=(ops.toList.drop T).length:=by
   rw [←hc,nH]
   simp only [List.length_drop,Array.length_toList,List.filter_map,List.length_map]
   have key:∀n,T≤n->((List.range n).filter ((fun x=>x == false) ∘ (decide<| · <T))).length=n-T:=by
    intro n hn
    induction n with
    | zero=>simp
    | succ n ih =>
     rw [List.range_succ,List.filter_append,List.length_append]
     by_cases Px:T≤n
     ·rw [ih Px]
      have:((fun x=>x == false) ∘ (decide<| · <T)) n=true:=by simp;omega
      rw [List.filter_cons_of_pos this];simp;omega
     ·obtain rfl:T=n+1:=aj
      have h1:(List.range n).filter ((fun x=>x == false) ∘ (decide<| · <n+1))= []:=by
       rw [List.filter_eq_nil_iff];intro x hx;have:=List.mem_range.1 hx;simp;omega
      have h2:[n].filter ((fun x=>x == false) ∘ (decide<| · <n+1))= []:=by
       rw [List.filter_eq_nil_iff];intro x hx;simp at hx;subst hx;simp
      rw [h1,h2];simp
   exact key ops.size aj
  rw [hlen]
  refine wpAny_of_seq (ops.toList.drop T) T listed a' w' (fun j=>by rw [List.getElem?_drop];simp) ?_ (done listed a' w' I all tail)
  rw [nH]
  simpa using Pg
 intro fuel
 induction fuel with
 | zero =>
  intro listed a' w' I tail hc
  refine rest 0 listed a' w' I tail hc fun k hk=>?_
  cases hx:listed.getD k false with
  | true=>rfl
  | false =>
   exfalso
   have iH:k<listed.size:=by rw [I.size];omega
   have:false∈listed.toList.filter (· == false):=by
    refine List.mem_filter.2 ⟨?_,rfl⟩
    have h1:listed.toList[k]?=some false:=by simp [iH] at hx ⊢;exact hx
    exact List.mem_of_getElem? h1
   have:=List.length_pos_of_mem this
   omega
 | succ fuel ih =>
  intro listed a' w' I tail hc
  by_cases hex:∀k,k<T->listed.getD k false=true
  ·exact rest (fuel+1) listed a' w' I tail hc hex
  have O_:∃k,k<T∧listed.getD k false=false:=by
   refine Classical.byContradiction fun gh=>hex fun k hk=>?_
   cases hx:listed.getD k false with
   | true=>rfl
   | false=>exact absurd ⟨k,hk,hx⟩ gh
  obtain ⟨k0,xQ,HZ⟩:=O_
  have PW:HeadInv .any ops T listed:=⟨I.size,fun j oj hj hl e he hb=>I.closed j oj hl hj e.on (by
    unfold bm
    exact List.mem_map.2 ⟨e,List.mem_filter.2 ⟨by simpa using he,hb⟩,rfl⟩),fun t ht Pf=>getD_in (by rw [I.size];exact Pf) (tail t ht)⟩
  have Io:listed.getD k0 true=false:=getD_in (by rw [I.size];omega) HZ
  refine ⟨fun hr=>(by
   obtain ⟨i,_,hi⟩:=kB listed a' w' I k0 xQ HZ
   rw [hr] at hi;cases hi),fun i hi=>?_⟩
  have PD:i<T:=Classical.byContradiction fun h=>tail_waits JP vJ hT PW _ k0 rfl xQ Io i aj hi
  obtain ⟨h0,o,ho,gj⟩:=mem_ready.1 hi
  have Ip:i<listed.size:=by rw [I.size];exact (Array.getElem?_eq_some_iff.1 ho).1
  have Ot:listed.getD i false=false:=by simp [Ip] at h0 ⊢;exact h0
  have jd:∀d∈bm o,listed.getD d false=true:=by
   intro d hd
   unfold bm at hd
   obtain ⟨e,he,rfl⟩:=List.mem_map.1 hd
   obtain ⟨LY,KU⟩:=List.mem_filter.1 he
   exact gj e (by simpa using LY) KU
  have next:∀v fw,Below w'.heap.size w' fw->F i v fw->Inv ops F a w (listed.setIfInBounds i true) (a'.put o.dst v) fw:=by
   intro v fw hb hF
   have lists:∀k,(listed.setIfInBounds i true).getD k false=true->k=i∨listed.getD k false=true:=by
    intro k hk
    by_cases sF:i=k
    ·exact .inl sF.symm
    ·right;rw [getD_set_ne false sF] at hk;exact hk
   refine ⟨I.grown.pI hb,by simpa using I.size,?_,(pP ..).trans I.zi,(put_defers ..).trans I.sV,?_,?_,?_⟩
   ·intro k p hk hp d hd
    rcases lists k hk with rfl|hk
    ·rw [ho] at hp;injection hp with hp;subst hp
     exact getD_set_true (jd d hd)
    ·exact getD_set_true (I.closed k p hk hp d hd)
   ·intro k p s hk hp hs
    rcases lists k hk with rfl|hk
    ·rw [ho] at hp;injection hp with hp;subst hp
     refine ⟨v,?_,hF⟩
     rw [hs]
     exact mo a' s v (by rw [I.zi,dC];exact vr k _ s ho hs)
    ·obtain ⟨u,hu,Sj⟩:=I.val k p s hk hp hs
     refine ⟨u,?_,mono k u w' fw hb Sj⟩
     rw [hU a' o.dst s v fun he=>?_]
     ·exact hu
     ·have:=oo im ho hp he hs
      subst this
      rw [Ot] at hk;cases hk
   ·intro k p hk hp hs
    rcases lists k hk with rfl|hk
    ·exact ⟨v,hF⟩
    ·obtain ⟨u,hu⟩:=I.D6 k p hk hp hs
     exact ⟨u,mono k u w' fw hb hu⟩
   ·intro s hs
    rw [hU a' o.dst s v (hs i o (by simp [Ip]) ho)]
    exact I.old s fun k p hk hp=>hs k p (getD_set_true hk) hp
  have nD:∀j,T≤j->(listed.setIfInBounds i true).getD j false=false:=fun j hj=>by rw [getD_set_ne false aj];exact tail j hj
  have nG:((listed.setIfInBounds i true).toList.filter (· == false)).length=fuel:=by
   have Pz:((listed.setIfInBounds i true).toList.filter (· == false)).length+1=(listed.toList.filter (· == false)).length:=by
    rw [Array.toList_setIfInBounds]
    have jk:listed.toList[i]?=some false:=by simp [Ip] at h0 ⊢;exact h0
    exact pt _ i jk
   omega
  have iP:=vq i o PD ho a' w' I.grown (fun d hd=>by
   have hl:=jd d hd
   cases hp:ops[d]? with
   | none =>
    have s9:d<listed.size:=by
     rcases Nat.lt_or_ge d listed.size with h|h
     ·exact h
     ·simp [Array.getElem?_eq_none h] at hl
    rw [I.size] at s9
    rw [Array.getElem?_eq_getElem s9] at hp;cases hp
   | some p =>
    cases hs:p.dst with
    | none=>exact .inr ⟨p,rfl,hs⟩
    | some s =>
     left
     obtain ⟨u,hu,hF⟩:=I.val d p s hl hp hs
     unfold rQ
     rw [hp]
     simp only [Option.bind_some,hs]
     simp [hu];exact hF) (fun s hs=>by
   show a'.tmps.getD s undef=a.tmps.getD s undef
   have:a'.tmps[s]?=a.tmps[s]?:=I.old s fun k p hk hp hd=>by
    have vG:k<T:=Classical.byContradiction fun h=>(by have:=tail k (Nat.le_of_not_lt h);rw [this] at hk;cases hk)
    exact hs k p vG hp hd
   simp [this])
  unfold gS at iP
  unfold wpOp
  rw [ho]
  simp only
  by_cases hw:Region.wanted o (yielded ops a'.tmps)=true
  ·rw [if_pos hw] at iP ⊢
   left
   exact Oper.wp_mono (fun rL fw ⟨v,he,hb,hF⟩=>by
    subst he
    exact ih _ _ _ (next v fw hb hF) nD nG) iP
  ·rw [if_neg hw] at iP ⊢
   exact ih _ _ _ (next undef w' (Below.refl _ _) iP) nD nG
def oF (ops:Array Oper) (T:Nat):Bool :=
 decide (T<ops.size) && Region.sinkB .any ops T && Region.chainB .any ops T && Region.seqB .any ops (ops.size-T) T ((List.range ops.size).map (decide<| · <T)).toArray
end
end Go.Proofs.YtjgbhhnghedgdaaGreatDoor
