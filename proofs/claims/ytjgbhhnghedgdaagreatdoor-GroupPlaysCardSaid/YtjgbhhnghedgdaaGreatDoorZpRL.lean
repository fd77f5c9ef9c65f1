import Derived.Test.YtjgbhhnghedgdaaGreatDoorZpRB
import Derived.Orders
import Derived.BigCall
import Derived.StillTail
set_option linter.all false
namespace Go.Proofs.YtjgbhhnghedgdaaGreatDoor
open Go.RowKit
def gX (ρ :List (Nat×Nat)):AV->AV
 | .ref i=>match look ρ i with|some k=>.ref k|none=>.dead
 | .pre i n=>match look ρ i with|some k=>.pre k n|none=>.dead
 | .jl i o n=>match look ρ i with|some k=>.jl k o n|none=>.dead
 | .addr i o=>match look ρ i with|some k=>.addr k o|none=>.dead
 | .agg _=>.dead
 | .br _=>.dead
 | x=>x
def DN (ρ :List (Nat×Nat)):AV->AV
 | .agg cs=>.agg (cs.map (gX ρ))
 | x=>gX ρ x
def rK (ρ :List (Nat×Nat)):AV->AV
 | .br cs=>.br (cs.map (DN ρ))
 | x=>DN ρ x
def fb (ρ :List (Nat×Nat)) (r:Row):Row:=match r.pure with|true=>r|false=>⟨r.e,false,r.full,r.cells.map (gX ρ)⟩
theorem kY (ρ :List (Nat×Nat)) (r:Row):(fb ρ r).e=r.e∧(fb ρ r).cells.length=r.cells.length∧(fb ρ r).pure=r.pure∧(fb ρ r).full=r.full:=by
 unfold fb;cases h:r.pure<;>simp [h]
section
variable {I I':Info} {S S':Nat->Prop} {w:World}
theorem zI (ρ :List (Nat×Nat)) (hI:∀i k x,look ρ i=some k->I i=some x->I' k=some x) (hS:∀b,S b->S' b):jQ I I' S S' w (gX ρ) where
 agg:=fun _=>rfl
 br:=fun _=>rfl
 leaf:=fun v x hx h1 h2=>by
  have sx:∀b,S b->S' b∧w.heap[b]?=w.heap[b]?:=fun b h=>⟨hS b h,rfl⟩
  cases hx with
  | rep h=>cases h with
   | val v=>exact .rep (.val v)
   | nil=>exact .rep .nil
   | agg vs cs _ _=>exact absurd rfl (h1 cs)
   | br vs cs _ _=>exact absurd rfl (h2 cs)
   | arr vs cs hl h=>exact .rep ((cA.arr vs cs hl h).mono sx)
   | sl A n c e us row hl hn hc hm ha h=>exact .rep ((cA.sl A n c e us row hl hn hc hm ha h).mono sx)
   | pt A n e us row hl hn hm ha h=>exact .rep ((cA.pt A n e us row hl hn hm ha h).mono sx)
   | ptr ad us row off hl hs ha h=>exact .rep ((cA.ptr ad us row off hl hs ha h).mono sx)
   | lB f vs cs hl h=>exact .rep ((cA.lB f vs cs hl h).mono sx)
  | agg vs cs _ _=>exact absurd rfl (h1 cs)
  | br vs cs _ _=>exact absurd rfl (h2 cs)
  | ref i e m g l c hi hm hc hx hs =>
   cases h:look ρ i with
   | none=>simp only [gX,h];exact .dead _
   | some k=>simp only [gX,h];exact .ref k _ m g l c (hI _ _ _ h hi) hm hc hx hs
  | cC i e hi =>
   cases h:look ρ i with
   | none=>simp only [gX,h];exact .dead _
   | some k=>simp only [gX,h];exact .cC k _ (hI _ _ _ h hi)
  | pre i n e m g l c hi hn hm hc hx hs =>
   cases h:look ρ i with
   | none=>simp only [gX,h];exact .dead _
   | some k=>simp only [gX,h];exact .pre k n _ m g l c (hI _ _ _ h hi) hn hm hc hx hs
  | dw i e hi =>
   cases h:look ρ i with
   | none=>simp only [gX,h];exact .dead _
   | some k=>simp only [gX,h];exact .dw k _ (hI _ _ _ h hi)
  | jl i off n e m l c g A hi hn hm hc hx ha =>
   cases h:look ρ i with
   | none=>simp only [gX,h];exact .dead _
   | some k=>simp only [gX,h];exact .jl k off n _ m l c g A (hI _ _ _ h hi) hn hm hc hx ha
  | addr i off e m g hi =>
   cases h:look ρ i with
   | none=>simp only [gX,h];exact .dead _
   | some k=>simp only [gX,h];exact .addr k off _ m g (hI _ _ _ h hi)
  | dead v=>exact .dead _
theorem zH (ρ :List (Nat×Nat)) (y:AV) (h:∀cs,y≠ .agg cs):DN ρ y=gX ρ y:=by
 cases y with
 | agg cs=>exact absurd rfl (h cs)
 | _=>rfl
theorem zC (ρ :List (Nat×Nat)) (y:AV) (h:∀cs,y≠ .br cs):rK ρ y=DN ρ y:=by
 cases y with
 | br cs=>exact absurd rfl (h cs)
 | _=>rfl
theorem Den.J7 (ρ :List (Nat×Nat)) (hI:∀i k x,look ρ i=some k->I i=some x->I' k=some x) (hS:∀b,S b->S' b) {v:Value} {x:AV} (h:Den I S w v x):Den I' S' w v (rK ρ x) :=
 (zI ρ hI hS).two h (fun _=>rfl) (zH ρ) (fun _=>rfl) (zC ρ)
theorem bN.J7 (ρ :List (Nat×Nat)) (hI:∀i k x,look ρ i=some k->I i=some x->I' k=some x) (hS:∀b,S b->S' b) {b:Option Nat} {r:Row} (h:bN I S w b r):bN I' S' w b (fb ρ r):=by
 obtain ⟨he,hl,hp,hf⟩:=kY ρ r
 cases b with
 | none =>
  have h:r.cells= []:=h
  show (fb ρ r).cells= []
  exact List.eq_nil_of_length_eq_zero (by rw [hl,h];rfl)
 | some g =>
  obtain ⟨cur,te,fr,hg,gH,hle,mI,hc⟩:=h
  refine ⟨cur,te,fr,hg,gH,by rw [hl];exact hle,fun h=>by rw [hl];exact mI (by rw [←hf];exact h),fun j u x hu hx=>?_⟩
  unfold bh
  cases LB:r.pure with
  | true =>
   have e:fb ρ r=r:=by unfold fb;rw [LB]
   rw [e] at hx ⊢
   have:=hc j u x hu hx
   unfold bh at this
   rw [LB] at this ⊢
   exact this.mono fun b hb=>⟨hS b hb,rfl⟩
  | false =>
   have e:(fb ρ r).cells=r.cells.map (gX ρ):=by unfold fb;rw [LB]
   rw [hp,LB]
   rw [e,List.getElem?_map] at hx
   cases hj:r.cells[j]? with
   | none=>rw [hj] at hx;cases hx
   | some y =>
    rw [hj] at hx;injection hx with hx;subst hx
    have:=hc j u y hu hj
    unfold bh at this
    rw [LB] at this
    exact (zI ρ hI hS).all this
end
def lC (φ:Nat->Option Nat) (g:Nat):Prop:=∃id,φ id=some g
structure NC (S:Nat->Prop) (w:World) (φ:Nat->Option Nat) (H:List (Nat×Row)):Prop where
 sep:∀b,S b->b<w.heap.size∧ ¬lC φ b
 only:∀id,look H id=none->φ id=none
 inj:∀id oZ g,φ id=some g->φ oZ=some g->id=oZ
 lt:∀id g,φ id=some g->g<w.heap.size
 rows:∀id r,look H id=some r->bN (az H φ) S w (φ id) r
def EE (S:Nat->Prop) (w w':World) (φ cz:Nat->Option Nat) (O:List Nat):Nat->Prop:=fun b=>(S b∨((w.heap.size≤b∨lC φ b)∧b<w'.heap.size))∧b ∉ O∧ ¬lC cz b
structure Ll (S:Nat->Prop) (w w':World) (φ cz:Nat->Option Nat) (O:List Nat) (H':List (Nat×Row)) (v:Value) (r:AV):Prop where
 os:w'.os=w.os
 tape:w'.tape=w.tape
 output:w'.output=w.output
 size:w.heap.size≤w'.heap.size
 block:∀b,b<w.heap.size-> ¬lC φ b->w'.heap[b]?=w.heap[b]?
 nodup:O.Nodup
 own:∀g∈O,(w.heap.size≤g∨lC φ g)∧g<w'.heap.size∧ ¬lC cz g
 cU:∀id g,cz id=some g->w.heap.size≤g∨lC φ g
 fix:∀id g,1000000000000≤id->cz id=some g->φ id=some g
 Hy:NC (EE S w w' φ cz O) w' cz H'
 Vm:sF (EE S w w' φ cz O) w' v r O
def gk (P:Program) (f:FuncId) (args:List AV) (H:List (Nat×Row)) (r:AV) (H':List (Nat×Row)):Prop :=
 ∀(w:World) (S:Nat->Prop) (φ:Nat->Option Nat) (vs:List Value),Good w->(∀id g,φ id=some g-> ¬TB g)->NC S w φ H->vs.length=args.length->(∀(j:Nat) v x,vs[j]?=some v->args[j]?=some x->Den (az H φ) S w v x) ->
  Calls P f vs.toArray w fun e w'=>∃v O cz,e= .returned v∧Ll S w w' φ cz O H' v r
def inv:List (Nat×Nat)->List (Nat×Nat)
 | []=>[]
 | (c,k)::l=>(k,c)::inv l
def Ah (i:Nat):List Nat->Bool
 | []=>false
 | j::l=>match Nat.beq i j with|true=>true|false=>Ah i l
theorem Ag (i:Nat):∀(l:List Nat),Ah i l=true↔i∈l
 | []=>by simp [Ah]
 | j::l=>by
  simp only [Ah]
  rcases bI i j with ⟨h,e⟩|⟨h,e⟩
  ·rw [h];simp [e]
  ·rw [h];simp only [List.mem_cons];rw [Ag i l];simp [e]
def tX:List Nat->Bool
 | []=>true
 | i::l=>match Ah i l with|true=>false|false=>tX l
theorem qP:∀ {l:List Nat},tX l=true->l.Nodup
 | [],_=>List.nodup_nil
 | i::l,h=>by
  simp only [tX] at h
  split at h
  ·cases h
  ·rename_i hn
   rw [List.nodup_cons]
   refine ⟨fun hm=>?_,qP h⟩
   rw [(Ag i l).2 hm] at hn;cases hn
theorem kC {α:Type} {k:Nat} {x:α}:∀ {l:List (Nat×α)},look l k=some x->(k,x)∈l
 | [],h=>by cases h
 | (j,y)::l,h=>by
  rw [aD] at h
  by_cases e:j=k
  ·rw [if_pos e] at h;injection h with h;subst e;subst h;exact List.mem_cons_self ..
  ·rw [if_neg e] at h;exact List.mem_cons_of_mem _ (kC h)
theorem jE {α:Type} {k:Nat} {x:α}:∀ {l:List (Nat×α)},(l.map (·.1)).Nodup->(k,x)∈l->look l k=some x
 | [],_,h=>by cases h
 | (j,y)::l,hn,h=>by
  rw [aD]
  simp only [List.map_cons,List.nodup_cons] at hn
  rcases List.mem_cons.1 h with h|h
  ·cases h;rw [if_pos rfl]
  ·have:j≠k:=fun e=>hn.1 (by rw [e];exact List.mem_map.2 ⟨(k,x),h,rfl⟩)
   rw [if_neg this];exact jE hn.2 h
theorem xw {c k:Nat}:∀ {l:List (Nat×Nat)},(k,c)∈inv l↔(c,k)∈l
 | []=>by simp [inv]
 | (x,y)::l=>by
  simp only [inv,List.mem_cons,xw (l:=l),Prod.mk.injEq]
  constructor<;>(rintro (⟨h1,h2⟩|h);exact .inl ⟨h2,h1⟩;exact .inr h)
theorem DV:∀(l:List (Nat×Nat)),(inv l).map (·.1)=l.map (·.2)
 | []=>rfl
 | (x,y)::l=>by simp [inv,DV l]
theorem jF {l:List (Nat×Nat)} (h1:(l.map (·.1)).Nodup) (h2:(l.map (·.2)).Nodup) {c k:Nat}:look (inv l) k=some c↔look l c=some k :=
 ⟨fun h=>jE h1 (xw.1 (kC h)),fun h=>jE (by rw [DV];exact h2) (xw.2 (kC h))⟩
def iR (s:AS) (ρ :List (Nat×Nat)):List (Nat×Nat)->Option (List (Nat×Row))
 | []=>some []
 | (c,k)::l=>match look s.H c,iR s ρ l with|some r,some m=>some ((k,fb ρ r)::m)|_,_=>none
def nE (ho:List (Nat×Row)) (ρ :List (Nat×Nat)):List (Nat×Nat)->Option (List (Nat×Row))
 | []=>some []
 | (c,k)::l=>match look ho k,nE ho ρ l with|some r,some m=>some ((c,fb ρ r)::m)|_,_=>none
theorem oD {s:AS} {ρ :List (Nat×Nat)}:∀ {l:List (Nat×Nat)} {Hl:List (Nat×Row)},iR s ρ l=some Hl-> ∀k,look Hl k=(look (inv l) k).bind fun c=>(look s.H c).map (fb ρ)
 | [],Hl,h,k=>by cases h;rfl
 | (c,k')::l,Hl,h,k=>by
  simp only [iR] at h
  split at h
  ·rename_i r m hr hm
   cases h
   simp only [inv,aD]
   by_cases e:k'=k
   ·rw [if_pos e,if_pos e];simp [hr]
   ·rw [if_neg e,if_neg e];exact oD hm k
  ·cases h
theorem oE {ho:List (Nat×Row)} {ρ :List (Nat×Nat)}:∀ {l:List (Nat×Nat)} {Hb:List (Nat×Row)},nE ho ρ l=some Hb-> ∀c,look Hb c=(look l c).bind (fun k=>(look ho k).map (fb ρ))∧ ∀k,look l c=some k-> ∃r,look ho k=some r
 | [],Hb,h,c=>by cases h;exact ⟨rfl,fun k h=>by cases h⟩
 | (c',k)::l,Hb,h,c=>by
  simp only [nE] at h
  split at h
  ·rename_i r m hr hm
   cases h
   simp only [aD]
   by_cases e:c'=c
   ·rw [if_pos e,if_pos e]
    exact ⟨by simp [hr],fun k' h=>by injection h with h;subst h;exact ⟨r,hr⟩⟩
   ·rw [if_neg e,if_neg e];exact oE hm c
  ·cases h
def fc:List (Nat×Nat)->List Nat
 | []=>[]
 | (c,k)::l=>match Nat.ble 1000000000000 k with|true=>fc l|false=>c::fc l
theorem qS {c:Nat}:∀ {l:List (Nat×Nat)},c∈fc l-> ∃k,(c,k)∈l∧k<1000000000000
 | [],h=>by cases h
 | (c',k)::l,h=>by
  simp only [fc] at h
  split at h
  ·obtain ⟨k',h1,h2⟩:=qS h;exact ⟨k',by simp [h1],h2⟩
  ·rename_i hb
   rcases List.mem_cons.1 h with rfl|h
   ·exact ⟨k,by simp,by
     rcases Nat.lt_or_ge k 1000000000000 with h|h
     ·exact h
     ·rw [Nat.ble_eq_true_of_le h] at hb;cases hb⟩
   ·obtain ⟨k',h1,h2⟩:=qS h;exact ⟨k',by simp [h1],h2⟩
theorem qN {c k:Nat} (hk:k<1000000000000):∀ {l:List (Nat×Nat)},(c,k)∈l->c∈fc l
 | [],h=>by cases h
 | (c',k')::l,h=>by
  simp only [fc]
  rcases List.mem_cons.1 h with h|h
  ·cases h
   have:Nat.ble 1000000000000 k=false:=by
    cases hb:Nat.ble 1000000000000 k with
    | false=>rfl
    | true=>have:=Nat.le_of_ble_eq_true hb;omega
   rw [this];simp
  ·have:=qN hk h
   split
   ·exact this
   ·simp [this]
def pw (s:AS) (ho:List (Nat×Row)):List (Nat×Nat)->Option (List Prop)
 | []=>some []
 | (c,k)::l=>match Nat.ble 1000000000000 k,pw s ho l with
  | true,some C=>(match look s.H c,look ho k with
   | some ⟨e,_,true,cs⟩,some ⟨e',_,true,JJ⟩=>(match Nat.beq e e' with|true=>some ((cs.length=JJ.length∧0<JJ.length)::C)|false=>none)
   | _,_=>none)
  | false,some C=>(match Nat.ble c 999999999999 with|true=>some C|false=>none)
  | _,none=>none
theorem pv {s:AS} {ho:List (Nat×Row)}:∀ {l:List (Nat×Nat)} {C:List Prop},pw s ho l=some C->bx C-> ∀c k,(c,k)∈l ->
  (1000000000000≤k∧ ∃r r',look s.H c=some r∧look ho k=some r'∧r.e=r'.e∧r.full=true∧r'.full=true∧r.cells.length=r'.cells.length∧0<r'.cells.length)∨(k<1000000000000∧c<1000000000000)
 | [],C,h,hC,c,k,hm=>by cases hm
 | (c',k')::l,C,h,hC,c,k,hm=>by
  simp only [pw] at h
  split at h
  ·rename_i C1 hb hr
   split at h
   ·rename_i e p cs e' p' JJ h1 h2
    split at h
    ·rename_i he
     cases h
     rcases List.mem_cons.1 hm with hm|hm
     ·cases hm
      exact .inl ⟨Nat.le_of_ble_eq_true hb,_,_,h1,h2,Nat.eq_of_beq_eq_true he,rfl,rfl,hC.1.1,hC.1.2⟩
     ·exact pv hr hC.2 c k hm
    ·cases h
   ·cases h
  ·rename_i C1 hb hr
   split at h
   ·rename_i hc
    cases h
    rcases List.mem_cons.1 hm with hm|hm
    ·obtain ⟨rfl,rfl⟩:c=c'∧k=k':=by simpa using hm
     have:=Nat.le_of_ble_eq_true hc
     have hk:k<1000000000000:=by
      rcases Nat.lt_or_ge k 1000000000000 with h|h
      ·exact h
      ·rw [Nat.ble_eq_true_of_le h] at hb;cases hb
     exact .inr ⟨hk,aj⟩
    ·exact pv hr hC c k hm
   ·cases h
  ·cases h
def yt (ln:List (Nat×Nat)):Bool:=match tX (ln.map (·.1)) with|true=>tX (ln.map (·.2))|false=>false
theorem Dd {ln:List (Nat×Nat)} (h:yt ln=true):(ln.map (·.1)).Nodup∧(ln.map (·.2)).Nodup:=by
 unfold yt at h
 split at h
 ·rename_i h1;exact ⟨qP h1,qP h⟩
 ·cases h
def o_ {α:Type} (H:List (Nat×α)):List Nat->List (Nat×α)
 | []=>H
 | i::l=>o_ (cN H i) l
theorem rV {α:Type}:∀(l:List Nat) (H:List (Nat×α)) (i:Nat),look (o_ H l) i=if i∈l then none else look H i
 | [],H,i=>by simp [o_]
 | j::l,H,i=>by
  simp only [o_]
  rw [rV l,bH]
  by_cases e:j=i
  ·subst e;simp
  ·by_cases h:i∈l
   ·simp [h]
   ·simp [h,e,Ne.symm e]
def i_ (s:AS) (ln:List (Nat×Nat)) (Hb:List (Nat×Row)):AS:=⟨(aT s (fc ln)).F,Hb++o_ (aT s (fc ln)).H (ln.map (·.1))⟩
def nV (P:Program) (n:Nat) (s:AS) (d:Option Nat) (c:Callee) (args:List Operand) (h:Hint):Option (AS×List Prop) :=
 match callee s c,h.av with
 | some f,some r=>(match ia P f,fN s (((args.map (bp s)).flatMap oo).filter fun i=> !(Ah i (h.ln.map (·.1)))) with
  | true,some s1=>(match iR s1 h.ln h.ln,nE h.ho (inv h.ln) h.ln,yt h.ln,pw s1 h.ho h.ln with
   | some Hl,some Hb,true,some C=>(match d with
    | some d=>(match nodupB ((bL d r).2.map (·.1)),gg n ⟨(aT (i_ s1 h.ln Hb) ((bL d r).2.map (·.1))).F,(bL d r).2++(aT (i_ s1 h.ln Hb) ((bL d r).2.map (·.1))).H⟩ (some d) (bL d r).1 with
     | true,some s'=>some (s',gk P f (args.map fun x=>rK h.ln (bp s1 x)) Hl r h.ho::C)
     | _,_=>none)
    | none=>some (i_ s1 h.ln Hb,gk P f (args.map fun x=>rK h.ln (bp s1 x)) Hl r h.ho::C))
   | _,_,_,_=>none)
  | _,_=>none)
 | _,_=>none
section
variable {P:Program} {S0:bm} {w0 w w':World} {n:Nat} {s:AS} {a:Act} {φ:Nat->Option Nat}
theorem xb:∀(l:List Nat) (s:AS) (φ:Nat->Option Nat) (O:List Nat),aG S0 w0 n O s a w φ-> ∃O',aG S0 w0 n O' (aT s l) a w (fun id=>if id∈l then none else φ id)∧(∀g∈O',g∈O∨ ∃i∈l,φ i=some g)∧(∀g∈O,g∈O')∧(∀i∈l,∀g,φ i=some g->g∈O') ∧
  (∀id q,look (aT s l).H id=some q->id ∉ l∧ ∃q0,look s.H id=some q0∧q.e=q0.e∧q.cells.length=q0.cells.length∧q.full=q0.full)∧(∀id q0,id ∉ l->look s.H id=some q0-> ∃q,look (aT s l).H id=some q)
 | [],s,φ,O,h=>by
  have e:(fun id=>if id∈([]:List Nat) then none else φ id)=φ:=by funext id;simp
  rw [e]
  exact ⟨O,h,fun g hg=>.inl hg,fun g hg=>hg,fun i hi=>(by cases hi),fun id q hq=>⟨by simp,q,hq,rfl,rfl,rfl⟩,fun id q0 _ hq=>⟨q0,hq⟩⟩
 | i::l,s,φ,O,h=>by
  have h1:=h.js i (match φ i with|some g=>g::O|none=>O) rfl
  obtain ⟨O',h2,h3,h4,h5,h6,h7⟩:=xb l _ _ _ h1
  have jT:∀id,look (cm i s).H id=if i=id then none else (look s.H id).map (dJ i):=fun id=>by
   unfold cm;rw [cw,bH];by_cases e:i=id<;>simp [e]
  refine ⟨O',?_,fun g hg=>?_,fun g hg=>h4 g ?_,fun j hj g hg=>?_,fun id q hq=>?_,fun id q0 hid hq=>?_⟩
  ·have:(fun id=>if id∈i::l then none else φ id)=fun id=>if id∈l then none else erase φ i id:=by
    funext id
    unfold erase
    by_cases e1:id=i<;>by_cases e2:id∈l<;>simp [e1,e2]
   rw [this];exact h2
  ·rcases h3 g hg with h|⟨j,hj,i6⟩
   ·cases cp:φ i with
    | none=>rw [cp] at h;exact .inl h
    | some g0 =>
     rw [cp] at h
     rcases List.mem_cons.1 h with rfl|h
     ·exact .inr ⟨i,by simp,cp⟩
     ·exact .inl h
   ·unfold erase at i6
    split at i6
    ·cases i6
    ·exact .inr ⟨j,by simp [hj],i6⟩
  ·cases cp:φ i with
   | none=>exact hg
   | some g0=>simp [hg]
  ·by_cases e:j=i
   ·subst e;exact h4 g (by rw [hg];simp)
   ·rcases List.mem_cons.1 hj with hj|hj
    ·exact absurd hj e
    ·exact h5 j hj g (by unfold erase;rw [if_neg e];exact hg)
  ·obtain ⟨k1,q1,k2,k3,k4,k5⟩:=h6 id q hq
   rw [jT] at k2
   by_cases e:i=id
   ·rw [if_pos e] at k2;cases k2
   ·rw [if_neg e] at k2
    cases hl:look s.H id with
    | none=>rw [hl] at k2;cases k2
    | some q0 =>
     rw [hl] at k2;injection k2 with k2
     obtain ⟨m1,m2,m3,m4⟩:=fL i q0
     exact ⟨by simp [Ne.symm e,k1],q0,rfl,by rw [k3,←k2,m1],by rw [k4,←k2,m2],by rw [k5,←k2,m4]⟩
  ·simp only [List.mem_cons,not_or] at hid
   exact h7 id (dJ i q0) hid.2 (by rw [jT,if_neg (Ne.symm hid.1),hq];rfl)
def eS (ln:List (Nat×Nat)) (φ:Nat->Option Nat):Nat->Option Nat:=fun k=>(look (inv ln) k).bind φ
theorem Kk (hs:aG S0 w0 n [] s a w φ) {ln:List (Nat×Nat)} (h1:(ln.map (·.1)).Nodup) (h2:(ln.map (·.2)).Nodup) {Hl:List (Nat×Row)} (hl:iR s ln ln=some Hl) :
  NC (aM S0 w φ []) w (eS ln φ) Hl∧(∀i k x,look ln i=some k->az s.H φ i=some x->az Hl (eS ln φ) k=some x):=by
 have lu:=oD hl
 have hI:∀i k x,look ln i=some k->az s.H φ i=some x->az Hl (eS ln φ) k=some x:=by
  intro i k x LI hx
  obtain ⟨e,m,b⟩:=x
  obtain ⟨r,hr,he,hm,hb⟩:=aO hx
  have su:=(jF h1 h2).2 LI
  rw [bq (r:=fb ln r) (by rw [lu,su];simp [hr])]
  obtain ⟨m1,m2,-,-⟩:=kY ln r
  rw [m1,m2,he,hm]
  unfold eS;rw [su];simp [hb]
 have back:∀k g,eS ln φ k=some g-> ∃c,look (inv ln) k=some c∧φ c=some g:=by
  intro k g hk
  unfold eS at hk
  cases hc:look (inv ln) k with
  | none=>rw [hc] at hk;cases hk
  | some c=>rw [hc] at hk;exact ⟨c,rfl,hk⟩
 refine ⟨⟨fun b hb=>⟨hb.1,fun ⟨k,hk⟩=>?_⟩,fun k hk=>?_,fun k k' g hk oq=>?_,fun k g hk=>?_,fun k r hr=>?_⟩,hI⟩
 ·obtain ⟨c,-,hc⟩:=back k b hk
  exact hb.2.2.1 c hc
 ·rw [lu] at hk
  cases hc:look (inv ln) k with
  | none=>unfold eS;rw [hc];rfl
  | some c =>
   rw [hc] at hk
   have UM:look s.H c=none:=by simpa using hk
   unfold eS;rw [hc];exact hs.only c UM
 ·obtain ⟨c,hc,hg⟩:=back k g hk
  obtain ⟨c',kU,i6⟩:=back k' g oq
  have e:=hs.inj c c' g hg i6
  subst e
  have e1:=(jF h1 h2).1 hc
  have e2:=(jF h1 h2).1 kU
  rw [e1] at e2;injection e2
 ·obtain ⟨c,-,hc⟩:=back k g hk
  exact (hs.cU c g hc).2
 ·rw [lu] at hr
  cases hc:look (inv ln) k with
  | none=>rw [hc] at hr;cases hr
  | some c =>
   rw [hc] at hr
   cases RU:look s.H c with
   | none=>simp [RU] at hr
   | some q =>
    simp [RU] at hr
    subst hr
    have aN:=(hs.rows c q RU).J7 ln hI (fun b hb=>hb)
    have e:eS ln φ k=φ c:=by unfold eS;rw [hc];rfl
    rw [e];exact aN
theorem E9 (hs:aG S0 w0 n [] s a w φ) {ln:List (Nat×Nat)} (h1:(ln.map (·.1)).Nodup) (h2:(ln.map (·.2)).Nodup) {ho:List (Nat×Row)} {Hb:List (Nat×Row)} (hb:nE ho (inv ln) ln=some Hb)
  {C:List Prop} (hv:pw s ho ln=some C) (hC:bx C) {cz:Nat->Option Nat} {O:List Nat} {v:Value} {r:AV} (hB:Ll (aM S0 w φ []) w w' (eS ln φ) cz O ho v r) :
  ∃ wU,aG S0 w0 n O (i_ s ln Hb) a w' wU∧sF (aM S0 w' wU O) w' v r O:=by
 obtain ⟨O0,hA,UZ,-,R7,Av,S8⟩:=xb (fc ln) s φ [] hs
 generalize Q2:(fun id=>if id∈fc ln then none else φ id)=NG at hA
 have eA:∀id,NG id=if id∈fc ln then none else φ id:=fun id=>by rw [←Q2]
 have Tq:=fun c=>oE hb c
 let wU:Nat->Option Nat:=fun id=>match look ln id with|some k=>cz k|none=>φ id
 have JH:∀id k,look ln id=some k->wU id=cz k:=fun id k h=>by show (match look ln id with|some k=>cz k|none=>φ id)=_;rw [h]
 have JI:∀id,look ln id=none->wU id=φ id:=fun id h=>by show (match look ln id with|some k=>cz k|none=>φ id)=_;rw [h]
 have inr:∀g,lC (eS ln φ) g-> ∃c k,look ln c=some k∧φ c=some g:=by
  rintro g ⟨k,hk⟩
  unfold eS at hk
  cases hc:look (inv ln) k with
  | none=>rw [hc] at hk;cases hk
  | some c=>rw [hc] at hk;exact ⟨c,k,(jF h1 h2).1 hc,hk⟩
 have Hd:∀c,c∈fc ln-> ∃k,look ln c=some k∧k<1000000000000:=fun c hc=>by
  obtain ⟨k,hm,hk⟩:=qS hc
  exact ⟨k,jE h1 hm,hk⟩
 have F2:∀b,aM S0 w NG O0 b->aM S0 w' wU O b∧w'.heap[b]?=w.heap[b]?:=by
  intro b ⟨f1,f2,f3,f4⟩
  have gb:¬lC (eS ln φ) b:=fun h=>by
   obtain ⟨c,k,wF,hc⟩:=inr b h
   by_cases ho:c∈fc ln
   ·exact f2 (R7 c ho b hc)
   ·exact f3 c (by rw [eA,if_neg ho];exact hc)
  refine ⟨⟨Nat.lt_of_lt_of_le f1 hB.size,fun hm=>?_,fun id hid=>?_,f4⟩,hB.block b f1 gb⟩
  ·rcases (hB.own b hm).1 with h|h
   ·omega
   ·exact gb h
  ·cases hl:look ln id with
   | some k =>
    rw [JH id k hl] at hid
    rcases hB.cU k b hid with h|h
    ·omega
    ·exact gb h
   | none =>
    rw [JI id hl] at hid
    have:id ∉ fc ln:=fun hm=>by obtain ⟨k,h,-⟩:=Hd id hm;rw [hl] at h;cases h
    exact f3 id (by rw [eA,if_neg this];exact hid)
 have F5:∀b,EE (aM S0 w φ []) w w' (eS ln φ) cz O b->aM S0 w' wU O b:=by
  intro b ⟨g1,g2,g3⟩
  have dd:b<w'.heap.size:=by
   rcases g1 with h|h
   ·exact Nat.lt_of_lt_of_le h.1 hB.size
   ·exact h.2
  refine ⟨dd,g2,fun id hid=>?_,?_⟩
  ·cases hl:look ln id with
   | some k=>rw [JH id k hl] at hid;exact g3 ⟨k,hid⟩
   | none =>
    rw [JI id hl] at hid
    rcases g1 with h|⟨h|h,-⟩
    ·exact h.2.2.1 id hid
    ·have:=(hs.cU id b hid).2;omega
    ·obtain ⟨c,k,wF,hc⟩:=inr b h
     have:=hs.inj id c b hid hc
     subst this;rw [hl] at wF;cases wF
  ·rcases g1 with h|⟨h|h,-⟩
   ·exact h.2.2.2
   ·exact hs.new b (.inl (Nat.le_trans hs.cV.size h))
   ·obtain ⟨c,k,wF,hc⟩:=inr b h
    exact hs.new b (hs.cU c b hc).1.2
 have Aj:∀id k,look ln id=some k-> ∃r',look ho k=some r'∧look (i_ s ln Hb).H id=some (fb (inv ln) r'):=by
  intro id k hk
  obtain ⟨e1,e2⟩:=Tq id
  obtain ⟨r',il⟩:=e2 k hk
  refine ⟨r',il,?_⟩
  unfold i_
  rw [bM,e1,hk]
  simp [il]
 have Ht:∀id,look ln id=none->look (i_ s ln Hb).H id=look (aT s (fc ln)).H id:=by
  intro id hk
  obtain ⟨e1,-⟩:=Tq id
  unfold i_
  rw [bM,e1,hk,rV]
  have:id ∉ ln.map (·.1):=fun hm=>by
   obtain ⟨⟨c,k⟩,LD,e⟩:=List.mem_map.1 hm
   have e:c=id:=e
   subst e
   rw [jE h1 LD] at hk;cases hk
  simp [this]
 have vars:∀id k,look ln id=some k->1000000000000≤k-> ∃r0 r' g,look s.H id=some r0∧look ho k=some r'∧r0.e=r'.e∧r0.full=true∧r'.full=true∧r0.cells.length=r'.cells.length∧cz k=some g∧φ id=some g:=by
  intro id k hk uz
  rcases pv hv hC id k (kC hk) with ⟨-,r0,r',e1,e2,e3,e4,e5,e6,e7⟩|⟨h,-⟩
  ·have aN:=hB.Hy.rows k r' e2
   cases hg:cz k with
   | none =>
    rw [hg] at aN
    have:r'.cells= []:=aN
    rw [this] at e7;simp at e7
   | some g =>
    have:=hB.fix k g uz hg
    unfold eS at this
    rw [(jF h1 h2).2 hk] at this
    exact ⟨r0,r',g,e1,e2,e3,e4,e5,e6,rfl,this⟩
  ·omega
 have F3:∀id x,az (aT s (fc ln)).H NG id=some x->az (i_ s ln Hb).H wU id=some x:=by
  intro id x hx
  obtain ⟨e,m,b⟩:=x
  obtain ⟨q,hq,he,hm,q6⟩:=aO hx
  obtain ⟨gb,q0,Qn,Tk,LC,-⟩:=Av id q hq
  rw [eA,if_neg gb] at q6
  cases hl:look ln id with
  | none=>rw [bq (r:=q) (by rw [Ht id hl];exact hq),JI id hl,he,hm,q6]
  | some k =>
   have uz:1000000000000≤k:=by
    rcases Nat.lt_or_ge k 1000000000000 with h|h
    ·exact absurd (qN h (kC hl)) gb
    ·exact h
   obtain ⟨r0,r',g,f1,f2,f3,-,-,f6,f7,f8⟩:=vars id k hl uz
   rw [Qn] at f1;injection f1 with f1;subst f1
   obtain ⟨TU,f9,f10⟩:=Aj id k hl
   rw [f2] at f9;injection f9 with f9;subst f9
   obtain ⟨m1,m2,-,-⟩:=kY (inv ln) r'
   rw [bq f10,m1,m2,JH id k hl,f7,←f3,←Tk,he,←f6,←LC,hm,←q6,f8]
 have F4:∀id e m g,az (aT s (fc ln)).H NG id=some (e,m,some g)->aV w' g=aV w g:=by
  intro id e m g hx
  obtain ⟨q,hq,he,hm,q6⟩:=aO hx
  obtain ⟨gb,q0,Qn,Tk,LC,-⟩:=Av id q hq
  rw [eA,if_neg gb] at q6
  cases hl:look ln id with
  | none =>
   have Pk:¬lC (eS ln φ) g:=fun h=>by
    obtain ⟨c,k,wF,hc⟩:=inr g h
    have:=hs.inj id c g q6 hc
    subst this;rw [hl] at wF;cases wF
   unfold aV;rw [hB.block g (hs.cU id g q6).2 Pk]
  | some k =>
   have uz:1000000000000≤k:=by
    rcases Nat.lt_or_ge k 1000000000000 with h|h
    ·exact absurd (qN h (kC hl)) gb
    ·exact h
   obtain ⟨r0,r',g',f1,f2,-,f4,f5,f6,f7,f8⟩:=vars id k hl uz
   rw [f8] at q6;injection q6 with q6;subst q6
   have S9:=hs.rows id r0 f1
   rw [f8] at S9
   obtain ⟨cur,te,fr,u1,-,-,u2,-⟩:=S9
   have il:=hB.Hy.rows k r' f2
   rw [f7] at il
   obtain ⟨cur',TN,QC,v1,-,-,v2,-⟩:=il
   unfold aV;rw [u1,v1]
   show cur'.size=cur.size
   rw [u2 f4,v2 f5,f6]
 refine ⟨wU,⟨hA.jL,hA.jO,⟨hB.os.trans hs.cV.os,hB.tape.trans hs.cV.tape,hB.output.trans hs.cV.output,Nat.le_trans hs.cV.size hB.size,fun k hk hx=>?_,hs.cV.g0,hs.cV.gx⟩,fun i av hi=>(hA.cB i av hi).mono F3 F2 F4,fun id q hq=>?_,fun id hid=>?_,fun id oZ g hg i6=>?_,fun id g hg=>?_,fun id g hg hm=>?_,hs.new⟩,hB.Vm.mono F5⟩
 ·have Pk:¬lC (eS ln φ) k:=fun h=>by
   obtain ⟨c,k',wF,hc⟩:=inr k h
   rcases (hs.cU c k hc).1.2 with h|h
   ·omega
   ·exact hx h
  rw [hB.block k (Nat.lt_of_lt_of_le hk hs.cV.size) Pk]
  exact hs.cV.block k hk hx
 ·cases hl:look ln id with
  | some k =>
   obtain ⟨r',f2,f10⟩:=Aj id k hl
   rw [f10] at hq;injection hq with hq;subst hq
   rw [JH id k hl]
   refine (hB.Hy.rows k r' f2).J7 (inv ln) (fun i c x Uw hx=>?_) F5
   obtain ⟨e,m,b⟩:=x
   obtain ⟨q,hq,he,hm,q6⟩:=aO hx
   have Tn:=(jF h1 h2).1 Uw
   obtain ⟨TU,f3,f4⟩:=Aj c i Tn
   rw [hq] at f3;injection f3 with f3;subst f3
   obtain ⟨m1,m2,-,-⟩:=kY (inv ln) q
   rw [bq f4,m1,m2,JH c i Tn,he,hm,q6]
  | none =>
   rw [Ht id hl] at hq
   have gb:id ∉ fc ln:=(Av id q hq).1
   have aN:=hA.rows id q hq
   have e:NG id=wU id:=by rw [eA,if_neg gb,JI id hl]
   unfold bN at aN ⊢
   rw [←e]
   cases hg:NG id with
   | none=>rw [hg] at aN;exact aN
   | some g =>
    rw [hg] at aN
    obtain ⟨cur,te,fr,u1,u2,u3,u4,u5⟩:=aN
    have cp:φ id=some g:=by rw [eA,if_neg gb] at hg;exact hg
    have Pk:¬lC (eS ln φ) g:=fun h=>by
     obtain ⟨c,k,wF,hc⟩:=inr g h
     have:=hs.inj id c g cp hc
     subst this;rw [hl] at wF;cases wF
    refine ⟨cur,te,fr,(hB.block g (hs.cU id g cp).2 Pk).trans u1,u2,u3,u4,fun j u x hu hx=>?_⟩
    have:=u5 j u x hu hx
    unfold bh at this ⊢
    cases hp:q.pure with
    | true=>rw [hp] at this;exact this.mono F2
    | false=>rw [hp] at this;exact this.mono F3 F2 F4
 ·cases hl:look ln id with
  | some k=>obtain ⟨r',-,f⟩:=Aj id k hl;rw [f] at hid;cases hid
  | none =>
   rw [Ht id hl] at hid
   have gb:id ∉ fc ln:=fun hm=>by obtain ⟨k,h,-⟩:=Hd id hm;rw [hl] at h;cases h
   have:=hA.only id hid
   rw [eA,if_neg gb] at this
   rw [JI id hl,this]
 ·have mixed:∀i j k,look ln i=some k->look ln j=none->cz k=some g->φ j=some g->False:=by
   intro i j k hi hj Ij Oe
   rcases hB.cU k g Ij with h|h
   ·have:=(hs.cU j g Oe).2;omega
   ·obtain ⟨c,k',wF,hc⟩:=inr g h
    have:=hs.inj j c g Oe hc
    subst this;rw [hj] at wF;cases wF
  cases hl:look ln id with
  | some k =>
   rw [JH id k hl] at hg
   cases qY:look ln oZ with
   | some k' =>
    rw [JH oZ k' qY] at i6
    have:=hB.Hy.inj k k' g hg i6
    subst this
    have e1:=(jF h1 h2).2 hl
    have e2:=(jF h1 h2).2 qY
    rw [e1] at e2;injection e2
   | none=>rw [JI oZ qY] at i6;exact (mixed id oZ k hl qY hg i6).elim
  | none =>
   rw [JI id hl] at hg
   cases qY:look ln oZ with
   | some k'=>rw [JH oZ k' qY] at i6;exact (mixed oZ id k' qY hl i6 hg).elim
   | none=>rw [JI oZ qY] at i6;exact hs.inj id oZ g hg i6
 ·cases hl:look ln id with
  | none =>
   rw [JI id hl] at hg
   have:=hs.cU id g hg
   exact ⟨this.1,Nat.lt_of_lt_of_le this.2 hB.size⟩
  | some k =>
   rw [JH id k hl] at hg
   refine ⟨⟨?_,?_⟩,hB.Hy.lt k g hg⟩
   ·rcases pv hv hC id k (kC hl) with ⟨uz,-⟩|⟨-,h⟩
    ·obtain ⟨r0,r',g',-,-,-,-,-,-,f7,f8⟩:=vars id k hl uz
     rw [hg] at f7;injection f7 with f7;subst f7
     exact (hs.cU id g f8).1.1
    ·exact .inl h
   ·rcases hB.cU k g hg with h|h
    ·exact .inl (Nat.le_trans hs.cV.size h)
    ·obtain ⟨c,k',wF,hc⟩:=inr g h
     exact (hs.cU c g hc).1.2
 ·obtain ⟨o1,o2,o3⟩:=hB.own g hm
  cases hl:look ln id with
  | some k=>rw [JH id k hl] at hg;exact o3 ⟨k,hg⟩
  | none =>
   rw [JI id hl] at hg
   rcases o1 with h|h
   ·have:=(hs.cU id g hg).2;omega
   ·obtain ⟨c,k',wF,hc⟩:=inr g h
    have:=hs.inj id c g hg hc
    subst this;rw [hl] at wF;cases wF
end
section
variable {P:Program} {n:Nat} {s:AS} {o:Oper} {h:Hint} {q:AS×List Prop}
theorem uV {c:Callee} {xs:Array Operand} {ts:Array TypeId} (ho:o.op= .call ⟨c,xs,ts⟩) (hr:nV P n s o.dst c xs.toList h=some q):lZ P n s o q.1 q.2:=by
 intro hC S0 w0 a w Q ⟨φ,hs⟩
 unfold nV at hr
 split at hr
 ·rename_i f r hc _
  split at hr
  ·rename_i s1 hE HQ
   split at hr
   ·rename_i Hl Hb C hl hb wF hv
    obtain ⟨h1,h2⟩:=Dd wF
    obtain ⟨iG,gS⟩:=fM _ _ _ _ HQ hs
    obtain ⟨Pp,hI⟩:=Kk gS h1 h2 hl
    have ct:=jj hs hc ho hE
    have main:gk P f (xs.toList.map fun x=>rK h.ln (bp s1 x)) Hl r h.ho->bx C-> ∀s',((∃d,o.dst=some d∧nodupB ((bL d r).2.map (·.1))=true∧gg n ⟨(aT (i_ s1 h.ln Hb) ((bL d r).2.map (·.1))).F,(bL d r).2++(aT (i_ s1 h.ln Hb) ((bL d r).2.map (·.1))).H⟩ (some d) (bL d r).1=some s')∨(o.dst=none∧s'=i_ s1 h.ln Hb))->o.wp P a w (fun a' w'=>iv S0 w0 n s' a' w') Q:=by
     intro nr Ek s' hd
     unfold Oper.wp
     rw [ct]
     have mJ:=nr w (aM S0 w iG []) (eS h.ln iG) (xs.toList.map a.eval) gS.cV.mw (fun id g hg hb=>by
      obtain ⟨k,hk⟩:∃k,iG k=some g:=by
       unfold eS at hg
       cases hl:look (inv h.ln) id with
       | none=>rw [hl] at hg;cases hg
       | some k=>rw [hl] at hg;exact ⟨k,hg⟩
      rcases (gS.cU k g hk).1.2 with h1|h1
      ·have:=gS.cV.g0.lt hb;omega
      ·exact gS.cV.gx g hb h1) Pp (by simp) (fun j v x hv hx=>by
      rw [List.getElem?_map] at hv hx
      cases hj:xs.toList[j]? with
      | none=>rw [hj] at hv;cases hv
      | some y =>
       rw [hj] at hv hx
       injection hv with hv;injection hx with hx;subst hv;subst hx
       exact (gS.bp y).J7 h.ln hI (fun b hb=>hb))
     have e:(xs.toList.map a.eval).toArray=xs.map a.eval:=by apply Array.ext';simp
     rw [e] at mJ
     refine mJ.mono ?_
     rintro en w' ⟨v,O,cz,rfl,hB⟩
     show iv S0 w0 n s' (a.put o.dst v) w'
     obtain ⟨wU,h3,uy⟩:=E9 gS h1 h2 hb hv Ek hB
     have mo:∀g∈O,(w0.heap.size≤g∨S0.X g)∧g<w'.heap.size:=fun g hg=>by
      obtain ⟨o1,o2,-⟩:=hB.own g hg
      refine ⟨?_,o2⟩
      rcases o1 with h|⟨k,hk⟩
      ·exact .inl (Nat.le_trans gS.cV.size h)
      ·unfold eS at hk
       cases hc:look (inv h.ln) k with
       | none=>rw [hc] at hk;cases hk
       | some c=>rw [hc] at hk;exact (gS.cU c g hk).1.2
     rcases hd with ⟨d,hd,wA,dZ⟩|⟨hd,rfl⟩
     ·obtain ⟨vj,h4,hF,H2⟩:=j0 ((bL d r).2.map (·.1)) _ wU O h3
      have QB:aG S0 w0 n (O++ []) (aT (i_ s1 h.ln Hb) ((bL d r).2.map (·.1))) a w' vj:=by rw [List.append_nil];exact h4
      obtain ⟨TJ,h5,h6,-⟩:=vQ (aT (i_ s1 h.ln Hb) ((bL d r).2.map (·.1))) vj O [] v r d QB (by rw [List.append_nil];exact uy.mono hF) (by rw [List.append_nil];exact hB.nodup) mo (fun i hi=>⟨H2 i (.inr hi),qO wA i hi⟩) (iB wA)
      rw [hd]
      exact ⟨TJ,dO h5 h6 dZ⟩
     ·rw [hd]
      have key:∀(O:List Nat),aG S0 w0 n O (i_ s1 h.ln Hb) a w' wU->aG S0 w0 n [] (i_ s1 h.ln Hb) a w' wU:=by
       intro O
       induction O with
       | nil=>exact fun h=>h
       | cons g O ih=>exact fun h=>ih h.uK
      have h5:=key O h3
      exact ⟨wU,⟨h5.jL,h5.jO,h5.cV,h5.cB,h5.rows,h5.only,h5.inj,h5.cU,h5.apart,h5.new⟩⟩
    split at hr
    ·rename_i d hd
     split at hr
     ·rename_i s' wA dZ
      cases hr
      exact main hC.1 hC.2 s' (.inl ⟨d,hd,wA,dZ⟩)
     ·cases hr
    ·rename_i hd
     cases hr
     exact main hC.1 hC.2 _ (.inr ⟨hd,rfl⟩)
   ·cases hr
  ·cases hr
 ·cases hr
end
def bk (o:Oper):List Nat:=(o.after.toList.filter (Region.binds .any)).map (·.on)
def rH (ops:Array Oper) (a:Act) (d:Nat):Value :=
 match (ops[d]?).bind (·.dst) with
 | some s=>a.tmps.getD s undef
 | none=>undef
def ly (ops:Array Oper) (n:Nat):Bool :=
 (ops.toList.zipIdx.all fun p=>(bk p.1).all (· <p.2)) && (ops.toList.filterMap (·.dst)).Nodup && (ops.toList.all fun o=>match o.dst with|some s=>decide (s<n)|none=>true)
def eD (l:List (Oper×Nat)) (vs:Nat->Value) (a:Act):Act:=l.foldl (fun a p=>a.put p.1.dst (vs p.2)) a
theorem mc (a:Act) (s:Nat) (v:Value) (h:s<a.tmps.size):(a.put (some s) v).tmps[s]?=some v:=by
 simp [Act.put,h]
theorem gY (a:Act) (d:Option Nat) (s:Nat) (v:Value) (h:d≠some s):(a.put d v).tmps[s]?=a.tmps[s]?:=by
 cases d with
 | none=>rfl
 | some t =>
  have:t≠s:=fun e=>h (by rw [e])
  simp [Act.put,Array.getElem?_setIfInBounds_ne this]
theorem pI (a:Act) (d:Option Nat) (v:Value):(a.put d v).tmps.size=a.tmps.size:=by
 cases d<;>simp [Act.put]
theorem put_defers (a:Act) (d:Option Nat) (v:Value):(a.put d v).defers=a.defers:=by
 cases d<;>simp [Act.put]
theorem jD (vs:Nat->Value):∀(l:List (Oper×Nat)) (a:Act),(l.filterMap (·.1.dst)).Nodup ->
  (eD l vs a).tmps.size=a.tmps.size∧(eD l vs a).defers=a.defers ∧
  (∀p∈l,∀s,p.1.dst=some s->s<a.tmps.size->(eD l vs a).tmps[s]?=some (vs p.2)) ∧
  (∀s,(∀p∈l,p.1.dst≠some s)->(eD l vs a).tmps[s]?=a.tmps[s]?)
 | [],a,_=>⟨rfl,rfl,by simp,fun _ _=>rfl⟩
 | p::l,a,hn=>by
  have sr:(l.filterMap (·.1.dst)).Nodup:=by
   cases hd:p.1.dst with
   | none=>rw [List.filterMap_cons_none (by simpa using hd)] at hn;exact hn
   | some s=>rw [List.filterMap_cons_some (by simpa using hd)] at hn;exact (List.nodup_cons.1 hn).2
  obtain ⟨h1,h2,h3,h4⟩:=jD vs l (a.put p.1.dst (vs p.2)) sr
  refine ⟨h1.trans (pI ..),h2.trans (put_defers ..),fun q hq s hs dd=>?_,fun s hs=>?_⟩
  ·rcases List.mem_cons.1 hq with rfl|hq
   ·have gb:∀p∈l,p.1.dst≠some s:=by
     intro p' Ea he
     rw [List.filterMap_cons_some (by simpa using hs)] at hn
     exact (List.nodup_cons.1 hn).1 (List.mem_filterMap.2 ⟨p',Ea,he⟩)
    show (eD l vs (a.put q.1.dst (vs q.2))).tmps[s]?=_
    rw [h4 s gb,hs]
    exact mc a s _ dd
   ·exact h3 q hq s hs (by rw [pI];exact dd)
  ·show (eD l vs (a.put p.1.dst (vs p.2))).tmps[s]?=_
   rw [h4 s fun q hq=>hs q (List.mem_cons_of_mem _ hq),gY a _ s _ (hs p (List.mem_cons_self ..))]
def gP (P:Program) (ops:Array Oper) (Q:Exit->Act->World->Prop) (o:Oper) (a:Act) (w:World) (R:Value->World->Prop):Prop :=
 if Region.wanted o (yielded ops a.tmps) then o.wp P a w (fun a' w'=>∃v,a'=a.put o.dst v∧Below w.heap.size w w'∧R v w') Q else R undef w
section
variable {P:Program} {ops:Array Oper} {Q:Exit->Act->World->Prop} {a:Act} {w:World}
structure Inv (ops:Array Oper) (F:Nat->Value->World->Prop) (a:Act) (w:World) (listed:Array Bool) (a':Act) (w':World):Prop where
 grown:Below w.heap.size w w'
 size:listed.size=ops.size
 closed:∀k o,listed.getD k false=true->ops[k]?=some o-> ∀d∈bk o,listed.getD d false=true
 ze:a'.tmps.size=a.tmps.size
 sH:a'.defers=a.defers
 val:∀k o s,listed.getD k false=true->ops[k]?=some o->o.dst=some s-> ∃v,a'.tmps[s]?=some v∧F k v w'
 DQ:∀k o,listed.getD k false=true->ops[k]?=some o->o.dst=none-> ∃v,F k v w'
 old:∀s,(∀k o,listed.getD k false=true->ops[k]?=some o->o.dst≠some s)->a'.tmps[s]?=a.tmps[s]?
theorem fT {n:Nat} (h:ly ops n=true):(∀(k:Nat) (o:Oper),ops[k]?=some o-> ∀d∈bk o,d<k)∧(ops.toList.filterMap (·.dst)).Nodup∧(∀(k:Nat) (o:Oper) (s:Nat),ops[k]?=some o->o.dst=some s->s<n):=by
 unfold ly at h
 simp only [Bool.and_eq_true,List.all_eq_true,decide_eq_true_eq] at h
 obtain ⟨⟨h1,h2⟩,h3⟩:=h
 refine ⟨fun k o ho d hd=>?_,h2,fun k o s ho hs=>?_⟩
 ·have hm:(o,k)∈ops.toList.zipIdx:=by rw [List.mem_zipIdx_iff_getElem?];simpa using ho
  exact h1 (o,k) hm d hd
 ·have hm:o∈ops.toList:=by
   rw [←Array.getElem?_toList] at ho
   exact List.mem_of_getElem? ho
  have:=h3 o hm
  rw [hs] at this
  simpa using this
theorem n0 (hn:(ops.toList.filterMap (·.dst)).Nodup) {j k:Nat} {o p:Oper} {s:Nat} (hj:ops[j]?=some o) (hk:ops[k]?=some p) (ho:o.dst=some s) (hp:p.dst=some s):j=k:=by
 rw [←Array.getElem?_toList] at hj hk
 have key:∀(l:List Oper) (j k:Nat),(l.filterMap (·.dst)).Nodup->l[j]?=some o->l[k]?=some p->j=k:=by
  intro l
  induction l with
  | nil=>intro j k _ h;simp at h
  | cons x l ih =>
   intro j k hn hj hk
   have sr:(l.filterMap (·.dst)).Nodup:=by
    cases hd:x.dst with
    | none=>rw [List.filterMap_cons_none (by simpa using hd)] at hn;exact hn
    | some s=>rw [List.filterMap_cons_some (by simpa using hd)] at hn;exact (List.nodup_cons.1 hn).2
   have fresh:∀(i:Nat) (q:Oper),x.dst=some s->l[i]?=some q->q.dst≠some s:=by
    intro i q hx hq he
    rw [List.filterMap_cons_some (by simpa using hx)] at hn
    exact (List.nodup_cons.1 hn).1 (List.mem_filterMap.2 ⟨q,List.mem_of_getElem? hq,he⟩)
   cases j with
   | zero =>
    cases k with
    | zero=>rfl
    | succ k =>
     simp at hj hk;subst hj
     exact absurd hp (fresh k p ho hk)
   | succ j =>
    cases k with
    | zero =>
     simp at hj hk;subst hk
     exact absurd ho (fresh j o hp hj)
    | succ k=>rw [ih j k sr (by simpa using hj) (by simpa using hk)]
 exact key ops.toList j k hn hj hk
end
section
variable {P:Program} {ops:Array Oper} {Q:Exit->Act->World->Prop} {a:Act} {w:World}
theorem pe (l:List Bool):∀i:Nat,l[i]?=some false->((l.set i true).filter (· == false)).length+1=(l.filter (· == false)).length:=by
 induction l with
 | nil=>intro i hi;simp at hi
 | cons x l ih =>
  intro i hi
  cases i with
  | zero=>simp at hi;subst hi;simp
  | succ i =>
   simp only [List.set_cons_succ]
   have:=ih i (by simpa using hi)
   cases x
   ·rw [List.filter_cons_of_pos rfl,List.filter_cons_of_pos rfl];simp only [List.length_cons];omega
   ·rw [List.filter_cons_of_neg (by simp),List.filter_cons_of_neg (by simp)];exact this
theorem Bw {n T:Nat} (hT:T<ops.size) (JC:Region.sinkB .any ops T=true) (vz:Region.chainB .any ops T=true) (O5:Region.seqB .any ops (ops.size-T) T ((List.range ops.size).map (decide<| · <T)).toArray=true) (dq:a.tmps.size=n) (hB:ly ops n=true) (F:Nat->Value->World->Prop) (mono:∀k v w w',Below w.heap.size w w'->F k v w->F k v w')
  (vf:∀k o,k<T->ops[k]?=some o-> ∀a' w',Below w.heap.size w w'->(∀d∈bk o,F d (rH ops a' d) w'∨(∃p,ops[d]?=some p∧p.dst=none))->(∀s,(∀(j:Nat) (p:Oper),j<T->ops[j]?=some p->p.dst≠some s)->a'.eval (.tmp s)=a.eval (.tmp s))->gP P ops Q o a' w' (F k))
  (j8:∀vs:Nat->Value,∀w',Below w.heap.size w w'->(∀k,k<T->F k (vs k) w')->wpList P ops Q (ops.toList.drop T) (eD (ops.toList.zipIdx.take T) vs a) w') :
  ∀(fuel:Nat) (listed:Array Bool) (a':Act) (w':World),Inv ops F a w listed a' w'->(∀j,T≤j->listed.getD j false=false) ->
   (listed.toList.filter (· == false)).length=fuel->wpAny P .any ops Q fuel listed a' w':=by
 obtain ⟨dd,im,vg⟩:=fT hB
 have kt:∀(listed:Array Bool) (a':Act) (w':World),Inv ops F a w listed a' w'-> ∀k,k<T->listed.getD k false=false-> ∃i,i<T∧i∈Region.ready .any ops listed:=by
  intro listed a' w' I k
  induction k using Nat.strongRecOn with
  | _ k ih =>
   intro hk hl
   have iF:k<listed.size:=by rw [I.size];omega
   have Bt:k<ops.size:=aj
   have oq:ops[k]?=some ops[k]:=Array.getElem?_eq_getElem Bt
   by_cases gh:∀d∈bk ops[k],listed.getD d false=true
   ·refine ⟨k,hk,?_⟩
    rw [mem_ready]
    refine ⟨?_,ops[k],oq,fun e he hb=>gh e.on ?_⟩
    ·simp [iF] at hl ⊢;exact hl
    ·unfold bk
     exact List.mem_map.2 ⟨e,List.mem_filter.2 ⟨by simpa using he,hb⟩,rfl⟩
   ·have:∃d,d∈bk ops[k]∧listed.getD d false=false:=by
     refine Classical.byContradiction fun gb=>gh fun d hd=>?_
     cases hx:listed.getD d false with
     | true=>rfl
     | false=>exact absurd ⟨d,hd,hx⟩ gb
    obtain ⟨d,hd,hx⟩:=this
    exact ih d (dd k _ oq d hd) (by have:=dd k _ oq d hd;omega) hx
 have done:∀(listed:Array Bool) (a':Act) (w':World),Inv ops F a w listed a' w'->(∀k,k<T->listed.getD k false=true)->(∀j,T≤j->listed.getD j false=false)->wpList P ops Q (ops.toList.drop T) a' w':=by
  intro listed a' w' I all tail
  have hv:∀k,∃v,k<T->(F k v w'∧ ∀o s,ops[k]?=some o->o.dst=some s->a'.tmps[s]?=some v):=by
   intro k
   by_cases hk:k<T
   ·have Bt:k<ops.size:=aj
    have oq:ops[k]?=some ops[k]:=Array.getElem?_eq_getElem Bt
    cases hd:ops[k].dst with
    | none =>
     obtain ⟨v,hv⟩:=I.DQ k _ (all k hk) oq hd
     exact ⟨v,fun _=>⟨hv,fun o s ho hs=>by rw [oq] at ho;injection ho with ho;subst ho;rw [hd] at hs;cases hs⟩⟩
    | some s =>
     obtain ⟨v,hv,hF⟩:=I.val k _ s (all k hk) oq hd
     exact ⟨v,fun _=>⟨hF,fun o s' ho hs=>by rw [oq] at ho;injection ho with ho;subst ho;rw [hd] at hs;injection hs with hs;subst hs;exact hv⟩⟩
   ·exact ⟨undef,fun h=>absurd h hk⟩
  obtain ⟨vs,D6⟩:=Classical.axiomOfChoice hv
  have qX:∀p:Oper×Nat,p∈ops.toList.zipIdx.take T↔(p.2<T∧ops[p.2]?=some p.1):=by
   intro p
   rw [List.mem_iff_getElem?]
   constructor
   ·rintro ⟨x,hx⟩
    rw [List.getElem?_take] at hx
    split at hx
    ·rename_i At
     rw [List.getElem?_zipIdx] at hx
     cases ho:ops.toList[x]? with
     | none=>rw [ho] at hx;simp at hx
     | some q =>
      rw [ho] at hx
      simp at hx
      subst hx
      exact ⟨by simpa using At,by simpa using ho⟩
    ·cases hx
   ·rintro ⟨h1,h2⟩
    refine ⟨p.2,?_⟩
    rw [List.getElem?_take,if_pos h1,List.getElem?_zipIdx]
    have Oe:ops.toList[p.2]?=some p.1:=by simpa using h2
    rw [Oe];simp
  have jI:=jD vs (ops.toList.zipIdx.take T) a (by
   have h1:(ops.toList.zipIdx.take T).filterMap (·.1.dst)=(ops.toList.take T).filterMap (·.dst):=by
    conv=>rhs;rw [←List.zipIdx_map_fst 0 ops.toList,←List.map_take]
    rw [List.filterMap_map];rfl
   rw [h1]
   exact List.Nodup.sublist ((List.take_sublist T ops.toList).filterMap _) im)
  have he:a'=eD (ops.toList.zipIdx.take T) vs a:=by
   have ht:a'.tmps=(eD (ops.toList.zipIdx.take T) vs a).tmps:=by
    apply Array.ext_getElem?
    intro s
    by_cases hs:∃(k:Nat) (o:Oper),k<T∧ops[k]?=some o∧o.dst=some s
    ·obtain ⟨k,o,hk,ho,hd⟩:=hs
     rw [(D6 k hk).2 o s ho hd]
     exact (jI.2.2.1 (o,k) ((qX _).2 ⟨hk,ho⟩) s hd (by rw [dq];exact vg k o s ho hd)).symm
    ·rw [I.old s fun k o hl ho hd=>hs ⟨k,o,(Classical.byContradiction fun hk=>(by have:=tail k (Nat.le_of_not_lt hk);rw [this] at hl;cases hl)),ho,hd⟩]
     exact (jI.2.2.2 s fun p hp hd=>hs ⟨p.2,p.1,((qX p).1 hp).1,((qX p).1 hp).2,hd⟩).symm
   have hd:a'.defers=(eD (ops.toList.zipIdx.take T) vs a).defers:=I.sH.trans jI.2.1.symm
   cases a';cases h:eD (ops.toList.zipIdx.take T) vs a
   rw [h] at ht hd
   simp only at ht hd
   rw [ht,hd]
  rw [he]
  exact j8 vs w' I.grown fun k hk=>(D6 k hk).1
 have rest:∀(fuel:Nat) (listed:Array Bool) (a':Act) (w':World),Inv ops F a w listed a' w'->(∀j,T≤j->listed.getD j false=false)->(listed.toList.filter (· == false)).length=fuel->(∀k,k<T->listed.getD k false=true)->wpAny P .any ops Q fuel listed a' w':=by
  intro fuel listed a' w' I tail hc all
  have nu:listed=((List.range ops.size).map (decide<| · <T)).toArray:=by
   apply Array.ext_getElem?
   intro x
   by_cases hx:x<ops.size
   ·have F7:x<listed.size:=by rw [I.size];exact hx
    have hr:((List.range ops.size).map (decide<| · <T)).toArray[x]?=some (decide (x<T)):=by simp [hx]
    rw [hr]
    by_cases At:x<T
    ·have:=all x At;simp [F7] at this ⊢;rw [this,decide_eq_true At]
    ·have:=tail x aj;simp [F7] at this ⊢;rw [this,decide_eq_false At]
   ·rw [Array.getElem?_eq_none (by rw [I.size];omega),Array.getElem?_eq_none (by simp;omega)]
  have hlen:fuel=(ops.toList.drop T).length:=by
   rw [←hc,nu]
   simp only [List.length_drop,Array.length_toList,List.filter_map,List.length_map]
   have key:∀n,T≤n->((List.range n).filter ((fun x=>x == false) ∘ (decide<| · <T))).length=n-T:=by
    intro n hn
    induction n with
    | zero=>simp
    | succ n ih =>
     rw [List.range_succ,List.filter_append,List.length_append]
     by_cases Pm:T≤n
     ·rw [ih Pm]
      have:((fun x=>x == false) ∘ (decide<| · <T)) n=true:=by simp;omega
      rw [List.filter_cons_of_pos this];simp;omega
     ·obtain rfl:T=n+1:=aj
      have h1:(List.range n).filter ((fun x=>x == false) ∘ (decide<| · <n+1))= []:=by
       rw [List.filter_eq_nil_iff];intro x hx;have:=List.mem_range.1 hx;simp;omega
      have h2:[n].filter ((fun x=>x == false) ∘ (decide<| · <n+1))= []:=by
       rw [List.filter_eq_nil_iff];intro x hx;simp at hx;subst hx;simp
      rw [h1,h2];simp
   exact key ops.size aj
  rw [hlen]
  refine wpAny_of_seq (ops.toList.drop T) T listed a' w' (fun j=>by rw [List.getElem?_drop];simp) ?_ (done listed a' w' I all tail)
  rw [nu]
  simpa using O5
 intro fuel
 induction fuel with
 | zero =>
  intro listed a' w' I tail hc
  refine rest 0 listed a' w' I tail hc fun k hk=>?_
  cases hx:listed.getD k false with
  | true=>rfl
  | false =>
   exfalso
   have iF:k<listed.size:=by rw [I.size];omega
   have:false∈listed.toList.filter (· == false):=by
    refine List.mem_filter.2 ⟨?_,rfl⟩
    have h1:listed.toList[k]?=some false:=by simp [iF] at hx ⊢;exact hx
    exact List.mem_of_getElem? h1
   have:=List.length_pos_of_mem this
   omega
 | succ fuel ih =>
  intro listed a' w' I tail hc
  by_cases hex:∀k,k<T->listed.getD k false=true
  ·exact rest (fuel+1) listed a' w' I tail hc hex
  have OX:∃k,k<T∧listed.getD k false=false:=by
   refine Classical.byContradiction fun gb=>hex fun k hk=>?_
   cases hx:listed.getD k false with
   | true=>rfl
   | false=>exact absurd ⟨k,hk,hx⟩ gb
  obtain ⟨k0,xJ,HK⟩:=OX
  have PJ:HeadInv .any ops T listed:=⟨I.size,fun j oj hj hl e he hb=>I.closed j oj hl hj e.on (by
    unfold bk
    exact List.mem_map.2 ⟨e,List.mem_filter.2 ⟨by simpa using he,hb⟩,rfl⟩),fun t ht O4=>getD_in (by rw [I.size];exact O4) (tail t ht)⟩
  have H8:listed.getD k0 true=false:=getD_in (by rw [I.size];omega) HK
  refine ⟨fun hr=>(by
   obtain ⟨i,_,hi⟩:=kt listed a' w' I k0 xJ HK
   rw [hr] at hi;cases hi),fun i hi=>?_⟩
  have Ps:i<T:=Classical.byContradiction fun h=>tail_waits JC vz hT PJ _ k0 rfl xJ H8 i aj hi
  obtain ⟨h0,o,ho,gh⟩:=mem_ready.1 hi
  have H9:i<listed.size:=by rw [I.size];exact (Array.getElem?_eq_some_iff.1 ho).1
  have Of:listed.getD i false=false:=by simp [H9] at h0 ⊢;exact h0
  have i9:∀d∈bk o,listed.getD d false=true:=by
   intro d hd
   unfold bk at hd
   obtain ⟨e,he,rfl⟩:=List.mem_map.1 hd
   obtain ⟨LK,KI⟩:=List.mem_filter.1 he
   exact gh e (by simpa using LK) KI
  have next:∀v fp,Below w'.heap.size w' fp->F i v fp->Inv ops F a w (listed.setIfInBounds i true) (a'.put o.dst v) fp:=by
   intro v fp hb hF
   have lists:∀k,(listed.setIfInBounds i true).getD k false=true->k=i∨listed.getD k false=true:=by
    intro k hk
    by_cases su:i=k
    ·exact .inl su.symm
    ·right;rw [getD_set_ne false su] at hk;exact hk
   refine ⟨I.grown.pB hb,by simpa using I.size,?_,(pI ..).trans I.ze,(put_defers ..).trans I.sH,?_,?_,?_⟩
   ·intro k p hk hp d hd
    rcases lists k hk with rfl|hk
    ·rw [ho] at hp;injection hp with hp;subst hp
     exact getD_set_true (i9 d hd)
    ·exact getD_set_true (I.closed k p hk hp d hd)
   ·intro k p s hk hp hs
    rcases lists k hk with rfl|hk
    ·rw [ho] at hp;injection hp with hp;subst hp
     refine ⟨v,?_,hF⟩
     rw [hs]
     exact mc a' s v (by rw [I.ze,dq];exact vg k _ s ho hs)
    ·obtain ⟨u,hu,Sa⟩:=I.val k p s hk hp hs
     refine ⟨u,?_,mono k u w' fp hb Sa⟩
     rw [gY a' o.dst s v fun he=>?_]
     ·exact hu
     ·have:=n0 im ho hp he hs
      subst this
      rw [Of] at hk;cases hk
   ·intro k p hk hp hs
    rcases lists k hk with rfl|hk
    ·exact ⟨v,hF⟩
    ·obtain ⟨u,hu⟩:=I.DQ k p hk hp hs
     exact ⟨u,mono k u w' fp hb hu⟩
   ·intro s hs
    rw [gY a' o.dst s v (hs i o (by simp [H9]) ho)]
    exact I.old s fun k p hk hp=>hs k p (getD_set_true hk) hp
  have nq:∀j,T≤j->(listed.setIfInBounds i true).getD j false=false:=fun j hj=>by rw [getD_set_ne false aj];exact tail j hj
  have nt:((listed.setIfInBounds i true).toList.filter (· == false)).length=fuel:=by
   have Po:((listed.setIfInBounds i true).toList.filter (· == false)).length+1=(listed.toList.filter (· == false)).length:=by
    rw [Array.toList_setIfInBounds]
    have jd:listed.toList[i]?=some false:=by simp [H9] at h0 ⊢;exact h0
    exact pe _ i jd
   omega
  have iN:=vf i o Ps ho a' w' I.grown (fun d hd=>by
   have hl:=i9 d hd
   cases hp:ops[d]? with
   | none =>
    have qt:d<listed.size:=by
     rcases Nat.lt_or_ge d listed.size with h|h
     ·exact h
     ·simp [Array.getElem?_eq_none h] at hl
    rw [I.size] at qt
    rw [Array.getElem?_eq_getElem qt] at hp;cases hp
   | some p =>
    cases hs:p.dst with
    | none=>exact .inr ⟨p,rfl,hs⟩
    | some s =>
     left
     obtain ⟨u,hu,hF⟩:=I.val d p s hl hp hs
     unfold rH
     rw [hp]
     simp only [Option.bind_some,hs]
     simp [hu];exact hF) (fun s hs=>by
   show a'.tmps.getD s undef=a.tmps.getD s undef
   have:a'.tmps[s]?=a.tmps[s]?:=I.old s fun k p hk hp hd=>by
    have vw:k<T:=Classical.byContradiction fun h=>(by have:=tail k (Nat.le_of_not_lt h);rw [this] at hk;cases hk)
    exact hs k p vw hp hd
   simp [this])
  unfold gP at iN
  unfold wpOp
  rw [ho]
  simp only
  by_cases hw:Region.wanted o (yielded ops a'.tmps)=true
  ·rw [if_pos hw] at iN ⊢
   left
   exact Oper.wp_mono (fun rC fp ⟨v,he,hb,hF⟩=>by
    subst he
    exact ih _ _ _ (next v fp hb hF) nq nt) iN
  ·rw [if_neg hw] at iN ⊢
   exact ih _ _ _ (next undef w' (Below.refl _ _) iN) nq nt
def oy (ops:Array Oper) (T:Nat):Bool :=
 decide (T<ops.size) && Region.sinkB .any ops T && Region.chainB .any ops T && Region.seqB .any ops (ops.size-T) T ((List.range ops.size).map (decide<| · <T)).toArray
end
end Go.Proofs.YtjgbhhnghedgdaaGreatDoor
