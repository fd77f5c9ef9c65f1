import Derived.Test.YtjgbhhnghedgdaaGreatDoorZvRB
import Derived.Orders
import Derived.BigCall
import Derived.StillTail
set_option linter.all false
namespace Go.Proofs.YtjgbhhnghedgdaaGreatDoor
open Go.RowKit
def im (ρ :List (Nat×Nat)):AV->AV
 | .ref i=>match look ρ i with|some k=>.ref k|none=>.dead
 | .pre i n=>match look ρ i with|some k=>.pre k n|none=>.dead
 | .jE i o n=>match look ρ i with|some k=>.jE k o n|none=>.dead
 | .addr i o=>match look ρ i with|some k=>.addr k o|none=>.dead
 | .agg _=>.dead
 | .cw _=>.dead
 | x=>x
def EK (ρ :List (Nat×Nat)):AV->AV
 | .agg cs=>.agg (cs.map (im ρ))
 | x=>im ρ x
def nU (ρ :List (Nat×Nat)):AV->AV
 | .cw cs=>.cw (cs.map (EK ρ))
 | x=>EK ρ x
def fy (ρ :List (Nat×Nat)) (r:Row):Row:=match r.pure with|true=>r|false=>⟨r.e,false,r.full,r.cells.map (im ρ)⟩
theorem lF (ρ :List (Nat×Nat)) (r:Row):(fy ρ r).e=r.e∧(fy ρ r).cells.length=r.cells.length∧(fy ρ r).pure=r.pure∧(fy ρ r).full=r.full:=by
 unfold fy;cases h:r.pure<;>simp [h]
section
variable {I I':Info} {S S':Nat->Prop} {w:World}
theorem Ba (ρ :List (Nat×Nat)) (hI:∀i k x,look ρ i=some k->I i=some x->I' k=some x) (hS:∀b,S b->S' b):kg I I' S S' w (im ρ) where
 agg:=fun _=>rfl
 cw:=fun _=>rfl
 leaf:=fun v x hx h1 h2=>by
  have tM:∀b,S b->S' b∧w.heap[b]?=w.heap[b]?:=fun b h=>⟨hS b h,rfl⟩
  cases hx with
  | rep h=>cases h with
   | val v=>exact .rep (.val v)
   | nil=>exact .rep .nil
   | agg vs cs _ _=>exact absurd rfl (h1 cs)
   | cw vs cs _ _=>exact absurd rfl (h2 cs)
   | arr vs cs hl h=>exact .rep ((cz.arr vs cs hl h).mono tM)
   | sl A n c e us row hl hn hc hm ha h=>exact .rep ((cz.sl A n c e us row hl hn hc hm ha h).mono tM)
   | sg A n e us row hl hn hm ha h=>exact .rep ((cz.sg A n e us row hl hn hm ha h).mono tM)
   | ptr ad us row off hl hs ha h=>exact .rep ((cz.ptr ad us row off hl hs ha h).mono tM)
   | mI f vs cs hl h=>exact .rep ((cz.mI f vs cs hl h).mono tM)
  | agg vs cs _ _=>exact absurd rfl (h1 cs)
  | cw vs cs _ _=>exact absurd rfl (h2 cs)
  | ref i e m g l c hi hm hc hx hs =>
   cases h:look ρ i with
   | none=>simp only [im,h];exact .dead _
   | some k=>simp only [im,h];exact .ref k _ m g l c (hI _ _ _ h hi) hm hc hx hs
  | cm i e hi =>
   cases h:look ρ i with
   | none=>simp only [im,h];exact .dead _
   | some k=>simp only [im,h];exact .cm k _ (hI _ _ _ h hi)
  | pre i n e m g l c hi hn hm hc hx hs =>
   cases h:look ρ i with
   | none=>simp only [im,h];exact .dead _
   | some k=>simp only [im,h];exact .pre k n _ m g l c (hI _ _ _ h hi) hn hm hc hx hs
  | dP i e hi =>
   cases h:look ρ i with
   | none=>simp only [im,h];exact .dead _
   | some k=>simp only [im,h];exact .dP k _ (hI _ _ _ h hi)
  | jE i off n e m l c g A hi hn hm hc hx ha =>
   cases h:look ρ i with
   | none=>simp only [im,h];exact .dead _
   | some k=>simp only [im,h];exact .jE k off n _ m l c g A (hI _ _ _ h hi) hn hm hc hx ha
  | addr i off e m g hi =>
   cases h:look ρ i with
   | none=>simp only [im,h];exact .dead _
   | some k=>simp only [im,h];exact .addr k off _ m g (hI _ _ _ h hi)
  | dead v=>exact .dead _
theorem A_ (ρ :List (Nat×Nat)) (y:AV) (h:∀cs,y≠ .agg cs):EK ρ y=im ρ y:=by
 cases y with
 | agg cs=>exact absurd rfl (h cs)
 | _=>rfl
theorem A9 (ρ :List (Nat×Nat)) (y:AV) (h:∀cs,y≠ .cw cs):nU ρ y=EK ρ y:=by
 cases y with
 | cw cs=>exact absurd rfl (h cs)
 | _=>rfl
theorem Den.H5 (ρ :List (Nat×Nat)) (hI:∀i k x,look ρ i=some k->I i=some x->I' k=some x) (hS:∀b,S b->S' b) {v:Value} {x:AV} (h:Den I S w v x):Den I' S' w v (nU ρ x) :=
 (Ba ρ hI hS).two h (fun _=>rfl) (A_ ρ) (fun _=>rfl) (A9 ρ)
theorem bJ.H5 (ρ :List (Nat×Nat)) (hI:∀i k x,look ρ i=some k->I i=some x->I' k=some x) (hS:∀b,S b->S' b) {b:Option Nat} {r:Row} (h:bJ I S w b r):bJ I' S' w b (fy ρ r):=by
 obtain ⟨he,hl,hp,hf⟩:=lF ρ r
 cases b with
 | none =>
  have h:r.cells= []:=h
  show (fy ρ r).cells= []
  exact List.eq_nil_of_length_eq_zero (by rw [hl,h];rfl)
 | some g =>
  obtain ⟨cur,te,fr,hg,gu,hle,nr,hc⟩:=h
  refine ⟨cur,te,fr,hg,gu,by rw [hl];exact hle,fun h=>by rw [hl];exact nr (by rw [←hf];exact h),fun j u x hu hx=>?_⟩
  unfold bh
  cases MD:r.pure with
  | true =>
   have e:fy ρ r=r:=by unfold fy;rw [MD]
   rw [e] at hx ⊢
   have:=hc j u x hu hx
   unfold bh at this
   rw [MD] at this ⊢
   exact this.mono fun b hb=>⟨hS b hb,rfl⟩
  | false =>
   have e:(fy ρ r).cells=r.cells.map (im ρ):=by unfold fy;rw [MD]
   rw [hp,MD]
   rw [e,List.getElem?_map] at hx
   cases hj:r.cells[j]? with
   | none=>rw [hj] at hx;cases hx
   | some y =>
    rw [hj] at hx;injection hx with hx;subst hx
    have:=hc j u y hu hj
    unfold bh at this
    rw [MD] at this
    exact (Ba ρ hI hS).all this
end
def l_ (φ:Nat->Option Nat) (g:Nat):Prop:=∃id,φ id=some g
structure Mh (S:Nat->Prop) (w:World) (φ:Nat->Option Nat) (H:List (Nat×Row)):Prop where
 sep:∀b,S b->b<w.heap.size∧ ¬l_ φ b
 only:∀id,look H id=none->φ id=none
 inj:∀id pe g,φ id=some g->φ pe=some g->id=pe
 lt:∀id g,φ id=some g->g<w.heap.size
 rows:∀id r,look H id=some r->bJ (az H φ) S w (φ id) r
def FI (S:Nat->Prop) (w w':World) (φ b_:Nat->Option Nat) (O:List Nat):Nat->Prop:=fun b=>(S b∨((w.heap.size≤b∨l_ φ b)∧b<w'.heap.size))∧b ∉ O∧ ¬l_ b_ b
structure Kz (S:Nat->Prop) (w w':World) (φ b_:Nat->Option Nat) (O:List Nat) (H':List (Nat×Row)) (v:Value) (r:AV):Prop where
 os:w'.os=w.os
 tape:w'.tape=w.tape
 output:w'.output=w.output
 size:w.heap.size≤w'.heap.size
 block:∀b,b<w.heap.size-> ¬l_ φ b->w'.heap[b]?=w.heap[b]?
 nodup:O.Nodup
 own:∀g∈O,(w.heap.size≤g∨l_ φ g)∧g<w'.heap.size∧ ¬l_ b_ g
 cY:∀id g,b_ id=some g->w.heap.size≤g∨l_ φ g
 fix:∀id g,1000000000000≤id->b_ id=some g->φ id=some g
 IE:Mh (FI S w w' φ b_ O) w' b_ H'
 WX:tQ (FI S w w' φ b_ O) w' v r O
def gn (P:Program) (f:FuncId) (args:List AV) (H:List (Nat×Row)) (r:AV) (H':List (Nat×Row)):Prop :=
 ∀(w:World) (S:Nat->Prop) (φ:Nat->Option Nat) (vs:List Value),Good w->(∀id g,φ id=some g-> ¬TB g)->Mh S w φ H->vs.length=args.length->(∀(j:Nat) v x,vs[j]?=some v->args[j]?=some x->Den (az H φ) S w v x) ->
  Calls P f vs.toArray w fun e w'=>∃v O b_,e= .returned v∧Kz S w w' φ b_ O H' v r
def inv:List (Nat×Nat)->List (Nat×Nat)
 | []=>[]
 | (c,k)::l=>(k,c)::inv l
def Bq (i:Nat):List Nat->Bool
 | []=>false
 | j::l=>match Nat.beq i j with|true=>true|false=>Bq i l
theorem Bp (i:Nat):∀(l:List Nat),Bq i l=true↔i∈l
 | []=>by simp [Bq]
 | j::l=>by
  simp only [Bq]
  rcases bI i j with ⟨h,e⟩|⟨h,e⟩
  ·rw [h];simp [e]
  ·rw [h];simp only [List.mem_cons];rw [Bp i l];simp [e]
def vi:List Nat->Bool
 | []=>true
 | i::l=>match Bq i l with|true=>false|false=>vi l
theorem rS:∀ {l:List Nat},vi l=true->l.Nodup
 | [],_=>List.nodup_nil
 | i::l,h=>by
  simp only [vi] at h
  split at h
  ·cases h
  ·rename_i hn
   rw [List.nodup_cons]
   refine ⟨fun hm=>?_,rS h⟩
   rw [(Bp i l).2 hm] at hn;cases hn
theorem k7 {α:Type} {k:Nat} {x:α}:∀ {l:List (Nat×α)},look l k=some x->(k,x)∈l
 | [],h=>by cases h
 | (j,y)::l,h=>by
  rw [aD] at h
  by_cases e:j=k
  ·rw [if_pos e] at h;injection h with h;subst e;subst h;exact List.mem_cons_self ..
  ·rw [if_neg e] at h;exact List.mem_cons_of_mem _ (k7 h)
theorem jW {α:Type} {k:Nat} {x:α}:∀ {l:List (Nat×α)},(l.map (·.1)).Nodup->(k,x)∈l->look l k=some x
 | [],_,h=>by cases h
 | (j,y)::l,hn,h=>by
  rw [aD]
  simp only [List.map_cons,List.nodup_cons] at hn
  rcases List.mem_cons.1 h with h|h
  ·cases h;rw [if_pos rfl]
  ·have:j≠k:=fun e=>hn.1 (by rw [e];exact List.mem_map.2 ⟨(k,x),h,rfl⟩)
   rw [if_neg this];exact jW hn.2 h
theorem y5 {c k:Nat}:∀ {l:List (Nat×Nat)},(k,c)∈inv l↔(c,k)∈l
 | []=>by simp [inv]
 | (x,y)::l=>by
  simp only [inv,List.mem_cons,y5 (l:=l),Prod.mk.injEq]
  constructor<;>(rintro (⟨h1,h2⟩|h);exact .inl ⟨h2,h1⟩;exact .inr h)
theorem EW:∀(l:List (Nat×Nat)),(inv l).map (·.1)=l.map (·.2)
 | []=>rfl
 | (x,y)::l=>by simp [inv,EW l]
theorem jX {l:List (Nat×Nat)} (h1:(l.map (·.1)).Nodup) (h2:(l.map (·.2)).Nodup) {c k:Nat}:look (inv l) k=some c↔look l c=some k :=
 ⟨fun h=>jW h1 (y5.1 (k7 h)),fun h=>jW (by rw [EW];exact h2) (y5.2 (k7 h))⟩
def gK (s:AS) (ρ :List (Nat×Nat)):List (Nat×Nat)->Option (List (Nat×Row))
 | []=>some []
 | (c,k)::l=>match look s.H c,gK s ρ l with|some r,some m=>some ((k,fy ρ r)::m)|_,_=>none
def j7 (ho:List (Nat×Row)) (ρ :List (Nat×Nat)):List (Nat×Nat)->Option (List (Nat×Row))
 | []=>some []
 | (c,k)::l=>match look ho k,j7 ho ρ l with|some r,some m=>some ((c,fy ρ r)::m)|_,_=>none
theorem pz {s:AS} {ρ :List (Nat×Nat)}:∀ {l:List (Nat×Nat)} {Hl:List (Nat×Row)},gK s ρ l=some Hl-> ∀k,look Hl k=(look (inv l) k).bind fun c=>(look s.H c).map (fy ρ)
 | [],Hl,h,k=>by cases h;rfl
 | (c,k')::l,Hl,h,k=>by
  simp only [gK] at h
  split at h
  ·rename_i r m hr hm
   cases h
   simp only [inv,aD]
   by_cases e:k'=k
   ·rw [if_pos e,if_pos e];simp [hr]
   ·rw [if_neg e,if_neg e];exact pz hm k
  ·cases h
theorem pA {ho:List (Nat×Row)} {ρ :List (Nat×Nat)}:∀ {l:List (Nat×Nat)} {Hb:List (Nat×Row)},j7 ho ρ l=some Hb-> ∀c,look Hb c=(look l c).bind (fun k=>(look ho k).map (fy ρ))∧ ∀k,look l c=some k-> ∃r,look ho k=some r
 | [],Hb,h,c=>by cases h;exact ⟨rfl,fun k h=>by cases h⟩
 | (c',k)::l,Hb,h,c=>by
  simp only [j7] at h
  split at h
  ·rename_i r m hr hm
   cases h
   simp only [aD]
   by_cases e:c'=c
   ·rw [if_pos e,if_pos e]
    exact ⟨by simp [hr],fun k' h=>by injection h with h;subst h;exact ⟨r,hr⟩⟩
   ·rw [if_neg e,if_neg e];exact pA hm c
  ·cases h
def fz:List (Nat×Nat)->List Nat
 | []=>[]
 | (c,k)::l=>match Nat.ble 1000000000000 k with|true=>fz l|false=>c::fz l
theorem rV {c:Nat}:∀ {l:List (Nat×Nat)},c∈fz l-> ∃k,(c,k)∈l∧k<1000000000000
 | [],h=>by cases h
 | (c',k)::l,h=>by
  simp only [fz] at h
  split at h
  ·obtain ⟨k',h1,h2⟩:=rV h;exact ⟨k',by simp [h1],h2⟩
  ·rename_i hb
   rcases List.mem_cons.1 h with rfl|h
   ·exact ⟨k,by simp,by
     rcases Nat.lt_or_ge k 1000000000000 with h|h
     ·exact h
     ·rw [Nat.ble_eq_true_of_le h] at hb;cases hb⟩
   ·obtain ⟨k',h1,h2⟩:=rV h;exact ⟨k',by simp [h1],h2⟩
theorem rR {c k:Nat} (hk:k<1000000000000):∀ {l:List (Nat×Nat)},(c,k)∈l->c∈fz l
 | [],h=>by cases h
 | (c',k')::l,h=>by
  simp only [fz]
  rcases List.mem_cons.1 h with h|h
  ·cases h
   have:Nat.ble 1000000000000 k=false:=by
    cases hb:Nat.ble 1000000000000 k with
    | false=>rfl
    | true=>have:=Nat.le_of_ble_eq_true hb;omega
   rw [this];simp
  ·have:=rR hk h
   split
   ·exact this
   ·simp [this]
def nM (s:AS) (ho:List (Nat×Row)):List (Nat×Nat)->Option (List Prop)
 | []=>some []
 | (c,k)::l=>match Nat.ble 1000000000000 k,nM s ho l with
  | true,some C=>(match look s.H c,look ho k with
   | some ⟨e,_,true,cs⟩,some ⟨e',_,true,KM⟩=>(match Nat.beq e e' with|true=>some ((cs.length=KM.length∧0<KM.length)::C)|false=>none)
   | _,_=>none)
  | false,some C=>(match Nat.ble c 999999999999 with|true=>some C|false=>none)
  | _,none=>none
theorem qe {s:AS} {ho:List (Nat×Row)}:∀ {l:List (Nat×Nat)} {C:List Prop},nM s ho l=some C->bx C-> ∀c k,(c,k)∈l ->
  (1000000000000≤k∧ ∃r r',look s.H c=some r∧look ho k=some r'∧r.e=r'.e∧r.full=true∧r'.full=true∧r.cells.length=r'.cells.length∧0<r'.cells.length)∨(k<1000000000000∧c<1000000000000)
 | [],C,h,hC,c,k,hm=>by cases hm
 | (c',k')::l,C,h,hC,c,k,hm=>by
  simp only [nM] at h
  split at h
  ·rename_i C1 hb hr
   split at h
   ·rename_i e p cs e' p' KM h1 h2
    split at h
    ·rename_i he
     cases h
     rcases List.mem_cons.1 hm with hm|hm
     ·cases hm
      exact .inl ⟨Nat.le_of_ble_eq_true hb,_,_,h1,h2,Nat.eq_of_beq_eq_true he,rfl,rfl,hC.1.1,hC.1.2⟩
     ·exact qe hr hC.2 c k hm
    ·cases h
   ·cases h
  ·rename_i C1 hb hr
   split at h
   ·rename_i hc
    cases h
    rcases List.mem_cons.1 hm with hm|hm
    ·obtain ⟨rfl,rfl⟩:c=c'∧k=k':=by simpa using hm
     have:=Nat.le_of_ble_eq_true hc
     have hk:k<1000000000000:=by
      rcases Nat.lt_or_ge k 1000000000000 with h|h
      ·exact h
      ·rw [Nat.ble_eq_true_of_le h] at hb;cases hb
     exact .inr ⟨hk,ag⟩
    ·exact qe hr hC c k hm
   ·cases h
  ·cases h
def ra (ln:List (Nat×Nat)):Bool:=match vi (ln.map (·.1)) with|true=>vi (ln.map (·.2))|false=>false
theorem wC {ln:List (Nat×Nat)} (h:ra ln=true):(ln.map (·.1)).Nodup∧(ln.map (·.2)).Nodup:=by
 unfold ra at h
 split at h
 ·rename_i h1;exact ⟨rS h1,rS h⟩
 ·cases h
def pW {α:Type} (H:List (Nat×α)):List Nat->List (Nat×α)
 | []=>H
 | i::l=>pW (cR H i) l
theorem tc {α:Type}:∀(l:List Nat) (H:List (Nat×α)) (i:Nat),look (pW H l) i=if i∈l then none else look H i
 | [],H,i=>by simp [pW]
 | j::l,H,i=>by
  simp only [pW]
  rw [tc l,bH]
  by_cases e:j=i
  ·subst e;simp
  ·by_cases h:i∈l
   ·simp [h]
   ·simp [h,e,Ne.symm e]
def gB (s:AS) (ln:List (Nat×Nat)) (Hb:List (Nat×Row)):AS:=⟨(aR s (fz ln)).F,Hb++pW (aR s (fz ln)).H (ln.map (·.1))⟩
def oY (P:Program) (n:Nat) (s:AS) (d:Option Nat) (c:Callee) (args:List Operand) (h:Hint):Option (AS×List Prop) :=
 match callee s c,h.av with
 | some f,some r=>(match gV P f,gf s (((args.map (bq s)).flatMap pd).filter fun i=> !(Bq i (h.ln.map (·.1)))) with
  | true,some s1=>(match gK s1 h.ln h.ln,j7 h.ho (inv h.ln) h.ln,ra h.ln,nM s1 h.ho h.ln with
   | some Hl,some Hb,true,some C=>(match d with
    | some d=>(match nodupB ((br d r).2.map (·.1)),fO n ⟨(aR (gB s1 h.ln Hb) ((br d r).2.map (·.1))).F,(br d r).2++(aR (gB s1 h.ln Hb) ((br d r).2.map (·.1))).H⟩ (some d) (br d r).1 with
     | true,some s'=>some (s',gn P f (args.map fun x=>nU h.ln (bq s1 x)) Hl r h.ho::C)
     | _,_=>none)
    | none=>some (gB s1 h.ln Hb,gn P f (args.map fun x=>nU h.ln (bq s1 x)) Hl r h.ho::C))
   | _,_,_,_=>none)
  | _,_=>none)
 | _,_=>none
section
variable {P:Program} {S0:bn} {w0 w w':World} {n:Nat} {s:AS} {a:Act} {φ:Nat->Option Nat}
theorem yw:∀(l:List Nat) (s:AS) (φ:Nat->Option Nat) (O:List Nat),aI S0 w0 n O s a w φ-> ∃O',aI S0 w0 n O' (aR s l) a w (fun id=>if id∈l then none else φ id)∧(∀g∈O',g∈O∨ ∃i∈l,φ i=some g)∧(∀g∈O,g∈O')∧(∀i∈l,∀g,φ i=some g->g∈O') ∧
  (∀id q,look (aR s l).H id=some q->id ∉ l∧ ∃q0,look s.H id=some q0∧q.e=q0.e∧q.cells.length=q0.cells.length∧q.full=q0.full)∧(∀id q0,id ∉ l->look s.H id=some q0-> ∃q,look (aR s l).H id=some q)
 | [],s,φ,O,h=>by
  have e:(fun id=>if id∈([]:List Nat) then none else φ id)=φ:=by funext id;simp
  rw [e]
  exact ⟨O,h,fun g hg=>.inl hg,fun g hg=>hg,fun i hi=>(by cases hi),fun id q hq=>⟨by simp,q,hq,rfl,rfl,rfl⟩,fun id q0 _ hq=>⟨q0,hq⟩⟩
 | i::l,s,φ,O,h=>by
  have h1:=h.jJ i (match φ i with|some g=>g::O|none=>O) rfl
  obtain ⟨O',h2,h3,h4,h5,h6,h7⟩:=yw l _ _ _ h1
  have kn:∀id,look (ck i s).H id=if i=id then none else (look s.H id).map (bE i):=fun id=>by
   unfold ck;rw [cy,bH];by_cases e:i=id<;>simp [e]
  refine ⟨O',?_,fun g hg=>?_,fun g hg=>h4 g ?_,fun j hj g hg=>?_,fun id q hq=>?_,fun id q0 hid hq=>?_⟩
  ·have:(fun id=>if id∈i::l then none else φ id)=fun id=>if id∈l then none else erase φ i id:=by
    funext id
    unfold erase
    by_cases e1:id=i<;>by_cases e2:id∈l<;>simp [e1,e2]
   rw [this];exact h2
  ·rcases h3 g hg with h|⟨j,hj,jq⟩
   ·cases bW:φ i with
    | none=>rw [bW] at h;exact .inl h
    | some g0 =>
     rw [bW] at h
     rcases List.mem_cons.1 h with rfl|h
     ·exact .inr ⟨i,by simp,bW⟩
     ·exact .inl h
   ·unfold erase at jq
    split at jq
    ·cases jq
    ·exact .inr ⟨j,by simp [hj],jq⟩
  ·cases bW:φ i with
   | none=>exact hg
   | some g0=>simp [hg]
  ·by_cases e:j=i
   ·subst e;exact h4 g (by rw [hg];simp)
   ·rcases List.mem_cons.1 hj with hj|hj
    ·exact absurd hj e
    ·exact h5 j hj g (by unfold erase;rw [if_neg e];exact hg)
  ·obtain ⟨k1,q1,k2,k3,k4,k5⟩:=h6 id q hq
   rw [kn] at k2
   by_cases e:i=id
   ·rw [if_pos e] at k2;cases k2
   ·rw [if_neg e] at k2
    cases hl:look s.H id with
    | none=>rw [hl] at k2;cases k2
    | some q0 =>
     rw [hl] at k2;injection k2 with k2
     obtain ⟨m1,m2,m3,m4⟩:=ga i q0
     exact ⟨by simp [Ne.symm e,k1],q0,rfl,by rw [k3,←k2,m1],by rw [k4,←k2,m2],by rw [k5,←k2,m4]⟩
  ·simp only [List.mem_cons,not_or] at hid
   exact h7 id (bE i q0) hid.2 (by rw [kn,if_neg (Ne.symm hid.1),hq];rfl)
def er (ln:List (Nat×Nat)) (φ:Nat->Option Nat):Nat->Option Nat:=fun k=>(look (inv ln) k).bind φ
theorem EZ (hs:aI S0 w0 n [] s a w φ) {ln:List (Nat×Nat)} (h1:(ln.map (·.1)).Nodup) (h2:(ln.map (·.2)).Nodup) {Hl:List (Nat×Row)} (hl:gK s ln ln=some Hl) :
  Mh (aP S0 w φ []) w (er ln φ) Hl∧(∀i k x,look ln i=some k->az s.H φ i=some x->az Hl (er ln φ) k=some x):=by
 have l3:=pz hl
 have hI:∀i k x,look ln i=some k->az s.H φ i=some x->az Hl (er ln φ) k=some x:=by
  intro i k x MJ hx
  obtain ⟨e,m,b⟩:=x
  obtain ⟨r,hr,he,hm,hb⟩:=aS hx
  have tH:=(jX h1 h2).2 MJ
  rw [bt (r:=fy ln r) (by rw [l3,tH];simp [hr])]
  obtain ⟨m1,m2,-,-⟩:=lF ln r
  rw [m1,m2,he,hm]
  unfold er;rw [tH];simp [hb]
 have back:∀k g,er ln φ k=some g-> ∃c,look (inv ln) k=some c∧φ c=some g:=by
  intro k g hk
  unfold er at hk
  cases hc:look (inv ln) k with
  | none=>rw [hc] at hk;cases hk
  | some c=>rw [hc] at hk;exact ⟨c,rfl,hk⟩
 refine ⟨⟨fun b hb=>⟨hb.1,fun ⟨k,hk⟩=>?_⟩,fun k hk=>?_,fun k k' g hk pf=>?_,fun k g hk=>?_,fun k r hr=>?_⟩,hI⟩
 ·obtain ⟨c,-,hc⟩:=back k b hk
  exact hb.2.2.1 c hc
 ·rw [l3] at hk
  cases hc:look (inv ln) k with
  | none=>unfold er;rw [hc];rfl
  | some c =>
   rw [hc] at hk
   have Wo:look s.H c=none:=by simpa using hk
   unfold er;rw [hc];exact hs.only c Wo
 ·obtain ⟨c,hc,hg⟩:=back k g hk
  obtain ⟨c',lB,jq⟩:=back k' g pf
  have e:=hs.inj c c' g hg jq
  subst e
  have e1:=(jX h1 h2).1 hc
  have e2:=(jX h1 h2).1 lB
  rw [e1] at e2;injection e2
 ·obtain ⟨c,-,hc⟩:=back k g hk
  exact (hs.cY c g hc).2
 ·rw [l3] at hr
  cases hc:look (inv ln) k with
  | none=>rw [hc] at hr;cases hr
  | some c =>
   rw [hc] at hr
   cases Tw:look s.H c with
   | none=>simp [Tw] at hr
   | some q =>
    simp [Tw] at hr
    subst hr
    have aQ:=(hs.rows c q Tw).H5 ln hI (fun b hb=>hb)
    have e:er ln φ k=φ c:=by unfold er;rw [hc];rfl
    rw [e];exact aQ
theorem xK (hs:aI S0 w0 n [] s a w φ) {ln:List (Nat×Nat)} (h1:(ln.map (·.1)).Nodup) (h2:(ln.map (·.2)).Nodup) {ho:List (Nat×Row)} {Hb:List (Nat×Row)} (hb:j7 ho (inv ln) ln=some Hb)
  {C:List Prop} (hv:nM s ho ln=some C) (hC:bx C) {b_:Nat->Option Nat} {O:List Nat} {v:Value} {r:AV} (hB:Kz (aP S0 w φ []) w w' (er ln φ) b_ O ho v r) :
  ∃ wQ,aI S0 w0 n O (gB s ln Hb) a w' wQ∧tQ (aP S0 w' wQ O) w' v r O:=by
 obtain ⟨O0,hA,WA,-,TQ,BD,UJ⟩:=yw (fz ln) s φ [] hs
 generalize Ss:(fun id=>if id∈fz ln then none else φ id)=OZ at hA
 have eA:∀id,OZ id=if id∈fz ln then none else φ id:=fun id=>by rw [←Ss]
 have U5:=fun c=>pA hb c
 let wQ:Nat->Option Nat:=fun id=>match look ln id with|some k=>b_ k|none=>φ id
 have KK:∀id k,look ln id=some k->wQ id=b_ k:=fun id k h=>by show (match look ln id with|some k=>b_ k|none=>φ id)=_;rw [h]
 have KL:∀id,look ln id=none->wQ id=φ id:=fun id h=>by show (match look ln id with|some k=>b_ k|none=>φ id)=_;rw [h]
 have inr:∀g,l_ (er ln φ) g-> ∃c k,look ln c=some k∧φ c=some g:=by
  rintro g ⟨k,hk⟩
  unfold er at hk
  cases hc:look (inv ln) k with
  | none=>rw [hc] at hk;cases hk
  | some c=>rw [hc] at hk;exact ⟨c,k,(jX h1 h2).1 hc,hk⟩
 have Ii:∀c,c∈fz ln-> ∃k,look ln c=some k∧k<1000000000000:=fun c hc=>by
  obtain ⟨k,hm,hk⟩:=rV hc
  exact ⟨k,jW h1 hm,hk⟩
 have F2:∀b,aP S0 w OZ O0 b->aP S0 w' wQ O b∧w'.heap[b]?=w.heap[b]?:=by
  intro b ⟨f1,f2,f3,f4⟩
  have gr:¬l_ (er ln φ) b:=fun h=>by
   obtain ⟨c,k,uh,hc⟩:=inr b h
   by_cases ho:c∈fz ln
   ·exact f2 (TQ c ho b hc)
   ·exact f3 c (by rw [eA,if_neg ho];exact hc)
  refine ⟨⟨Nat.lt_of_lt_of_le f1 hB.size,fun hm=>?_,fun id hid=>?_,f4⟩,hB.block b f1 gr⟩
  ·rcases (hB.own b hm).1 with h|h
   ·omega
   ·exact gr h
  ·cases hl:look ln id with
   | some k =>
    rw [KK id k hl] at hid
    rcases hB.cY k b hid with h|h
    ·omega
    ·exact gr h
   | none =>
    rw [KL id hl] at hid
    have:id ∉ fz ln:=fun hm=>by obtain ⟨k,h,-⟩:=Ii id hm;rw [hl] at h;cases h
    exact f3 id (by rw [eA,if_neg this];exact hid)
 have F5:∀b,FI (aP S0 w φ []) w w' (er ln φ) b_ O b->aP S0 w' wQ O b:=by
  intro b ⟨g1,g2,g3⟩
  have cW:b<w'.heap.size:=by
   rcases g1 with h|h
   ·exact Nat.lt_of_lt_of_le h.1 hB.size
   ·exact h.2
  refine ⟨cW,g2,fun id hid=>?_,?_⟩
  ·cases hl:look ln id with
   | some k=>rw [KK id k hl] at hid;exact g3 ⟨k,hid⟩
   | none =>
    rw [KL id hl] at hid
    rcases g1 with h|⟨h|h,-⟩
    ·exact h.2.2.1 id hid
    ·have:=(hs.cY id b hid).2;omega
    ·obtain ⟨c,k,uh,hc⟩:=inr b h
     have:=hs.inj id c b hid hc
     subst this;rw [hl] at uh;cases uh
  ·rcases g1 with h|⟨h|h,-⟩
   ·exact h.2.2.2
   ·exact hs.new b (.inl (Nat.le_trans hs.da.size h))
   ·obtain ⟨c,k,uh,hc⟩:=inr b h
    exact hs.new b (hs.cY c b hc).1.2
 have Bs:∀id k,look ln id=some k-> ∃r',look ho k=some r'∧look (gB s ln Hb).H id=some (fy (inv ln) r'):=by
  intro id k hk
  obtain ⟨e1,e2⟩:=U5 id
  obtain ⟨r',iH⟩:=e2 k hk
  refine ⟨r',iH,?_⟩
  unfold gB
  rw [bL,e1,hk]
  simp [iH]
 have Iz:∀id,look ln id=none->look (gB s ln Hb).H id=look (aR s (fz ln)).H id:=by
  intro id hk
  obtain ⟨e1,-⟩:=U5 id
  unfold gB
  rw [bL,e1,hk,tc]
  have:id ∉ ln.map (·.1):=fun hm=>by
   obtain ⟨⟨c,k⟩,MF,e⟩:=List.mem_map.1 hm
   have e:c=id:=e
   subst e
   rw [jW h1 MF] at hk;cases hk
  simp [this]
 have vars:∀id k,look ln id=some k->1000000000000≤k-> ∃r0 r' g,look s.H id=some r0∧look ho k=some r'∧r0.e=r'.e∧r0.full=true∧r'.full=true∧r0.cells.length=r'.cells.length∧b_ k=some g∧φ id=some g:=by
  intro id k hk vI
  rcases qe hv hC id k (k7 hk) with ⟨-,r0,r',e1,e2,e3,e4,e5,e6,e7⟩|⟨h,-⟩
  ·have aQ:=hB.IE.rows k r' e2
   cases hg:b_ k with
   | none =>
    rw [hg] at aQ
    have:r'.cells= []:=aQ
    rw [this] at e7;simp at e7
   | some g =>
    have:=hB.fix k g vI hg
    unfold er at this
    rw [(jX h1 h2).2 hk] at this
    exact ⟨r0,r',g,e1,e2,e3,e4,e5,e6,rfl,this⟩
  ·omega
 have F3:∀id x,az (aR s (fz ln)).H OZ id=some x->az (gB s ln Hb).H wQ id=some x:=by
  intro id x hx
  obtain ⟨e,m,b⟩:=x
  obtain ⟨q,hq,he,hm,r_⟩:=aS hx
  obtain ⟨gr,q0,RG,UZ,Ly,-⟩:=BD id q hq
  rw [eA,if_neg gr] at r_
  cases hl:look ln id with
  | none=>rw [bt (r:=q) (by rw [Iz id hl];exact hq),KL id hl,he,hm,r_]
  | some k =>
   have vI:1000000000000≤k:=by
    rcases Nat.lt_or_ge k 1000000000000 with h|h
    ·exact absurd (rR h (k7 hl)) gr
    ·exact h
   obtain ⟨r0,r',g,f1,f2,f3,-,-,f6,f7,f8⟩:=vars id k hl vI
   rw [RG] at f1;injection f1 with f1;subst f1
   obtain ⟨Vs,f9,f10⟩:=Bs id k hl
   rw [f2] at f9;injection f9 with f9;subst f9
   obtain ⟨m1,m2,-,-⟩:=lF (inv ln) r'
   rw [bt f10,m1,m2,KK id k hl,f7,←f3,←UZ,he,←f6,←Ly,hm,←r_,f8]
 have F4:∀id e m g,az (aR s (fz ln)).H OZ id=some (e,m,some g)->aW w' g=aW w g:=by
  intro id e m g hx
  obtain ⟨q,hq,he,hm,r_⟩:=aS hx
  obtain ⟨gr,q0,RG,UZ,Ly,-⟩:=BD id q hq
  rw [eA,if_neg gr] at r_
  cases hl:look ln id with
  | none =>
   have Qv:¬l_ (er ln φ) g:=fun h=>by
    obtain ⟨c,k,uh,hc⟩:=inr g h
    have:=hs.inj id c g r_ hc
    subst this;rw [hl] at uh;cases uh
   unfold aW;rw [hB.block g (hs.cY id g r_).2 Qv]
  | some k =>
   have vI:1000000000000≤k:=by
    rcases Nat.lt_or_ge k 1000000000000 with h|h
    ·exact absurd (rR h (k7 hl)) gr
    ·exact h
   obtain ⟨r0,r',g',f1,f2,-,f4,f5,f6,f7,f8⟩:=vars id k hl vI
   rw [f8] at r_;injection r_ with r_;subst r_
   have UL:=hs.rows id r0 f1
   rw [f8] at UL
   obtain ⟨cur,te,fr,u1,-,-,u2,-⟩:=UL
   have iH:=hB.IE.rows k r' f2
   rw [f7] at iH
   obtain ⟨cur',Vm,RX,v1,-,-,v2,-⟩:=iH
   unfold aW;rw [u1,v1]
   show cur'.size=cur.size
   rw [u2 f4,v2 f5,f6]
 refine ⟨wQ,⟨hA.j8,hA.ke,⟨hB.os.trans hs.da.os,hB.tape.trans hs.da.tape,hB.output.trans hs.da.output,Nat.le_trans hs.da.size hB.size,fun k hk hx=>?_,hs.da.g0,hs.da.gx⟩,fun i av hi=>(hA.cC i av hi).mono F3 F2 F4,fun id q hq=>?_,fun id hid=>?_,fun id pe g hg jq=>?_,fun id g hg=>?_,fun id g hg hm=>?_,hs.new⟩,hB.WX.mono F5⟩
 ·have Qv:¬l_ (er ln φ) k:=fun h=>by
   obtain ⟨c,k',uh,hc⟩:=inr k h
   rcases (hs.cY c k hc).1.2 with h|h
   ·omega
   ·exact hx h
  rw [hB.block k (Nat.lt_of_lt_of_le hk hs.da.size) Qv]
  exact hs.da.block k hk hx
 ·cases hl:look ln id with
  | some k =>
   obtain ⟨r',f2,f10⟩:=Bs id k hl
   rw [f10] at hq;injection hq with hq;subst hq
   rw [KK id k hl]
   refine (hB.IE.rows k r' f2).H5 (inv ln) (fun i c x Wa hx=>?_) F5
   obtain ⟨e,m,b⟩:=x
   obtain ⟨q,hq,he,hm,r_⟩:=aS hx
   have U2:=(jX h1 h2).1 Wa
   obtain ⟨Vs,f3,f4⟩:=Bs c i U2
   rw [hq] at f3;injection f3 with f3;subst f3
   obtain ⟨m1,m2,-,-⟩:=lF (inv ln) q
   rw [bt f4,m1,m2,KK c i U2,he,hm,r_]
  | none =>
   rw [Iz id hl] at hq
   have gr:id ∉ fz ln:=(BD id q hq).1
   have aQ:=hA.rows id q hq
   have e:OZ id=wQ id:=by rw [eA,if_neg gr,KL id hl]
   unfold bJ at aQ ⊢
   rw [←e]
   cases hg:OZ id with
   | none=>rw [hg] at aQ;exact aQ
   | some g =>
    rw [hg] at aQ
    obtain ⟨cur,te,fr,u1,u2,u3,u4,u5⟩:=aQ
    have bW:φ id=some g:=by rw [eA,if_neg gr] at hg;exact hg
    have Qv:¬l_ (er ln φ) g:=fun h=>by
     obtain ⟨c,k,uh,hc⟩:=inr g h
     have:=hs.inj id c g bW hc
     subst this;rw [hl] at uh;cases uh
    refine ⟨cur,te,fr,(hB.block g (hs.cY id g bW).2 Qv).trans u1,u2,u3,u4,fun j u x hu hx=>?_⟩
    have:=u5 j u x hu hx
    unfold bh at this ⊢
    cases hp:q.pure with
    | true=>rw [hp] at this;exact this.mono F2
    | false=>rw [hp] at this;exact this.mono F3 F2 F4
 ·cases hl:look ln id with
  | some k=>obtain ⟨r',-,f⟩:=Bs id k hl;rw [f] at hid;cases hid
  | none =>
   rw [Iz id hl] at hid
   have gr:id ∉ fz ln:=fun hm=>by obtain ⟨k,h,-⟩:=Ii id hm;rw [hl] at h;cases h
   have:=hA.only id hid
   rw [eA,if_neg gr] at this
   rw [KL id hl,this]
 ·have mixed:∀i j k,look ln i=some k->look ln j=none->b_ k=some g->φ j=some g->False:=by
   intro i j k hi hj Jo Pp
   rcases hB.cY k g Jo with h|h
   ·have:=(hs.cY j g Pp).2;omega
   ·obtain ⟨c,k',uh,hc⟩:=inr g h
    have:=hs.inj j c g Pp hc
    subst this;rw [hj] at uh;cases uh
  cases hl:look ln id with
  | some k =>
   rw [KK id k hl] at hg
   cases r7:look ln pe with
   | some k' =>
    rw [KK pe k' r7] at jq
    have:=hB.IE.inj k k' g hg jq
    subst this
    have e1:=(jX h1 h2).2 hl
    have e2:=(jX h1 h2).2 r7
    rw [e1] at e2;injection e2
   | none=>rw [KL pe r7] at jq;exact (mixed id pe k hl r7 hg jq).elim
  | none =>
   rw [KL id hl] at hg
   cases r7:look ln pe with
   | some k'=>rw [KK pe k' r7] at jq;exact (mixed pe id k' r7 hl jq hg).elim
   | none=>rw [KL pe r7] at jq;exact hs.inj id pe g hg jq
 ·cases hl:look ln id with
  | none =>
   rw [KL id hl] at hg
   have:=hs.cY id g hg
   exact ⟨this.1,Nat.lt_of_lt_of_le this.2 hB.size⟩
  | some k =>
   rw [KK id k hl] at hg
   refine ⟨⟨?_,?_⟩,hB.IE.lt k g hg⟩
   ·rcases qe hv hC id k (k7 hl) with ⟨vI,-⟩|⟨-,h⟩
    ·obtain ⟨r0,r',g',-,-,-,-,-,-,f7,f8⟩:=vars id k hl vI
     rw [hg] at f7;injection f7 with f7;subst f7
     exact (hs.cY id g f8).1.1
    ·exact .inl h
   ·rcases hB.cY k g hg with h|h
    ·exact .inl (Nat.le_trans hs.da.size h)
    ·obtain ⟨c,k',uh,hc⟩:=inr g h
     exact (hs.cY c g hc).1.2
 ·obtain ⟨o1,o2,o3⟩:=hB.own g hm
  cases hl:look ln id with
  | some k=>rw [KK id k hl] at hg;exact o3 ⟨k,hg⟩
  | none =>
   rw [KL id hl] at hg
   rcases o1 with h|h
   ·have:=(hs.cY id g hg).2;omega
   ·obtain ⟨c,k',uh,hc⟩:=inr g h
    have:=hs.inj id c g hg hc
    subst this;rw [hl] at uh;cases uh
end
section
variable {P:Program} {n:Nat} {s:AS} {o:Oper} {h:Hint} {q:AS×List Prop}
theorem wm {c:Callee} {xs:Array Operand} {ts:Array TypeId} (ho:o.op= .call ⟨c,xs,ts⟩) (hr:oY P n s o.dst c xs.toList h=some q):mK P n s o q.1 q.2:=by
 intro hC S0 w0 a w Q ⟨φ,hs⟩
 unfold oY at hr
 split at hr
 ·rename_i f r hc _
  split at hr
  ·rename_i s1 hE I1
   split at hr
   ·rename_i Hl Hb C hl hb uh hv
    obtain ⟨h1,h2⟩:=wC uh
    obtain ⟨iM,gG⟩:=gb _ _ _ _ I1 hs
    obtain ⟨BH,hI⟩:=EZ gG h1 h2 hl
    have bT:=iX hs hc ho hE
    have main:gn P f (xs.toList.map fun x=>nU h.ln (bq s1 x)) Hl r h.ho->bx C-> ∀s',((∃d,o.dst=some d∧nodupB ((br d r).2.map (·.1))=true∧fO n ⟨(aR (gB s1 h.ln Hb) ((br d r).2.map (·.1))).F,(br d r).2++(aR (gB s1 h.ln Hb) ((br d r).2.map (·.1))).H⟩ (some d) (br d r).1=some s')∨(o.dst=none∧s'=gB s1 h.ln Hb))->o.wp P a w (fun a' w'=>ie S0 w0 n s' a' w') Q:=by
     intro nc Fl s' hd
     unfold Oper.wp
     rw [bT]
     have la:=nc w (aP S0 w iM []) (er h.ln iM) (xs.toList.map a.eval) gG.da.ng (fun id g hg hb=>by
      obtain ⟨k,hk⟩:∃k,iM k=some g:=by
       unfold er at hg
       cases hl:look (inv h.ln) id with
       | none=>rw [hl] at hg;cases hg
       | some k=>rw [hl] at hg;exact ⟨k,hg⟩
      rcases (gG.cY k g hk).1.2 with h1|h1
      ·have:=gG.da.g0.lt hb;omega
      ·exact gG.da.gx g hb h1) BH (by simp) (fun j v x hv hx=>by
      rw [List.getElem?_map] at hv hx
      cases hj:xs.toList[j]? with
      | none=>rw [hj] at hv;cases hv
      | some y =>
       rw [hj] at hv hx
       injection hv with hv;injection hx with hx;subst hv;subst hx
       exact (gG.bq y).H5 h.ln hI (fun b hb=>hb))
     have e:(xs.toList.map a.eval).toArray=xs.map a.eval:=by apply Array.ext';simp
     rw [e] at la
     refine la.mono ?_
     rintro en w' ⟨v,O,b_,rfl,hB⟩
     show ie S0 w0 n s' (a.put o.dst v) w'
     obtain ⟨wQ,h3,r8⟩:=xK gG h1 h2 hb hv Fl hB
     have mv:∀g∈O,(w0.heap.size≤g∨S0.X g)∧g<w'.heap.size:=fun g hg=>by
      obtain ⟨o1,o2,-⟩:=hB.own g hg
      refine ⟨?_,o2⟩
      rcases o1 with h|⟨k,hk⟩
      ·exact .inl (Nat.le_trans gG.da.size h)
      ·unfold er at hk
       cases hc:look (inv h.ln) k with
       | none=>rw [hc] at hk;cases hk
       | some c=>rw [hc] at hk;exact (gG.cY c g hk).1.2
     rcases hd with ⟨d,hd,tF,ea⟩|⟨hd,rfl⟩
     ·obtain ⟨tS,h4,hF,BG⟩:=jb ((br d r).2.map (·.1)) _ wQ O h3
      have Po:aI S0 w0 n (O++ []) (aR (gB s1 h.ln Hb) ((br d r).2.map (·.1))) a w' tS:=by rw [List.append_nil];exact h4
      obtain ⟨R6,h5,h6,-⟩:=rE (aR (gB s1 h.ln Hb) ((br d r).2.map (·.1))) tS O [] v r d Po (by rw [List.append_nil];exact r8.mono hF) (by rw [List.append_nil];exact hB.nodup) mv (fun i hi=>⟨BG i (.inr hi),oM tF i hi⟩) (gT tF)
      rw [hd]
      exact ⟨R6,dU h5 h6 ea⟩
     ·rw [hd]
      have key:∀(O:List Nat),aI S0 w0 n O (gB s1 h.ln Hb) a w' wQ->aI S0 w0 n [] (gB s1 h.ln Hb) a w' wQ:=by
       intro O
       induction O with
       | nil=>exact fun h=>h
       | cons g O ih=>exact fun h=>ih h.vV
      have h5:=key O h3
      exact ⟨wQ,⟨h5.j8,h5.ke,h5.da,h5.cC,h5.rows,h5.only,h5.inj,h5.cY,h5.apart,h5.new⟩⟩
    split at hr
    ·rename_i d hd
     split at hr
     ·rename_i s' tF ea
      cases hr
      exact main hC.1 hC.2 s' (.inl ⟨d,hd,tF,ea⟩)
     ·cases hr
    ·rename_i hd
     cases hr
     exact main hC.1 hC.2 _ (.inr ⟨hd,rfl⟩)
   ·cases hr
  ·cases hr
 ·cases hr
end
def bl (o:Oper):List Nat:=(o.after.toList.filter (Region.binds .any)).map (·.on)
def sO (ops:Array Oper) (a:Act) (d:Nat):Value :=
 match (ops[d]?).bind (·.dst) with
 | some s=>a.tmps.getD s undef
 | none=>undef
def l7 (ops:Array Oper) (n:Nat):Bool :=
 (ops.toList.zipIdx.all fun p=>(bl p.1).all (· <p.2)) && (ops.toList.filterMap (·.dst)).Nodup && (ops.toList.all fun o=>match o.dst with|some s=>decide (s<n)|none=>true)
def eZ (l:List (Oper×Nat)) (vs:Nat->Value) (a:Act):Act:=l.foldl (fun a p=>a.put p.1.dst (vs p.2)) a
theorem mY (a:Act) (s:Nat) (v:Value) (h:s<a.tmps.size):(a.put (some s) v).tmps[s]?=some v:=by
 simp [Act.put,h]
theorem iq (a:Act) (d:Option Nat) (s:Nat) (v:Value) (h:d≠some s):(a.put d v).tmps[s]?=a.tmps[s]?:=by
 cases d with
 | none=>rfl
 | some t =>
  have:t≠s:=fun e=>h (by rw [e])
  simp [Act.put,Array.getElem?_setIfInBounds_ne this]
theorem qt (a:Act) (d:Option Nat) (v:Value):(a.put d v).tmps.size=a.tmps.size:=by
 cases d<;>simp [Act.put]
theorem put_defers (a:Act) (d:Option Nat) (v:Value):(a.put d v).defers=a.defers:=by
 cases d<;>simp [Act.put]
theorem jV (vs:Nat->Value):∀(l:List (Oper×Nat)) (a:Act),(l.filterMap (·.1.dst)).Nodup ->
  (eZ l vs a).tmps.size=a.tmps.size∧(eZ l vs a).defers=a.defers ∧
  (∀p∈l,∀s,p.1.dst=some s->s<a.tmps.size->(eZ l vs a).tmps[s]?=some (vs p.2)) ∧
  (∀s,(∀p∈l,p.1.dst≠some s)->(eZ l vs a).tmps[s]?=a.tmps[s]?)
 | [],a,_=>⟨rfl,rfl,by simp,fun _ _=>rfl⟩
 | p::l,a,hn=>by
  have tG:(l.filterMap (·.1.dst)).Nodup:=by
   cases hd:p.1.dst with
   | none=>rw [List.filterMap_cons_none (by simpa using hd)] at hn;exact hn
   | some s=>rw [List.filterMap_cons_some (by simpa using hd)] at hn;exact (List.nodup_cons.1 hn).2
  obtain ⟨h1,h2,h3,h4⟩:=jV vs l (a.put p.1.dst (vs p.2)) tG
  refine ⟨h1.trans (qt ..),h2.trans (put_defers ..),fun q hq s hs cW=>?_,fun s hs=>?_⟩
  ·rcases List.mem_cons.1 hq with rfl|hq
   ·have gr:∀p∈l,p.1.dst≠some s:=by
     intro p' E_ he
     rw [List.filterMap_cons_some (by simpa using hs)] at hn
     exact (List.nodup_cons.1 hn).1 (List.mem_filterMap.2 ⟨p',E_,he⟩)
    show (eZ l vs (a.put q.1.dst (vs q.2))).tmps[s]?=_
    rw [h4 s gr,hs]
    exact mY a s _ cW
   ·exact h3 q hq s hs (by rw [qt];exact cW)
  ·show (eZ l vs (a.put p.1.dst (vs p.2))).tmps[s]?=_
   rw [h4 s fun q hq=>hs q (List.mem_cons_of_mem _ hq),iq a _ s _ (hs p (List.mem_cons_self ..))]
def h_ (P:Program) (ops:Array Oper) (Q:Exit->Act->World->Prop) (o:Oper) (a:Act) (w:World) (R:Value->World->Prop):Prop :=
 if Region.wanted o (yielded ops a.tmps) then o.wp P a w (fun a' w'=>∃v,a'=a.put o.dst v∧Below w.heap.size w w'∧R v w') Q else R undef w
section
variable {P:Program} {ops:Array Oper} {Q:Exit->Act->World->Prop} {a:Act} {w:World}
structure Inv (ops:Array Oper) (F:Nat->Value->World->Prop) (a:Act) (w:World) (listed:Array Bool) (a':Act) (w':World):Prop where
 grown:Below w.heap.size w w'
 size:listed.size=ops.size
 closed:∀k o,listed.getD k false=true->ops[k]?=some o-> ∀d∈bl o,listed.getD d false=true
 AL:a'.tmps.size=a.tmps.size
 tU:a'.defers=a.defers
 val:∀k o s,listed.getD k false=true->ops[k]?=some o->o.dst=some s-> ∃v,a'.tmps[s]?=some v∧F k v w'
 EO:∀k o,listed.getD k false=true->ops[k]?=some o->o.dst=none-> ∃v,F k v w'
 old:∀s,(∀k o,listed.getD k false=true->ops[k]?=some o->o.dst≠some s)->a'.tmps[s]?=a.tmps[s]?
theorem gl {n:Nat} (h:l7 ops n=true):(∀(k:Nat) (o:Oper),ops[k]?=some o-> ∀d∈bl o,d<k)∧(ops.toList.filterMap (·.dst)).Nodup∧(∀(k:Nat) (o:Oper) (s:Nat),ops[k]?=some o->o.dst=some s->s<n):=by
 unfold l7 at h
 simp only [Bool.and_eq_true,List.all_eq_true,decide_eq_true_eq] at h
 obtain ⟨⟨h1,h2⟩,h3⟩:=h
 refine ⟨fun k o ho d hd=>?_,h2,fun k o s ho hs=>?_⟩
 ·have hm:(o,k)∈ops.toList.zipIdx:=by rw [List.mem_zipIdx_iff_getElem?];simpa using ho
  exact h1 (o,k) hm d hd
 ·have hm:o∈ops.toList:=by
   rw [←Array.getElem?_toList] at ho
   exact List.mem_of_getElem? ho
  have:=h3 o hm
  rw [hs] at this
  simpa using this
theorem o8 (hn:(ops.toList.filterMap (·.dst)).Nodup) {j k:Nat} {o p:Oper} {s:Nat} (hj:ops[j]?=some o) (hk:ops[k]?=some p) (ho:o.dst=some s) (hp:p.dst=some s):j=k:=by
 rw [←Array.getElem?_toList] at hj hk
 have key:∀(l:List Oper) (j k:Nat),(l.filterMap (·.dst)).Nodup->l[j]?=some o->l[k]?=some p->j=k:=by
  intro l
  induction l with
  | nil=>intro j k _ h;simp at h
  | cons x l ih =>
   intro j k hn hj hk
   have tG:(l.filterMap (·.dst)).Nodup:=by
    cases hd:x.dst with
    | none=>rw [List.filterMap_cons_none (by simpa using hd)] at hn;exact hn
    | some s=>rw [List.filterMap_cons_some (by simpa using hd)] at hn;exact (List.nodup_cons.1 hn).2
   have fresh:∀(i:Nat) (q:Oper),x.dst=some s->l[i]?=some q->q.dst≠some s:=by
    intro i q hx hq he
    rw [List.filterMap_cons_some (by simpa using hx)] at hn
    exact (List.nodup_cons.1 hn).1 (List.mem_filterMap.2 ⟨q,List.mem_of_getElem? hq,he⟩)
   cases j with
   | zero =>
    cases k with
    | zero=>rfl
    | succ k =>
     simp at hj hk;subst hj
     exact absurd hp (fresh k p ho hk)
   | succ j =>
    cases k with
    | zero =>
     simp at hj hk;subst hk
     exact absurd ho (fresh j o hp hj)
    | succ k=>rw [ih j k tG (by simpa using hj) (by simpa using hk)]
 exact key ops.toList j k hn hj hk
end
section
variable {P:Program} {ops:Array Oper} {Q:Exit->Act->World->Prop} {a:Act} {w:World}
theorem p7 (l:List Bool):∀i:Nat,l[i]?=some false->((l.set i true).filter (· == false)).length+1=(l.filter (· == false)).length:=by
 induction l with
 | nil=>intro i hi;simp at hi
 | cons x l ih =>
  intro i hi
  cases i with
  | zero=>simp at hi;subst hi;simp
  | succ i =>
   simp only [List.set_cons_succ]
   have:=ih i (by simpa using hi)
   cases x
   ·rw [List.filter_cons_of_pos rfl,List.filter_cons_of_pos rfl];simp only [List.length_cons];omega
   ·rw [List.filter_cons_of_neg (by simp),List.filter_cons_of_neg (by simp)];exact this
theorem Cy {n T:Nat} (hT:T<ops.size) (KG:Region.sinkB .any ops T=true) (tI:Region.chainB .any ops T=true) (Qf:Region.seqB .any ops (ops.size-T) T ((List.range ops.size).map (decide<| · <T)).toArray=true) (dv:a.tmps.size=n) (hB:l7 ops n=true) (F:Nat->Value->World->Prop) (mono:∀k v w w',Below w.heap.size w w'->F k v w->F k v w')
  (uc:∀k o,k<T->ops[k]?=some o-> ∀a' w',Below w.heap.size w w'->(∀d∈bl o,F d (sO ops a' d) w'∨(∃p,ops[d]?=some p∧p.dst=none))->(∀s,(∀(j:Nat) (p:Oper),j<T->ops[j]?=some p->p.dst≠some s)->a'.eval (.tmp s)=a.eval (.tmp s))->h_ P ops Q o a' w' (F k))
  (kA:∀vs:Nat->Value,∀w',Below w.heap.size w w'->(∀k,k<T->F k (vs k) w')->wpList P ops Q (ops.toList.drop T) (eZ (ops.toList.zipIdx.take T) vs a) w') :
  ∀(fuel:Nat) (listed:Array Bool) (a':Act) (w':World),Inv ops F a w listed a' w'->(∀j,T≤j->listed.getD j false=false) ->
   (listed.toList.filter (· == false)).length=fuel->wpAny P .any ops Q fuel listed a' w':=by
 obtain ⟨cW,iI,wM⟩:=gl hB
 have kS:∀(listed:Array Bool) (a':Act) (w':World),Inv ops F a w listed a' w'-> ∀k,k<T->listed.getD k false=false-> ∃i,i<T∧i∈Region.ready .any ops listed:=by
  intro listed a' w' I k
  induction k using Nat.strongRecOn with
  | _ k ih =>
   intro hk hl
   have iY:k<listed.size:=by rw [I.size];omega
   have w8:k<ops.size:=ag
   have pf:ops[k]?=some ops[k]:=Array.getElem?_eq_getElem w8
   by_cases gD:∀d∈bl ops[k],listed.getD d false=true
   ·refine ⟨k,hk,?_⟩
    rw [mem_ready]
    refine ⟨?_,ops[k],pf,fun e he hb=>gD e.on ?_⟩
    ·simp [iY] at hl ⊢;exact hl
    ·unfold bl
     exact List.mem_map.2 ⟨e,List.mem_filter.2 ⟨by simpa using he,hb⟩,rfl⟩
   ·have:∃d,d∈bl ops[k]∧listed.getD d false=false:=by
     refine Classical.byContradiction fun gr=>gD fun d hd=>?_
     cases hx:listed.getD d false with
     | true=>rfl
     | false=>exact absurd ⟨d,hd,hx⟩ gr
    obtain ⟨d,hd,hx⟩:=this
    exact ih d (cW k _ pf d hd) (by have:=cW k _ pf d hd;omega) hx
 have done:∀(listed:Array Bool) (a':Act) (w':World),Inv ops F a w listed a' w'->(∀k,k<T->listed.getD k false=true)->(∀j,T≤j->listed.getD j false=false)->wpList P ops Q (ops.toList.drop T) a' w':=by
  intro listed a' w' I all tail
  have hv:∀k,∃v,k<T->(F k v w'∧ ∀o s,ops[k]?=some o->o.dst=some s->a'.tmps[s]?=some v):=by
   intro k
   by_cases hk:k<T
   ·have w8:k<ops.size:=ag
    have pf:ops[k]?=some ops[k]:=Array.getElem?_eq_getElem w8
    cases hd:ops[k].dst with
    | none =>
     obtain ⟨v,hv⟩:=I.EO k _ (all k hk) pf hd
     exact ⟨v,fun _=>⟨hv,fun o s ho hs=>by rw [pf] at ho;injection ho with ho;subst ho;rw [hd] at hs;cases hs⟩⟩
    | some s =>
     obtain ⟨v,hv,hF⟩:=I.val k _ s (all k hk) pf hd
     exact ⟨v,fun _=>⟨hF,fun o s' ho hs=>by rw [pf] at ho;injection ho with ho;subst ho;rw [hd] at hs;injection hs with hs;subst hs;exact hv⟩⟩
   ·exact ⟨undef,fun h=>absurd h hk⟩
  obtain ⟨vs,E5⟩:=Classical.axiomOfChoice hv
  have r6:∀p:Oper×Nat,p∈ops.toList.zipIdx.take T↔(p.2<T∧ops[p.2]?=some p.1):=by
   intro p
   rw [List.mem_iff_getElem?]
   constructor
   ·rintro ⟨x,hx⟩
    rw [List.getElem?_take] at hx
    split at hx
    ·rename_i BB
     rw [List.getElem?_zipIdx] at hx
     cases ho:ops.toList[x]? with
     | none=>rw [ho] at hx;simp at hx
     | some q =>
      rw [ho] at hx
      simp at hx
      subst hx
      exact ⟨by simpa using BB,by simpa using ho⟩
    ·cases hx
   ·rintro ⟨h1,h2⟩
    refine ⟨p.2,?_⟩
    rw [List.getElem?_take,if_pos h1,List.getElem?_zipIdx]
    have Pp:ops.toList[p.2]?=some p.1:=by simpa using h2
    rw [Pp];simp
  have jZ:=jV vs (ops.toList.zipIdx.take T) a (by
   have h1:(ops.toList.zipIdx.take T).filterMap (·.1.dst)=(ops.toList.take T).filterMap (·.dst):=by
    conv=>rhs;rw [←List.zipIdx_map_fst 0 ops.toList,←List.map_take]
    rw [List.filterMap_map];rfl
   rw [h1]
   exact List.Nodup.sublist ((List.take_sublist T ops.toList).filterMap _) iI)
  have he:a'=eZ (ops.toList.zipIdx.take T) vs a:=by
   have ht:a'.tmps=(eZ (ops.toList.zipIdx.take T) vs a).tmps:=by
    apply Array.ext_getElem?
    intro s
    by_cases hs:∃(k:Nat) (o:Oper),k<T∧ops[k]?=some o∧o.dst=some s
    ·obtain ⟨k,o,hk,ho,hd⟩:=hs
     rw [(E5 k hk).2 o s ho hd]
     exact (jZ.2.2.1 (o,k) ((r6 _).2 ⟨hk,ho⟩) s hd (by rw [dv];exact wM k o s ho hd)).symm
    ·rw [I.old s fun k o hl ho hd=>hs ⟨k,o,(Classical.byContradiction fun hk=>(by have:=tail k (Nat.le_of_not_lt hk);rw [this] at hl;cases hl)),ho,hd⟩]
     exact (jZ.2.2.2 s fun p hp hd=>hs ⟨p.2,p.1,((r6 p).1 hp).1,((r6 p).1 hp).2,hd⟩).symm
   have hd:a'.defers=(eZ (ops.toList.zipIdx.take T) vs a).defers:=I.tU.trans jZ.2.1.symm
   cases a';cases h:eZ (ops.toList.zipIdx.take T) vs a
   rw [h] at ht hd
   simp only at ht hd
   rw [ht,hd]
  rw [he]
  exact kA vs w' I.grown fun k hk=>(E5 k hk).1
 have rest:∀(fuel:Nat) (listed:Array Bool) (a':Act) (w':World),Inv ops F a w listed a' w'->(∀j,T≤j->listed.getD j false=false)->(listed.toList.filter (· == false)).length=fuel->(∀k,k<T->listed.getD k false=true)->wpAny P .any ops Q fuel listed a' w':=by
  intro fuel listed a' w' I tail hc all
  have om:listed=((List.range ops.size).map (decide<| · <T)).toArray:=by
   apply Array.ext_getElem?
   intro x
   by_cases hx:x<ops.size
   ·have Hf:x<listed.size:=by rw [I.size];exact hx
    have hr:((List.range ops.size).map (decide<| · <T)).toArray[x]?=some (decide (x<T)):=by simp [hx]
    rw [hr]
    by_cases BB:x<T
    ·have:=all x BB;simp [Hf] at this ⊢;rw [this,decide_eq_true BB]
    ·have:=tail x ag;simp [Hf] at this ⊢;rw [this,decide_eq_false BB]
   ·rw [Array.getElem?_eq_none (by rw [I.size];omega),Array.getElem?_eq_none (by simp;omega)]
  have hlen:fuel=(ops.toList.drop T).length:=by
   rw [←hc,om]
   simp only [List.length_drop,Array.length_toList,List.filter_map,List.length_map]
   have key:∀n,T≤n->((List.range n).filter ((fun x=>x == false) ∘ (decide<| · <T))).length=n-T:=by
    intro n hn
    induction n with
    | zero=>simp
    | succ n ih =>
     rw [List.range_succ,List.filter_append,List.length_append]
     by_cases Qx:T≤n
     ·rw [ih Qx]
      have:((fun x=>x == false) ∘ (decide<| · <T)) n=true:=by simp;omega
      rw [List.filter_cons_of_pos this];simp;omega
     ·obtain rfl:T=n+1:=ag
      have h1:(List.range n).filter ((fun x=>x == false) ∘ (decide<| · <n+1))= []:=by
       rw [List.filter_eq_nil_iff];intro x hx;have:=List.mem_range.1 hx;simp;omega
      have h2:[n].filter ((fun x=>x == false) ∘ (decide<| · <n+1))= []:=by
       rw [List.filter_eq_nil_iff];intro x hx;simp at hx;subst hx;simp
      rw [h1,h2];simp
   exact key ops.size ag
  rw [hlen]
  refine wpAny_of_seq (ops.toList.drop T) T listed a' w' (fun j=>by rw [List.getElem?_drop];simp) ?_ (done listed a' w' I all tail)
  rw [om]
  simpa using Qf
 intro fuel
 induction fuel with
 | zero =>
  intro listed a' w' I tail hc
  refine rest 0 listed a' w' I tail hc fun k hk=>?_
  cases hx:listed.getD k false with
  | true=>rfl
  | false =>
   exfalso
   have iY:k<listed.size:=by rw [I.size];omega
   have:false∈listed.toList.filter (· == false):=by
    refine List.mem_filter.2 ⟨?_,rfl⟩
    have h1:listed.toList[k]?=some false:=by simp [iY] at hx ⊢;exact hx
    exact List.mem_of_getElem? h1
   have:=List.length_pos_of_mem this
   omega
 | succ fuel ih =>
  intro listed a' w' I tail hc
  by_cases hex:∀k,k<T->listed.getD k false=true
  ·exact rest (fuel+1) listed a' w' I tail hc hex
  have Qa:∃k,k<T∧listed.getD k false=false:=by
   refine Classical.byContradiction fun gr=>hex fun k hk=>?_
   cases hx:listed.getD k false with
   | true=>rfl
   | false=>exact absurd ⟨k,hk,hx⟩ gr
  obtain ⟨k0,zl,IX⟩:=Qa
  have QZ:HeadInv .any ops T listed:=⟨I.size,fun j oj hj hl e he hb=>I.closed j oj hl hj e.on (by
    unfold bl
    exact List.mem_map.2 ⟨e,List.mem_filter.2 ⟨by simpa using he,hb⟩,rfl⟩),fun t ht Qe=>getD_in (by rw [I.size];exact Qe) (tail t ht)⟩
  have Jg:listed.getD k0 true=false:=getD_in (by rw [I.size];omega) IX
  refine ⟨fun hr=>(by
   obtain ⟨i,_,hi⟩:=kS listed a' w' I k0 zl IX
   rw [hr] at hi;cases hi),fun i hi=>?_⟩
  have QE:i<T:=Classical.byContradiction fun h=>tail_waits KG tI hT QZ _ k0 rfl zl Jg i ag hi
  obtain ⟨h0,o,ho,gD⟩:=mem_ready.1 hi
  have Hk:i<listed.size:=by rw [I.size];exact (Array.getElem?_eq_some_iff.1 ho).1
  have Pq:listed.getD i false=false:=by simp [Hk] at h0 ⊢;exact h0
  have js:∀d∈bl o,listed.getD d false=true:=by
   intro d hd
   unfold bl at hd
   obtain ⟨e,he,rfl⟩:=List.mem_map.1 hd
   obtain ⟨ML,LJ⟩:=List.mem_filter.1 he
   exact gD e (by simpa using ML) LJ
  have next:∀v fJ,Below w'.heap.size w' fJ->F i v fJ->Inv ops F a w (listed.setIfInBounds i true) (a'.put o.dst v) fJ:=by
   intro v fJ hb hF
   have lists:∀k,(listed.setIfInBounds i true).getD k false=true->k=i∨listed.getD k false=true:=by
    intro k hk
    by_cases tH:i=k
    ·exact .inl tH.symm
    ·right;rw [getD_set_ne false tH] at hk;exact hk
   refine ⟨I.grown.qh hb,by simpa using I.size,?_,(qt ..).trans I.AL,(put_defers ..).trans I.tU,?_,?_,?_⟩
   ·intro k p hk hp d hd
    rcases lists k hk with rfl|hk
    ·rw [ho] at hp;injection hp with hp;subst hp
     exact getD_set_true (js d hd)
    ·exact getD_set_true (I.closed k p hk hp d hd)
   ·intro k p s hk hp hs
    rcases lists k hk with rfl|hk
    ·rw [ho] at hp;injection hp with hp;subst hp
     refine ⟨v,?_,hF⟩
     rw [hs]
     exact mY a' s v (by rw [I.AL,dv];exact wM k _ s ho hs)
    ·obtain ⟨u,hu,TV⟩:=I.val k p s hk hp hs
     refine ⟨u,?_,mono k u w' fJ hb TV⟩
     rw [iq a' o.dst s v fun he=>?_]
     ·exact hu
     ·have:=o8 iI ho hp he hs
      subst this
      rw [Pq] at hk;cases hk
   ·intro k p hk hp hs
    rcases lists k hk with rfl|hk
    ·exact ⟨v,hF⟩
    ·obtain ⟨u,hu⟩:=I.EO k p hk hp hs
     exact ⟨u,mono k u w' fJ hb hu⟩
   ·intro s hs
    rw [iq a' o.dst s v (hs i o (by simp [Hk]) ho)]
    exact I.old s fun k p hk hp=>hs k p (getD_set_true hk) hp
  have oe:∀j,T≤j->(listed.setIfInBounds i true).getD j false=false:=fun j hj=>by rw [getD_set_ne false ag];exact tail j hj
  have oi:((listed.setIfInBounds i true).toList.filter (· == false)).length=fuel:=by
   have QA:((listed.setIfInBounds i true).toList.filter (· == false)).length+1=(listed.toList.filter (· == false)).length:=by
    rw [Array.toList_setIfInBounds]
    have jx:listed.toList[i]?=some false:=by simp [Hk] at h0 ⊢;exact h0
    exact p7 _ i jx
   omega
  have i_:=uc i o QE ho a' w' I.grown (fun d hd=>by
   have hl:=js d hd
   cases hp:ops[d]? with
   | none =>
    have ue:d<listed.size:=by
     rcases Nat.lt_or_ge d listed.size with h|h
     ·exact h
     ·simp [Array.getElem?_eq_none h] at hl
    rw [I.size] at ue
    rw [Array.getElem?_eq_getElem ue] at hp;cases hp
   | some p =>
    cases hs:p.dst with
    | none=>exact .inr ⟨p,rfl,hs⟩
    | some s =>
     left
     obtain ⟨u,hu,hF⟩:=I.val d p s hl hp hs
     unfold sO
     rw [hp]
     simp only [Option.bind_some,hs]
     simp [hu];exact hF) (fun s hs=>by
   show a'.tmps.getD s undef=a.tmps.getD s undef
   have:a'.tmps[s]?=a.tmps[s]?:=I.old s fun k p hk hp hd=>by
    have w7:k<T:=Classical.byContradiction fun h=>(by have:=tail k (Nat.le_of_not_lt h);rw [this] at hk;cases hk)
    exact hs k p w7 hp hd
   simp [this])
  unfold h_ at i_
  unfold wpOp
  rw [ho]
  simp only
  by_cases hw:Region.wanted o (yielded ops a'.tmps)=true
  ·rw [if_pos hw] at i_ ⊢
   left
   exact Oper.wp_mono (fun sJ fJ ⟨v,he,hb,hF⟩=>by
    subst he
    exact ih _ _ _ (next v fJ hb hF) oe oi) i_
  ·rw [if_neg hw] at i_ ⊢
   exact ih _ _ _ (next undef w' (Below.refl _ _) i_) oe oi
def po (ops:Array Oper) (T:Nat):Bool :=
 decide (T<ops.size) && Region.sinkB .any ops T && Region.chainB .any ops T && Region.seqB .any ops (ops.size-T) T ((List.range ops.size).map (decide<| · <T)).toArray
end
end Go.Proofs.YtjgbhhnghedgdaaGreatDoor
