import Derived.Test.YtjgbhhnghedgdaaGreatDoorZsRW
import Derived.Shelf.Unicode.DecodeSlow
import Derived.Calls
import Derived.Laws.Cells
set_option linter.all false
namespace Go.Proofs.YtjgbhhnghedgdaaGreatDoor
open Go.RowKit
inductive AV where
 | val (v:Value)
 | nil
 | agg (cs:List AV)
 | br (cs:List AV)
 | arr (cs:List AV)
 | sl (e:Nat) (row:List AV)
 | ptr (row:List AV) (off:Nat)
 | own (e:Nat) (row:List AV)
 | box (row:List AV)
 | ref (id:Nat)
 | pre (id n:Nat)
 | jg (id off n:Nat)
 | addr (id off:Nat)
 | lu (f:Nat) (cs:List AV)
 | o8 (e:Nat) (row:List AV)
 | dead
 deriving Inhabited
inductive cp (S:Nat->Prop) (w:World):Value->AV->Prop
 | val (v:Value):cp S w v (.val v)
 | nil:cp S w (.slice none 0 0) .nil
 | agg (vs:List Value) (cs:List AV) (hl:vs.length=cs.length) (h:∀(j:Nat) v c,vs[j]?=some v->cs[j]?=some c->cp S w v c):cp S w (.agg vs.toArray) (.agg cs)
 | br (vs:List Value) (cs:List AV) (hl:vs.length=cs.length) (h:∀(j:Nat) v c,vs[j]?=some v->cs[j]?=some c->cp S w v c):cp S w (.tuple vs.toArray) (.br cs)
 | arr (vs:List Value) (cs:List AV) (hl:vs.length=cs.length) (h:∀(j:Nat) v c,vs[j]?=some v->cs[j]?=some c->cp S w v c):cp S w (.agg vs.toArray) (.arr cs)
 | sl (A:Option Addr) (n c e:Nat) (us:List Value) (row:List AV) (hl:us.length=row.length) (hn:row.length=e*n) (hc:n≤c) (hm:c≤maxLen)
   (ha:0<row.length-> ∃ad,A=some ad∧S ad.block∧ ∀(j:Nat) u,us[j]?=some u->w.cell? (ad.add j)=some u)
   (h:∀(j:Nat) u x,us[j]?=some u->row[j]?=some x->cp S w u x):cp S w (.slice A n c) (.sl e row)
 | o8 (A:Option Addr) (n e:Nat) (us:List Value) (row:List AV) (hl:us.length=row.length) (hn:row.length=e*n) (hm:n≤maxLen)
   (ha:0<row.length-> ∃ad,A=some ad∧S ad.block∧ ∀(j:Nat) u,us[j]?=some u->w.cell? (ad.add j)=some u)
   (h:∀(j:Nat) u x,us[j]?=some u->row[j]?=some x->cp S w u x):cp S w (.slice A n n) (.o8 e row)
 | ptr (ad:Addr) (us:List Value) (row:List AV) (off:Nat) (hl:us.length=row.length) (hs:S ad.block) (ha:∀(j:Nat) u,us[j]?=some u->w.cell? (ad.add j)=some u)
   (h:∀(j:Nat) u x,us[j]?=some u->row[j]?=some x->cp S w u x):cp S w (.pointer (some (ad.add off))) (.ptr row off)
 | lu (f:Nat) (vs:List Value) (cs:List AV) (hl:vs.length=cs.length) (h:∀(j:Nat) v c,vs[j]?=some v->cs[j]?=some c->cp S w v c):cp S w (.func (.func f) #[] vs.toArray) (.lu f cs)
theorem kk {w w':World} {p:Addr} (h:w'.heap[p.block]?=w.heap[p.block]?):w'.cell? p=w.cell? p:=World.cell?_of_block (w:=w) h
theorem cp.mono {S S':Nat->Prop} {w w':World} (hS:∀b,S b->S' b∧w'.heap[b]?=w.heap[b]?) {v:Value} {av:AV} (h:cp S w v av):cp S' w' v av:=by
 induction h with
 | val v=>exact .val v
 | nil=>exact .nil
 | agg vs cs hl _ ih=>exact .agg vs cs hl ih
 | br vs cs hl _ ih=>exact .br vs cs hl ih
 | arr vs cs hl _ ih=>exact .arr vs cs hl ih
 | sl A n c e us row hl hn hc hm ha _ ih =>
  refine .sl A n c e us row hl hn hc hm (fun h0=>?_) ih
  obtain ⟨ad,rfl,hb,bq⟩:=ha h0
  exact ⟨ad,rfl,(hS _ hb).1,fun j u hu=>(kk (by rw [gA];exact (hS _ hb).2)).trans (bq j u hu)⟩
 | o8 A n e us row hl hn hm ha _ ih =>
  refine .o8 A n e us row hl hn hm (fun h0=>?_) ih
  obtain ⟨ad,rfl,hb,bq⟩:=ha h0
  exact ⟨ad,rfl,(hS _ hb).1,fun j u hu=>(kk (by rw [gA];exact (hS _ hb).2)).trans (bq j u hu)⟩
 | ptr ad us row off hl hs ha _ ih =>
  exact .ptr ad us row off hl (hS _ hs).1 (fun j u hu=>(kk (by rw [gA];exact (hS _ hs).2)).trans (ha j u hu)) ih
 | lu f vs cs hl _ ih=>exact .lu f vs cs hl ih
abbrev Info:=Nat->Option (Nat×Nat×Option Nat)
def aS (w:World) (g:Nat):Nat:=match w.heap[g]? with|some (.cells c _ _)=>c.size|_=>0
inductive Den (I:Info) (S:Nat->Prop) (w:World):Value->AV->Prop
 | rep {v:Value} {av:AV} (h:cp S w v av):Den I S w v av
 | agg (vs:List Value) (cs:List AV) (hl:vs.length=cs.length) (h:∀(j:Nat) v c,vs[j]?=some v->cs[j]?=some c->Den I S w v c):Den I S w (.agg vs.toArray) (.agg cs)
 | br (vs:List Value) (cs:List AV) (hl:vs.length=cs.length) (h:∀(j:Nat) v c,vs[j]?=some v->cs[j]?=some c->Den I S w v c):Den I S w (.tuple vs.toArray) (.br cs)
 | ref (id e m g l c:Nat) (hi:I id=some (e,m,some g)) (hm:m=e*l) (hc:l≤c) (hx:c≤maxLen) (hs:aS w g=e*c):Den I S w (.slice (some ⟨g,0,none⟩) l c) (.ref id)
 | cw (id e:Nat) (hi:I id=some (e,0,none)):Den I S w (.slice none 0 0) (.ref id)
 | pre (id n e m g l c:Nat) (hi:I id=some (e,m,some g)) (hn:n=e*l) (hm:n≤m) (hc:l≤c) (hx:c≤maxLen) (hs:aS w g=e*c):Den I S w (.slice (some ⟨g,0,none⟩) l c) (.pre id n)
 | df (id e:Nat) (hi:I id=some (e,0,none)):Den I S w (.slice none 0 0) (.pre id 0)
 | jg (id off n e m l c:Nat) (g:Option Nat) (A:Option Addr) (hi:I id=some (e,m,g)) (hn:n=e*l) (hm:off+n≤m) (hc:l≤c) (hx:c≤maxLen) (ha:0<n-> ∃b,g=some b∧A=some ⟨b,off,none⟩):Den I S w (.slice A l c) (.jg id off n)
 | addr (id off e m g:Nat) (hi:I id=some (e,m,some g)):Den I S w (.pointer (some ⟨g,off,none⟩)) (.addr id off)
 | dead (v:Value):Den I S w v .dead
theorem Den.mono {I I':Info} {S S':Nat->Prop} {w w':World} (hI:∀id x,I id=some x->I' id=some x) (hS:∀b,S b->S' b∧w'.heap[b]?=w.heap[b]?)
  (hL:∀id e m g,I id=some (e,m,some g)->aS w' g=aS w g) {v:Value} {av:AV} (h:Den I S w v av):Den I' S' w' v av:=by
 induction h with
 | rep h=>exact .rep (h.mono hS)
 | agg vs cs hl _ ih=>exact .agg vs cs hl ih
 | br vs cs hl _ ih=>exact .br vs cs hl ih
 | ref id e m g l c hi hm hc hx hs=>exact .ref id e m g l c (hI _ _ hi) hm hc hx ((hL _ _ _ _ hi).trans hs)
 | cw id e hi=>exact .cw id e (hI _ _ hi)
 | pre id n e m g l c hi hn hm hc hx hs=>exact .pre id n e m g l c (hI _ _ hi) hn hm hc hx ((hL _ _ _ _ hi).trans hs)
 | df id e hi=>exact .df id e (hI _ _ hi)
 | jg id off n e m l c g A hi hn hm hc hx ha=>exact .jg id off n e m l c g A (hI _ _ hi) hn hm hc hx ha
 | addr id off e m g hi=>exact .addr id off e m g (hI _ _ hi)
 | dead v=>exact .dead v
structure Row where
 e:Nat
 pure:Bool
 full:Bool
 cells:List AV
def a_ (I:Info) (S:Nat->Prop) (w:World) (p:Bool) (u:Value) (x:AV):Prop:=match p with|true=>cp S w u x|false=>Den I S w u x
def bJ (I:Info) (S:Nat->Prop) (w:World) (b:Option Nat) (r:Row):Prop :=
 match b with
 | none=>r.cells= []
 | some g=>∃cur te fr,w.heap[g]?=some (.cells cur te fr)∧(∀j,j<cur.size-> ¬(fr.1≤j∧j<fr.2))∧r.cells.length≤cur.size∧(r.full=true->cur.size=r.cells.length) ∧
   ∀(j:Nat) u x,cur[j]?=some u->r.cells[j]?=some x->a_ I S w r.pure u x
def look {α:Type}:List (Nat×α)->Nat->Option α
 | [],_=>none
 | (k,x)::l,i=>match Nat.beq k i with|true=>some x|false=>look l i
def cF {α:Type}:List (Nat×α)->Nat->List (Nat×α)
 | [],_=>[]
 | (k,x)::l,i=>match Nat.beq k i with|true=>cF l i|false=>(k,x)::cF l i
def dE {α:Type} (f:α->α):List (Nat×α)->List (Nat×α)
 | []=>[]
 | (k,x)::l=>(k,f x)::dE f l
theorem bD (k i:Nat):(Nat.beq k i=true∧k=i)∨(Nat.beq k i=false∧k≠i):=by
 cases h:Nat.beq k i with
 | true=>exact .inl ⟨rfl,Nat.eq_of_beq_eq_true h⟩
 | false=>exact .inr ⟨rfl,Nat.ne_of_beq_eq_false h⟩
theorem aB {α:Type} (k:Nat) (x:α) (l:List (Nat×α)) (i:Nat):look ((k,x)::l) i=if k=i then some x else look l i:=by
 rcases bD k i with ⟨h,e⟩|⟨h,e⟩<;>simp [look,h,e]
theorem bC {α:Type} (l:List (Nat×α)) (i j:Nat):look (cF l i) j=if i=j then none else look l j:=by
 induction l with
 | nil=>simp [cF,look]
 | cons p l ih =>
  obtain ⟨k,x⟩:=p
  rcases bD k i with ⟨h,e⟩|⟨h,e⟩
  ·simp only [cF,h];rw [ih,aB,e]
   by_cases hj:i=j<;>simp [hj]
  ·simp only [cF,h,aB,ih]
   by_cases hk:k=j
   ·subst hk;simp [Ne.symm e]
   ·simp [hk]
theorem b7 {α:Type} (f:α->α) (l:List (Nat×α)) (i:Nat):look (dE f l) i=(look l i).map f:=by
 induction l with
 | nil=>rfl
 | cons p l ih =>
  obtain ⟨k,x⟩:=p
  simp only [dE,aB,ih]
  by_cases hk:k=i<;>simp [hk]
theorem bI {α:Type} (l m:List (Nat×α)) (i:Nat):look (l++m) i=(look l i).or (look m i):=by
 induction l with
 | nil=>simp [look]
 | cons p l ih =>
  obtain ⟨k,x⟩:=p
  simp only [List.cons_append,aB,ih]
  by_cases hk:k=i<;>simp [hk]
structure AS where
 F:List (Nat×AV)
 H:List (Nat×Row)
def az (H:List (Nat×Row)) (φ:Nat->Option Nat):Info:=fun id=>(look H id).map fun r=>(r.e,r.cells.length,φ id)
def TB (b:Nat):Prop:=b=0∨b=1
def Good (w:World):Prop:=Lib.Utf8Tabs 0 1 w
theorem Good.aa {w w':World} (h:Good w) (hk:∀b,TB b->w'.heap[b]?=w.heap[b]?):Good w' :=
 ⟨fun c hc=>(World.cell?_of_block (hk _ (.inl rfl))).trans (h.1 c hc),fun i hi=>⟨(World.cell?_of_block (hk _ (.inr rfl))).trans (h.2 i hi).1,(World.cell?_of_block (hk _ (.inr rfl))).trans (h.2 i hi).2⟩⟩
theorem Good.lt {w:World} (h:Good w) {b:Nat} (hb:TB b):b<w.heap.size:=by
 have lt:∀ {a:Addr} {v:Value},w.cell? a=some v->a.block<w.heap.size:=fun {a v} hc=>by
  rcases Nat.lt_or_ge a.block w.heap.size with h'|h'
  ·exact h'
  ·simp [World.cell?,Array.getElem?_eq_none h'] at hc
 rcases hb with rfl|rfl
 ·exact lt (h.1 0 (by decide))
 ·exact lt (h.2 0 (by decide)).1
structure bf where
 S:Nat->Prop
 X:Nat->Prop
 fix:Nat->Option Nat
 rV:List Deferred:=[]
instance:CoeFun bf fun _=>Nat->Prop:=⟨bf.S⟩
def P5 (S0:bf) (w0:World) (id g:Nat):Prop:=(id<1000000000000∨S0.fix id=some g)∧(w0.heap.size≤g∨S0.X g)
structure Kept (S0:bf) (w0 w:World):Prop where
 os:w.os=w0.os
 tape:w.tape=w0.tape
 output:w.output=w0.output
 size:w0.heap.size≤w.heap.size
 block:∀k,k<w0.heap.size-> ¬S0.X k->w.heap[k]?=w0.heap[k]?
 g0:Good w0
 gx:∀b,TB b-> ¬S0.X b
theorem Kept.mm {S0:bf} {w0 w:World} (h:Kept S0 w0 w):Good w:=h.g0.aa fun b hb=>h.block b (h.g0.lt hb) (h.gx b hb)
theorem Kept.pc {S0:bf} {w0 w w':World} (h:Kept S0 w0 w) (hb:Below w.heap.size w w'):Kept S0 w0 w' :=
 ⟨hb.os.trans h.os,hb.tape.trans h.tape,hb.output.trans h.output,Nat.le_trans h.size hb.size,fun k hk hx=>(hb.block k (Nat.lt_of_lt_of_le hk h.size)).trans (h.block k hk hx),h.g0,h.gx⟩
theorem Kept.below {S0:bf} {w0 w:World} (h:Kept S0 w0 w) (hX:∀b,¬S0.X b):Below w0.heap.size w0 w :=
 ⟨h.os,h.tape,h.output,h.size,fun k hk=>h.block k hk (hX k)⟩
def aJ (S0:bf) (w:World) (φ:Nat->Option Nat) (O:List Nat):Nat->Prop:=fun b=>b<w.heap.size∧b ∉ O∧(∀id,φ id≠some b)∧S0 b
structure aH (S0:bf) (w0:World) (n:Nat) (O:List Nat) (s:AS) (a:Act) (w:World) (φ:Nat->Option Nat):Prop where
 jF:a.tmps.size=n
 jJ:a.defers=S0.rV
 cM:Kept S0 w0 w
 ct:∀i av,look s.F i=some av->Den (az s.H φ) (aJ S0 w φ O) w (a.tmps.getD i undef) av
 rows:∀id r,look s.H id=some r->bJ (az s.H φ) (aJ S0 w φ O) w (φ id) r
 only:∀id,look s.H id=none->φ id=none
 inj:∀id oM g,φ id=some g->φ oM=some g->id=oM
 cL:∀id g,φ id=some g->P5 S0 w0 id g∧g<w.heap.size
 apart:∀id g,φ id=some g->g ∉ O
 new:∀b,(w0.heap.size≤b∨S0.X b)->S0 b
def ib (S0:bf) (w0:World) (n:Nat) (s:AS) (a:Act) (w:World):Prop:=∃ φ,aH S0 w0 n [] s a w φ
theorem Kept.se {S0:bf} {w0 w:World} (h:Kept S0 w0 w) {g:Nat} (hg:w0.heap.size≤g∨S0.X g):¬TB g:=fun hb=>hg.elim (fun h1=>by have:=h.g0.lt hb;omega) (h.gx g hb)
theorem aH.se {S0:bf} {w0 w:World} {n:Nat} {O:List Nat} {s:AS} {a:Act} {φ:Nat->Option Nat} (h:aH S0 w0 n O s a w φ) {b:Nat} (hb:TB b):¬ ∃id,φ id=some b:=fun ⟨id,hid⟩=>h.cM.se (h.cL id b hid).1.2 hb
def jI (s:AS) (i:Nat):AV:=match look s.F i with|some x=>x|none=>.dead
def k9 (s:AS) (i:Nat) (x:AV):AS:=⟨(i,x)::cF s.F i,s.H⟩
theorem qK (s:AS) (i j:Nat) (x:AV):look (k9 s i x).F j=if i=j then some x else look s.F j:=by
 simp only [k9,aB,bC]
 by_cases h:i=j<;>simp [h]
section
variable {S0:bf} {w0 w w':World} {n:Nat} {O:List Nat} {s:AS} {a:Act} {φ:Nat->Option Nat}
theorem aH.get (h:aH S0 w0 n O s a w φ) (i:Nat):Den (az s.H φ) (aJ S0 w φ O) w (a.tmps.getD i undef) (jI s i):=by
 unfold jI
 cases hl:look s.F i with
 | none=>exact .dead _
 | some x=>exact h.ct i x hl
theorem pn (a:Act) (d i:Nat) (v:Value) (hd:d<a.tmps.size):(a.put (some d) v).tmps.getD i undef=if d=i then v else a.tmps.getD i undef:=by
 simp only [Act.put]
 by_cases h:d=i
 ·subst h;simp [hd]
 ·simp [h,Array.getElem?_setIfInBounds_ne h]
theorem tj (a:Act) (d:Option Nat) (v:Value):(a.put d v).tmps.size=a.tmps.size:=by cases d<;>simp [Act.put]
theorem oT (a:Act) (d:Option Nat) (v:Value):(a.put d v).defers=a.defers:=by cases d<;>simp [Act.put]
theorem aH.put (h:aH S0 w0 n O s a w φ) {d:Nat} (hd:d<n) {v:Value} {x:AV} (hx:Den (az s.H φ) (aJ S0 w φ O) w v x):aH S0 w0 n O (k9 s d x) (a.put (some d) v) w φ where
 jF:=(tj ..).trans h.jF
 jJ:=(oT ..).trans h.jJ
 cM:=h.cM
 ct:=fun i av hi=>by
  rw [pn a d i v (by rw [h.jF];exact hd)]
  rw [qK] at hi
  by_cases e:d=i
  ·rw [if_pos e] at hi ⊢
   injection hi with hi
   subst hi;exact hx
  ·rw [if_neg e] at hi ⊢
   exact h.ct i av hi
 rows:=h.rows
 only:=h.only
 inj:=h.inj
 cL:=h.cL
 apart:=h.apart
 new:=h.new
theorem aH.grow (h:aH S0 w0 n O s a w φ) (hb:Below w.heap.size w w'):aH S0 w0 n O s a w' φ where
 jF:=h.jF
 jJ:=h.jJ
 cM:=h.cM.pc hb
 ct:=fun i av hi=>(h.ct i av hi).mono (fun _ _ h=>h) (fun b hS=>⟨⟨Nat.lt_of_lt_of_le hS.1 hb.size,hS.2⟩,hb.block b hS.1⟩) (fun id e m g hi=>by
  have hg:φ id=some g:=by
   unfold az at hi
   cases hl:look s.H id with
   | none=>rw [hl] at hi;cases hi
   | some r=>rw [hl] at hi;simp at hi;exact hi.2.2
  unfold aS;rw [hb.block g (h.cL id g hg).2])
 rows:=fun id r hr=>by
  have aK:=h.rows id r hr
  unfold bJ at aK ⊢
  cases bY:φ id with
  | none=>rw [bY] at aK;exact aK
  | some g =>
   rw [bY] at aK
   obtain ⟨cur,te,fr,hg,hf,hl,mD,hc⟩:=aK
   refine ⟨cur,te,fr,(hb.block g (h.cL id g bY).2).trans hg,hf,hl,mD,fun j u x hu hx=>?_⟩
   have bq:=hc j u x hu hx
   have hS:∀b,aJ S0 w φ O b->aJ S0 w' φ O b∧w'.heap[b]?=w.heap[b]?:=fun b hS=>⟨⟨Nat.lt_of_lt_of_le hS.1 hb.size,hS.2⟩,hb.block b hS.1⟩
   unfold a_ at bq ⊢
   cases hp:r.pure with
   | true=>rw [hp] at bq;exact bq.mono hS
   | false =>
    rw [hp] at bq
    exact bq.mono (fun _ _ h=>h) hS (fun id e m g hi=>by
     have hg:φ id=some g:=by
      unfold az at hi
      cases hl:look s.H id with
      | none=>rw [hl] at hi;cases hi
      | some r=>rw [hl] at hi;simp at hi;exact hi.2.2
     unfold aS;rw [hb.block g (h.cL id g hg).2])
 only:=h.only
 inj:=h.inj
 cL:=fun id g hg=>⟨(h.cL id g hg).1,Nat.lt_of_lt_of_le (h.cL id g hg).2 hb.size⟩
 apart:=h.apart
 new:=h.new
end
def aQ (id:Nat):AV->AV
 | .ref i=>match Nat.beq i id with|true=>.dead|false=>.ref i
 | .pre i n=>match Nat.beq i id with|true=>.dead|false=>.pre i n
 | .jg i o n=>match Nat.beq i id with|true=>.dead|false=>.jg i o n
 | .addr i o=>match Nat.beq i id with|true=>.dead|false=>.addr i o
 | .agg _=>.dead
 | .br _=>.dead
 | x=>x
def DJ (id:Nat):AV->AV
 | .agg cs=>.agg (cs.map (aQ id))
 | x=>aQ id x
def jA (id:Nat):AV->AV
 | .br cs=>.br (cs.map (DJ id))
 | x=>DJ id x
def dr (id:Nat) (r:Row):Row:=match r.pure with|true=>r|false=>⟨r.e,false,r.full,r.cells.map (aQ id)⟩
def bX (id:Nat) (s:AS):AS:=⟨dE (jA id) s.F,dE (dr id) (cF s.H id)⟩
def mA (id:Nat) (r:Row):AV->AV
 | .ref i=>match Nat.beq i id with|true=>.sl r.e r.cells|false=>.ref i
 | .pre i n=>match Nat.beq i id with|true=>.sl r.e (r.cells.take n)|false=>.pre i n
 | .jg i o n=>match Nat.beq i id with|true=>.sl r.e ((r.cells.drop o).take n)|false=>.jg i o n
 | .addr i o=>match Nat.beq i id with|true=>.ptr r.cells o|false=>.addr i o
 | .agg _=>.dead
 | .br _=>.dead
 | x=>x
def Df (id:Nat) (r:Row):AV->AV
 | .agg cs=>.agg (cs.map (mA id r))
 | x=>mA id r x
def Ln (id:Nat) (r:Row):AV->AV
 | .br cs=>.br (cs.map (Df id r))
 | x=>Df id r x
def gp (id:Nat) (r:Row) (q:Row):Row:=match q.pure with|true=>q|false=>⟨q.e,false,q.full,q.cells.map (mA id r)⟩
def iR (id:Nat) (r:Row) (s:AS):AS:=⟨dE (Ln id r) s.F,dE (gp id r) (cF s.H id)⟩
section
variable {I I':Info} {S S':Nat->Prop} {w w':World}
structure jN (I I':Info) (S S':Nat->Prop) (w:World) (f:AV->AV):Prop where
 leaf:∀v x,Den I S w v x->(∀cs,x≠ .agg cs)->(∀cs,x≠ .br cs)->Den I' S' w v (f x)
 agg:∀cs,f (.agg cs)= .dead
 br:∀cs,f (.br cs)= .dead
theorem jN.all {f:AV->AV} (h:jN I I' S S' w f) {v:Value} {x:AV} (hx:Den I S w v x):Den I' S' w v (f x):=by
 cases x with
 | agg cs=>rw [h.agg];exact .dead _
 | br cs=>rw [h.br];exact .dead _
 | _=>exact h.leaf v _ hx (by intro cs e;cases e) (by intro cs e;cases e)
theorem j8 {v:Value} {cs:List AV} (h:Den I S w v (.agg cs)):∃vs:List Value,v= .agg vs.toArray∧vs.length=cs.length∧ ∀(j:Nat) v c,vs[j]?=some v->cs[j]?=some c->Den I S w v c:=by
 cases h with
 | rep h=>cases h with|agg vs _ hl h=>exact ⟨vs,rfl,hl,fun j v c hv hc=>.rep (h j v c hv hc)⟩
 | agg vs _ hl h=>exact ⟨vs,rfl,hl,h⟩
theorem xX {v:Value} {cs:List AV} (h:Den I S w v (.br cs)):∃vs:List Value,v= .tuple vs.toArray∧vs.length=cs.length∧ ∀(j:Nat) v c,vs[j]?=some v->cs[j]?=some c->Den I S w v c:=by
 cases h with
 | rep h=>cases h with|br vs _ hl h=>exact ⟨vs,rfl,hl,fun j v c hv hc=>.rep (h j v c hv hc)⟩
 | br vs _ hl h=>exact ⟨vs,rfl,hl,h⟩
theorem jN.one {f:AV->AV} (h:jN I I' S S' w f) {v:Value} {x:AV} (hx:Den I S w v x) {g:AV->AV} (hg:∀cs,g (.agg cs)= .agg (cs.map f)) (iW:∀y,(∀cs,y≠ .agg cs)->g y=f y):Den I' S' w v (g x):=by
 by_cases hc:∃cs,x= .agg cs
 ·obtain ⟨cs,rfl⟩:=hc
  obtain ⟨vs,rfl,hl,hd⟩:=j8 hx
  rw [hg]
  refine .agg vs _ (by simpa using hl) fun j v c hv hc=>?_
  rw [List.getElem?_map] at hc
  cases hj:cs[j]? with
  | none=>rw [hj] at hc;cases hc
  | some y=>rw [hj] at hc;injection hc with hc;subst hc;exact h.all (hd j v y hv hj)
 ·rw [iW x fun cs e=>hc ⟨cs,e⟩]
  exact h.all hx
theorem jN.two {f:AV->AV} (h:jN I I' S S' w f) {v:Value} {x:AV} (hx:Den I S w v x) {g k:AV->AV} (hg:∀cs,g (.agg cs)= .agg (cs.map f)) (iW:∀y,(∀cs,y≠ .agg cs)->g y=f y)
  (hk:∀cs,k (.br cs)= .br (cs.map g)) (oP:∀y,(∀cs,y≠ .br cs)->k y=g y):Den I' S' w v (k x):=by
 by_cases hc:∃cs,x= .br cs
 ·obtain ⟨cs,rfl⟩:=hc
  obtain ⟨vs,rfl,hl,hd⟩:=xX hx
  rw [hk]
  refine .br vs _ (by simpa using hl) fun j v c hv hc=>?_
  rw [List.getElem?_map] at hc
  cases hj:cs[j]? with
  | none=>rw [hj] at hc;cases hc
  | some y=>rw [hj] at hc;injection hc with hc;subst hc;exact h.one (hd j v y hv hj) hg iW
 ·rw [oP x fun cs e=>hc ⟨cs,e⟩]
  exact h.one hx hg iW
theorem zU (id:Nat) (y:AV) (h:∀cs,y≠ .agg cs):DJ id y=aQ id y:=by
 cases y with
 | agg cs=>exact absurd rfl (h cs)
 | _=>rfl
theorem zM (id:Nat) (y:AV) (h:∀cs,y≠ .br cs):jA id y=DJ id y:=by
 cases y with
 | br cs=>exact absurd rfl (h cs)
 | _=>rfl
theorem yE (id:Nat) (r:Row) (y:AV) (h:∀cs,y≠ .agg cs):Df id r y=mA id r y:=by
 cases y with
 | agg cs=>exact absurd rfl (h cs)
 | _=>rfl
theorem yD (id:Nat) (r:Row) (y:AV) (h:∀cs,y≠ .br cs):Ln id r y=Df id r y:=by
 cases y with
 | br cs=>exact absurd rfl (h cs)
 | _=>rfl
theorem uc (id:Nat) (hI:∀i x,i≠id->I i=some x->I' i=some x) (hS:∀b,S b->S' b):jN I I' S S' w (aQ id) where
 agg:=fun _=>rfl
 br:=fun _=>rfl
 leaf:=fun v x hx h1 h2=>by
  have qS:∀b,S b->S' b∧w.heap[b]?=w.heap[b]?:=fun b h=>⟨hS b h,rfl⟩
  cases hx with
  | rep h=>cases h with
   | val v=>exact .rep (.val v)
   | nil=>exact .rep .nil
   | agg vs cs _ _=>exact absurd rfl (h1 cs)
   | br vs cs _ _=>exact absurd rfl (h2 cs)
   | arr vs cs hl h=>exact .rep ((cp.arr vs cs hl h).mono qS)
   | sl A n c e us row hl hn hc hm ha h=>exact .rep ((cp.sl A n c e us row hl hn hc hm ha h).mono qS)
   | o8 A n e us row hl hn hm ha h=>exact .rep ((cp.o8 A n e us row hl hn hm ha h).mono qS)
   | ptr ad us row off hl hs ha h=>exact .rep ((cp.ptr ad us row off hl hs ha h).mono qS)
   | lu f vs cs hl h=>exact .rep ((cp.lu f vs cs hl h).mono qS)
  | agg vs cs _ _=>exact absurd rfl (h1 cs)
  | br vs cs _ _=>exact absurd rfl (h2 cs)
  | ref i e m g l c hi hm hc hx hs =>
   rcases bD i id with ⟨h,e⟩|⟨h,e⟩<;>simp only [aQ,h]
   ·exact .dead _
   ·exact .ref i _ m g l c (hI _ _ e hi) hm hc hx hs
  | cw i e hi =>
   rcases bD i id with ⟨h,e⟩|⟨h,e⟩<;>simp only [aQ,h]
   ·exact .dead _
   ·exact .cw i _ (hI _ _ e hi)
  | pre i n e m g l c hi hn hm hc hx hs =>
   rcases bD i id with ⟨h,e⟩|⟨h,e⟩<;>simp only [aQ,h]
   ·exact .dead _
   ·exact .pre i n _ m g l c (hI _ _ e hi) hn hm hc hx hs
  | df i e hi =>
   rcases bD i id with ⟨h,e⟩|⟨h,e⟩<;>simp only [aQ,h]
   ·exact .dead _
   ·exact .df i _ (hI _ _ e hi)
  | jg i off n e m l c g A hi hn hm hc hx ha =>
   rcases bD i id with ⟨h,e⟩|⟨h,e⟩<;>simp only [aQ,h]
   ·exact .dead _
   ·exact .jg i off n _ m l c g A (hI _ _ e hi) hn hm hc hx ha
  | addr i off e m g hi =>
   rcases bD i id with ⟨h,e⟩|⟨h,e⟩<;>simp only [aQ,h]
   ·exact .dead _
   ·exact .addr i off _ m g (hI _ _ e hi)
  | dead v=>exact .dead _
theorem Den.kill (id:Nat) (hI:∀i x,i≠id->I i=some x->I' i=some x) (hS:∀b,S b->S' b) {v:Value} {x:AV} (h:Den I S w v x):Den I' S' w v (jA id x) :=
 (uc id hI hS).two h (fun _=>rfl) (zU id) (fun _=>rfl) (zM id)
theorem eH {r:Row} {g l c:Nat} {cur:Array Value} {te:TypeId} {fr:Nat×Nat} (hg:w.heap[g]?=some (.cells cur te fr)) (hS:S g) (cells:List AV) (off:Nat) (hl:off+cells.length≤cur.size)
  (hn:cells.length=r.e*l) (hc:l≤c) (hm:c≤maxLen) (A:Option Addr) (hA:0<cells.length->A=some ⟨g,off,none⟩) (h:∀(j:Nat) u x,cur[off+j]?=some u->cells[j]?=some x->cp S w u x):cp S w (.slice A l c) (.sl r.e cells):=by
 refine .sl A l c r.e ((cur.toList.drop off).take cells.length) cells (by have:cur.toList.length=cur.size:=rfl;rw [List.length_take,List.length_drop];omega) hn hc hm (fun h0=>⟨_,hA h0,hS,fun j u hu=>?_⟩) (fun j u x hu hx=>?_)
 ·have e:(⟨g,off,none⟩:Addr).add j=⟨g,off+j,none⟩:=by unfold Addr.add;split<;>simp_all
  rw [e,cell_of_row w g _ cur te fr hg]
  rw [List.getElem?_take] at hu
  split at hu
  ·rw [List.getElem?_drop] at hu;simpa using hu
  ·cases hu
 ·refine h j u x ?_ hx
  rw [List.getElem?_take] at hu
  split at hu
  ·rw [List.getElem?_drop] at hu;simpa using hu
  ·cases hu
theorem oH {g off:Nat} {cur:Array Value} {te:TypeId} {fr:Nat×Nat} (hg:w.heap[g]?=some (.cells cur te fr)) (hS:S g) (cells:List AV) (hl:cells.length≤cur.size)
  (h:∀(j:Nat) u x,cur[j]?=some u->cells[j]?=some x->cp S w u x):cp S w (.pointer (some ⟨g,off,none⟩)) (.ptr cells off):=by
 have e:∀j,(⟨g,0,none⟩:Addr).add j=⟨g,j,none⟩:=eJ g
 have:=cp.ptr (S:=S) (w:=w) ⟨g,0,none⟩ (cur.toList.take cells.length) cells off (by have:cur.toList.length=cur.size:=rfl;rw [List.length_take];omega) hS (fun j u hu=>?_) (fun j u x hu hx=>?_)
 ·rw [e] at this;exact this
 ·rw [e,cell_of_row w g _ cur te fr hg]
  rw [List.getElem?_take] at hu
  split at hu
  ·simpa using hu
  ·cases hu
 ·refine h j u x ?_ hx
  rw [List.getElem?_take] at hu
  split at hu
  ·simpa using hu
  ·cases hu
end
def erase (φ:Nat->Option Nat) (id:Nat):Nat->Option Nat:=fun i=>if i=id then none else φ i
def fm (φ:Nat->Option Nat) (id g:Nat):Nat->Option Nat:=fun i=>if i=id then some g else φ i
section
variable {S0:bf} {w0 w w':World} {n:Nat} {O:List Nat} {s:AS} {a:Act} {φ:Nat->Option Nat}
theorem aL {H:List (Nat×Row)} {id e m:Nat} {b:Option Nat} (h:az H φ id=some (e,m,b)):∃r,look H id=some r∧r.e=e∧r.cells.length=m∧φ id=b:=by
 unfold az at h
 cases hl:look H id with
 | none=>rw [hl] at h;cases h
 | some r=>rw [hl] at h;simp at h;exact ⟨r,rfl,h⟩
theorem bn {H:List (Nat×Row)} {id:Nat} {r:Row} (h:look H id=some r):az H φ id=some (r.e,r.cells.length,φ id):=by
 unfold az;rw [h];rfl
theorem fz (id:Nat) (r:Row):(dr id r).e=r.e∧(dr id r).cells.length=r.cells.length∧(dr id r).pure=r.pure∧(dr id r).full=r.full:=by
 unfold dr
 cases h:r.pure<;>simp [h]
theorem gh (id:Nat) (r q:Row):(gp id r q).e=q.e∧(gp id r q).cells.length=q.cells.length∧(gp id r q).pure=q.pure∧(gp id r q).full=q.full:=by
 unfold gp
 cases h:q.pure<;>simp [h]
theorem ng (id i:Nat) (x:Nat×Nat×Option Nat) (cK:i≠id) (h:az s.H φ i=some x):az (bX id s).H (erase φ id) i=some x:=by
 obtain ⟨e,m,b⟩:=x
 obtain ⟨r,hl,he,hm,hb⟩:=aL h
 have:look (bX id s).H i=some (dr id r):=by
  unfold bX;rw [b7,bC,if_neg (Ne.symm cK),hl];rfl
 rw [bn this,(fz id r).1,(fz id r).2.1,he,hm]
 unfold erase;rw [if_neg cK,hb]
theorem ke (id i:Nat) (q:Row) (x:Nat×Nat×Option Nat) (cK:i≠id) (h:az s.H φ i=some x):az (iR id q s).H (erase φ id) i=some x:=by
 obtain ⟨e,m,b⟩:=x
 obtain ⟨r,hl,he,hm,hb⟩:=aL h
 have:look (iR id q s).H i=some (gp id q r):=by
  unfold iR;rw [b7,bC,if_neg (Ne.symm cK),hl];rfl
 rw [bn this,(gh id q r).1,(gh id q r).2.1,he,hm]
 unfold erase;rw [if_neg cK,hb]
theorem aH.jk (h:aH S0 w0 n O s a w φ) (id:Nat) (O':List Nat) (hO:O'=match φ id with|some g=>g::O|none=>O):aH S0 w0 n O' (bX id s) a w (erase φ id):=by
 have hF:∀b,aJ S0 w φ O b->aJ S0 w (erase φ id) O' b:=by
  intro b ⟨h1,h2,h3,h4⟩
  refine ⟨h1,?_,fun i hi=>?_,h4⟩
  ·rw [hO]
   cases bY:φ id with
   | none=>exact h2
   | some g =>
    simp only [List.mem_cons,not_or]
    exact ⟨fun e=>h3 id (by rw [bY,e]),h2⟩
  ·unfold erase at hi
   split at hi
   ·cases hi
   ·exact h3 i hi
 refine ⟨h.jF,h.jJ,h.cM,fun i av hi=>?_,fun i r hr=>?_,fun i hi=>?_,fun i j g hi hj=>?_,fun i g hi=>?_,fun i g hi=>?_,h.new⟩
 ·unfold bX at hi
  rw [b7] at hi
  cases hl:look s.F i with
  | none=>rw [hl] at hi;cases hi
  | some x =>
   rw [hl] at hi;injection hi with hi;subst hi
   exact (h.ct i x hl).kill id (ng id) hF
 ·have gZ:=hr
  unfold bX at gZ
  rw [b7,bC] at gZ
  by_cases cK:id=i
  ·rw [if_pos cK] at gZ;cases gZ
  ·rw [if_neg cK] at gZ
   cases hl:look s.H i with
   | none=>rw [hl] at gZ;cases gZ
   | some q =>
    rw [hl] at gZ;injection gZ with gZ;subst gZ
    have hq:=h.rows i q hl
    have BS:erase φ id i=φ i:=by unfold erase;rw [if_neg (Ne.symm cK)]
    rw [BS]
    unfold bJ at hq ⊢
    cases hb:φ i with
    | none =>
     rw [hb] at hq
     have:=(fz id q).2.1
     simp only at hq ⊢
     rw [hq] at this;exact List.length_eq_zero_iff.1 this
    | some g =>
     rw [hb] at hq
     obtain ⟨cur,te,fr,hg,hf,hlen,mD,hc⟩:=hq
     refine ⟨cur,te,fr,hg,hf,by rw [(fz id q).2.1];exact hlen,by rw [(fz id q).2.1,(fz id q).2.2.2];exact mD,fun j u x hu hx=>?_⟩
     rw [(fz id q).2.2.1]
     unfold a_
     cases hp:q.pure with
     | true =>
      have:dr id q=q:=by unfold dr;rw [hp]
      rw [this] at hx
      have:=hc j u x hu hx
      unfold a_ at this;rw [hp] at this
      exact this.mono fun b hb=>⟨hF b hb,rfl⟩
     | false =>
      have:(dr id q).cells=q.cells.map (aQ id):=by unfold dr;rw [hp]
      rw [this,List.getElem?_map] at hx
      cases hj:q.cells[j]? with
      | none=>rw [hj] at hx;cases hx
      | some y =>
       rw [hj] at hx;injection hx with hx;subst hx
       have:=hc j u y hu hj
       unfold a_ at this;rw [hp] at this
       exact (uc id (ng id) hF).all this
 ·unfold bX at hi
  rw [b7,bC] at hi
  unfold erase
  by_cases cK:id=i
  ·rw [if_pos cK.symm]
  ·rw [if_neg cK] at hi
   rw [if_neg (Ne.symm cK)]
   refine h.only i ?_
   cases hl:look s.H i with
   | none=>rfl
   | some r=>rw [hl] at hi;cases hi
 ·unfold erase at hi hj
  split at hi
  ·cases hi
  ·split at hj
   ·cases hj
   ·exact h.inj i j g hi hj
 ·unfold erase at hi
  split at hi
  ·cases hi
  ·exact h.cL i g hi
 ·unfold erase at hi
  split at hi
  ·cases hi
  ·rename_i cK
   rw [hO]
   cases bY:φ id with
   | none=>exact h.apart i g hi
   | some g' =>
    simp only [List.mem_cons,not_or]
    exact ⟨fun e=>cK (h.inj i id g hi (by rw [bY,e])),h.apart i g hi⟩
theorem aH.vD (h:aH S0 w0 n O s a w φ) (hO:∀g∈O,w0.heap.size≤g∨S0.X g) (HK:w'.os=w.os) (ug:w'.tape=w.tape) (uh:w'.output=w.output) (dc:w.heap.size≤w'.heap.size) (hb:∀b,b<w.heap.size->b ∉ O->w'.heap[b]?=w.heap[b]?):aH S0 w0 n O s a w' φ:=by
 have hF:∀b,aJ S0 w φ O b->aJ S0 w' φ O b∧w'.heap[b]?=w.heap[b]?:=fun b h=>⟨⟨by have:=h.1;omega,h.2⟩,hb b h.1 h.2.1⟩
 have hL:∀id e m g,az s.H φ id=some (e,m,some g)->aS w' g=aS w g:=by
  intro id e m g hi
  obtain ⟨r,-,-,-,bY⟩:=aL hi
  unfold aS;rw [hb g (h.cL id g bY).2 (h.apart id g bY)]
 refine ⟨h.jF,h.jJ,⟨HK.trans h.cM.os,ug.trans h.cM.tape,uh.trans h.cM.output,Nat.le_trans h.cM.size dc,fun k hk hx=>?_,h.cM.g0,h.cM.gx⟩,fun i av hi=>(h.ct i av hi).mono (fun _ _ h=>h) hF hL,fun id r hr=>?_,h.only,h.inj,fun id g hg=>⟨(h.cL id g hg).1,Nat.lt_of_lt_of_le (h.cL id g hg).2 dc⟩,h.apart,h.new⟩
 ·rw [hb k (by have:=h.cM.size;omega) (fun hm=>by rcases hO k hm with h|h;omega;exact hx h)]
  exact h.cM.block k hk hx
 ·have aK:=h.rows id r hr
  unfold bJ at aK ⊢
  cases bY:φ id with
  | none=>rw [bY] at aK;exact aK
  | some g =>
   rw [bY] at aK
   obtain ⟨cur,te,fr,hg,hf,hl,mD,hc⟩:=aK
   refine ⟨cur,te,fr,(hb g (h.cL id g bY).2 (h.apart id g bY)).trans hg,hf,hl,mD,fun j u x hu hx=>?_⟩
   have bq:=hc j u x hu hx
   unfold a_ at bq ⊢
   cases hp:r.pure with
   | true=>rw [hp] at bq;exact bq.mono hF
   | false=>rw [hp] at bq;exact bq.mono (fun _ _ h=>h) hF hL
theorem aH.await (h:aH S0 w0 n O s a w φ) (g:Nat) (hg:w.heap.size≤g):aH S0 w0 n (g::O) s a w φ:=by
 have hF:∀b,aJ S0 w φ O b->aJ S0 w φ (g::O) b∧w.heap[b]?=w.heap[b]?:=fun b h=>⟨⟨h.1,by simp only [List.mem_cons,not_or];exact ⟨by have:=h.1;omega,h.2.1⟩,h.2.2⟩,rfl⟩
 have hL:∀id e m g,az s.H φ id=some (e,m,some g)->aS w g=aS w g:=fun _ _ _ _ _=>rfl
 refine ⟨h.jF,h.jJ,h.cM,fun i av hi=>(h.ct i av hi).mono (fun _ _ h=>h) hF hL,fun id r hr=>?_,h.only,h.inj,h.cL,fun id g' iW=>?_,h.new⟩
 ·have aK:=h.rows id r hr
  unfold bJ at aK ⊢
  cases bY:φ id with
  | none=>rw [bY] at aK;exact aK
  | some g =>
   rw [bY] at aK
   obtain ⟨cur,te,fr,hg,hf,hl,mD,hc⟩:=aK
   refine ⟨cur,te,fr,hg,hf,hl,mD,fun j u x hu hx=>?_⟩
   have bq:=hc j u x hu hx
   unfold a_ at bq ⊢
   cases hp:r.pure with
   | true=>rw [hp] at bq;exact bq.mono hF
   | false=>rw [hp] at bq;exact bq.mono (fun _ _ h=>h) hF hL
 ·simp only [List.mem_cons,not_or]
  exact ⟨by have:=(h.cL id g' iW).2;omega,h.apart id g' iW⟩
theorem qV {id g:Nat} (hid:φ id=none) (b:Nat):aJ S0 w φ (g::O) b↔aJ S0 w (fm φ id g) O b:=by
 unfold aJ fm
 constructor
 ·rintro ⟨h1,h2,h3,h4⟩
  simp only [List.mem_cons,not_or] at h2
  refine ⟨h1,h2.2,fun i hi=>?_,h4⟩
  split at hi
  ·injection hi with hi;exact h2.1 hi.symm
  ·exact h3 i hi
 ·rintro ⟨h1,h2,h3,h4⟩
  refine ⟨h1,?_,fun i hi=>?_,h4⟩
  ·simp only [List.mem_cons,not_or]
   exact ⟨fun e=>h3 id (by rw [if_pos rfl,e]),h2⟩
  ·by_cases e:i=id
   ·subst e;rw [hid] at hi;cases hi
   ·exact h3 i (by rw [if_neg e];exact hi)
theorem aH.wF {g id:Nat} {r:Row} (h:aH S0 w0 n (g::O) s a w φ) (Af:P5 S0 w0 id g) (N9:g<w.heap.size) (Pr:g ∉ O) (hid:look s.H id=none)
  (hr:bJ (az s.H φ) (aJ S0 w φ (g::O)) w (some g) r):aH S0 w0 n O ⟨s.F,(id,r)::s.H⟩ a w (fm φ id g):=by
 have bY:=h.only id hid
 have hF:∀b,aJ S0 w φ (g::O) b->aJ S0 w (fm φ id g) O b∧w.heap[b]?=w.heap[b]?:=fun b hb=>⟨(qV bY b).1 hb,rfl⟩
 have hI:∀i x,az s.H φ i=some x->az ((id,r)::s.H) (fm φ id g) i=some x:=by
  intro i x hi
  obtain ⟨e,m,b⟩:=x
  obtain ⟨q,hl,he,hm,hb⟩:=aL hi
  have cK:id≠i:=fun e=>by subst e;rw [hid] at hl;cases hl
  rw [bn (r:=q) (by rw [aB,if_neg cK,hl])]
  unfold fm;rw [if_neg (Ne.symm cK),he,hm,hb]
 have hL:∀id e m g,az s.H φ id=some (e,m,some g)->aS w g=aS w g:=fun _ _ _ _ _=>rfl
 have aK:∀b q,bJ (az s.H φ) (aJ S0 w φ (g::O)) w b q->bJ (az ((id,r)::s.H) (fm φ id g)) (aJ S0 w (fm φ id g) O) w b q:=by
  intro b q hq
  unfold bJ at hq ⊢
  cases b with
  | none=>exact hq
  | some g' =>
   obtain ⟨cur,te,fr,hg,hf,hl,mD,hc⟩:=hq
   refine ⟨cur,te,fr,hg,hf,hl,mD,fun j u x hu hx=>?_⟩
   have bq:=hc j u x hu hx
   unfold a_ at bq ⊢
   cases hp:q.pure with
   | true=>rw [hp] at bq;exact bq.mono hF
   | false=>rw [hp] at bq;exact bq.mono hI hF hL
 refine ⟨h.jF,h.jJ,h.cM,fun i av hi=>(h.ct i av hi).mono hI hF hL,fun i q hq=>?_,fun i hi=>?_,fun i j g' hi hj=>?_,fun i g' hi=>?_,fun i g' hi=>?_,h.new⟩
 ·rw [aB] at hq
  by_cases e:id=i
  ·rw [if_pos e] at hq;injection hq with hq;subst hq;subst e
   have:fm φ id g id=some g:=by unfold fm;rw [if_pos rfl]
   rw [this];exact aK _ _ hr
  ·rw [if_neg e] at hq
   have:fm φ id g i=φ i:=by unfold fm;rw [if_neg (Ne.symm e)]
   rw [this];exact aK _ _ (h.rows i q hq)
 ·rw [aB] at hi
  by_cases e:id=i
  ·rw [if_pos e] at hi;cases hi
  ·rw [if_neg e] at hi
   unfold fm;rw [if_neg (Ne.symm e)];exact h.only i hi
 ·have cK:∀i,φ i=some g'->g'≠g:=fun i hi e=>h.apart i g' hi (by rw [e];simp)
  unfold fm at hi hj
  split at hi<;>split at hj
  ·omega
  ·injection hi with hi;exact absurd hi.symm (cK j hj)
  ·injection hj with hj;exact absurd hj.symm (cK i hi)
  ·exact h.inj i j g' hi hj
 ·unfold fm at hi
  split at hi
  ·rename_i e;injection hi with hi;subst hi;exact ⟨e ▸ Af,N9⟩
  ·exact h.cL i g' hi
 ·unfold fm at hi
  split at hi
  ·injection hi with hi;subst hi;exact Pr
  ·exact fun hm=>h.apart i g' hi (by simp [hm])
theorem aH.rr (h:aH S0 w0 n O s a w φ) {id:Nat} {r:Row} (hid:look s.H id=none) (hr:r.cells= []):aH S0 w0 n O ⟨s.F,(id,r)::s.H⟩ a w φ:=by
 have bY:=h.only id hid
 have hI:∀i x,az s.H φ i=some x->az ((id,r)::s.H) φ i=some x:=by
  intro i x hi
  obtain ⟨e,m,b⟩:=x
  obtain ⟨q,hl,he,hm,hb⟩:=aL hi
  have cK:id≠i:=fun e=>by subst e;rw [hid] at hl;cases hl
  rw [bn (r:=q) (by rw [aB,if_neg cK,hl]),he,hm,hb]
 have hF:∀b,aJ S0 w φ O b->aJ S0 w φ O b∧w.heap[b]?=w.heap[b]?:=fun b hb=>⟨hb,rfl⟩
 have hL:∀id e m g,az s.H φ id=some (e,m,some g)->aS w g=aS w g:=fun _ _ _ _ _=>rfl
 refine ⟨h.jF,h.jJ,h.cM,fun i av hi=>(h.ct i av hi).mono hI hF hL,fun i q hq=>?_,fun i hi=>?_,h.inj,h.cL,h.apart,h.new⟩
 ·rw [aB] at hq
  by_cases e:id=i
  ·rw [if_pos e] at hq;injection hq with hq;subst hq;subst e
   rw [bY];exact hr
  ·rw [if_neg e] at hq
   have gB:=h.rows i q hq
   unfold bJ at gB ⊢
   cases hb:φ i with
   | none=>rw [hb] at gB;exact gB
   | some g' =>
    rw [hb] at gB
    obtain ⟨cur,te,fr,hg,hf,hl,mD,hc⟩:=gB
    refine ⟨cur,te,fr,hg,hf,hl,mD,fun j u x hu hx=>?_⟩
    have bq:=hc j u x hu hx
    unfold a_ at bq ⊢
    cases hp:q.pure with
    | true=>rw [hp] at bq;exact bq
    | false=>rw [hp] at bq;exact bq.mono hI hF hL
 ·rw [aB] at hi
  by_cases e:id=i
  ·rw [if_pos e] at hi;cases hi
  ·rw [if_neg e] at hi;exact h.only i hi
theorem aH.uA {g:Nat} (h:aH S0 w0 n (g::O) s a w φ):aH S0 w0 n O s a w φ:=by
 have hF:∀b,aJ S0 w φ (g::O) b->aJ S0 w φ O b∧w.heap[b]?=w.heap[b]?:=fun b h=>⟨⟨h.1,fun hm=>h.2.1 (by simp [hm]),h.2.2⟩,rfl⟩
 have hL:∀id e m g,az s.H φ id=some (e,m,some g)->aS w g=aS w g:=fun _ _ _ _ _=>rfl
 refine ⟨h.jF,h.jJ,h.cM,fun i av hi=>(h.ct i av hi).mono (fun _ _ h=>h) hF hL,fun id r hr=>?_,h.only,h.inj,h.cL,fun id g' iW hm=>h.apart id g' iW (by simp [hm]),h.new⟩
 have aK:=h.rows id r hr
 unfold bJ at aK ⊢
 cases bY:φ id with
 | none=>rw [bY] at aK;exact aK
 | some g =>
  rw [bY] at aK
  obtain ⟨cur,te,fr,hg,hf,hl,mD,hc⟩:=aK
  refine ⟨cur,te,fr,hg,hf,hl,mD,fun j u x hu hx=>?_⟩
  have bq:=hc j u x hu hx
  unfold a_ at bq ⊢
  cases hp:r.pure with
  | true=>rw [hp] at bq;exact bq.mono hF
  | false=>rw [hp] at bq;exact bq.mono (fun _ _ h=>h) hF hL
theorem aH.Lm (h:aH S0 w0 n O s a w φ) {id:Nat} {r:Row} (hr:look s.H id=some r) (hp:r.pure=true):aH S0 w0 n O (iR id r s) a w (erase φ id):=by
 have hF:∀b,aJ S0 w φ O b->aJ S0 w (erase φ id) O b:=by
  intro b ⟨h1,h2,h3,h4⟩
  refine ⟨h1,h2,fun i hi=>?_,h4⟩
  unfold erase at hi
  split at hi
  ·cases hi
  ·exact h3 i hi
 have Na:∀b,aJ S0 w φ O b->aJ S0 w (erase φ id) O b∧w.heap[b]?=w.heap[b]?:=fun b hb=>⟨hF b hb,rfl⟩
 have aK:=h.rows id r hr
 have hI:=bn (φ:=φ) hr
 have ok:jN (az s.H φ) (az (iR id r s).H (erase φ id)) (aJ S0 w φ O) (aJ S0 w (erase φ id) O) w (mA id r):=by
  refine ⟨fun v x hx h1 h2=>?_,fun _=>rfl,fun _=>rfl⟩
  have QA:∀g,φ id=some g->aJ S0 w (erase φ id) O g:=fun g hg=>⟨(h.cL id g hg).2,h.apart id g hg,fun i hi=>by
   unfold erase at hi
   split at hi
   ·cases hi
   ·rename_i cK;exact cK (h.inj i id g hi hg),h.new g (h.cL id g hg).1.2⟩
  have Ah:∀g,φ id=some g-> ∃cur te fr,w.heap[g]?=some (.cells cur te fr)∧r.cells.length≤cur.size∧ ∀(j:Nat) u x,cur[j]?=some u->r.cells[j]?=some x->cp (aJ S0 w (erase φ id) O) w u x:=by
   intro g hg
   have HG:=aK
   unfold bJ at HG
   rw [hg] at HG
   obtain ⟨cur,te,fr,iW,hf,hl,-,hc⟩:=HG
   refine ⟨cur,te,fr,iW,hl,fun j u x hu hx=>?_⟩
   have:=hc j u x hu hx
   unfold a_ at this;rw [hp] at this
   exact this.mono Na
  have Dg:∀(l:List AV) (k j:Nat) (x:AV),(l.take k)[j]?=some x->l[j]?=some x:=by
   intro l k j x hx
   rw [List.getElem?_take] at hx
   split at hx
   ·exact hx
   ·cases hx
  cases hx with
  | rep h=>cases h with
   | val v=>exact .rep (.val v)
   | nil=>exact .rep .nil
   | agg vs cs _ _=>exact absurd rfl (h1 cs)
   | br vs cs _ _=>exact absurd rfl (h2 cs)
   | arr vs cs hl h=>exact .rep ((cp.arr vs cs hl h).mono Na)
   | sl A n c e us row hl hn hc hm ha h=>exact .rep ((cp.sl A n c e us row hl hn hc hm ha h).mono Na)
   | o8 A n e us row hl hn hm ha h=>exact .rep ((cp.o8 A n e us row hl hn hm ha h).mono Na)
   | ptr ad us row off hl hs ha h=>exact .rep ((cp.ptr ad us row off hl hs ha h).mono Na)
   | lu f vs cs hl h=>exact .rep ((cp.lu f vs cs hl h).mono Na)
  | agg vs cs _ _=>exact absurd rfl (h1 cs)
  | br vs cs _ _=>exact absurd rfl (h2 cs)
  | ref i e m g l c hi hm hc hx hs =>
   rcases bD i id with ⟨hb,e'⟩|⟨hb,e'⟩<;>simp only [mA,hb]
   ·subst e'
    rw [hI] at hi;injection hi with hi;injection hi with he hi;injection hi with LB hg
    obtain ⟨cur,te,fr,iW,hl,kR⟩:=Ah g hg
    exact .rep (eH (r:=r) iW (QA g hg) r.cells 0 ah (by rw [LB,he];exact hm) hc hx _ (fun _=>rfl) (fun j u x hu hx=>kR j u x (by simpa using hu) hx))
   ·exact .ref i _ m g l c (ke id i r _ e' hi) hm hc hx hs
  | cw i e hi =>
   rcases bD i id with ⟨hb,e'⟩|⟨hb,e'⟩<;>simp only [mA,hb]
   ·subst e'
    rw [hI] at hi;injection hi with hi;injection hi with he hi;injection hi with LB hg
    have h0:r.cells= []:=List.length_eq_zero_iff.1 LB
    rw [h0]
    exact .rep (.sl none 0 0 _ [] [] rfl (by simp) (by simp) (by simp) (fun h=>by simp at h) (fun j u x hu=>by simp at hu))
   ·exact .cw i _ (ke id i r _ e' hi)
  | pre i k e m g l c hi hn hm hc hx hs =>
   rcases bD i id with ⟨hb,e'⟩|⟨hb,e'⟩<;>simp only [mA,hb]
   ·subst e'
    rw [hI] at hi;injection hi with hi;injection hi with he hi;injection hi with LB hg
    obtain ⟨cur,te,fr,iW,hl,kR⟩:=Ah g hg
    exact .rep (eH (r:=r) iW (QA g hg) (r.cells.take k) 0 (by rw [List.length_take];omega) (by rw [List.length_take,he,←hn];omega) hc hx _ (fun _=>rfl) (fun j u x hu hx=>kR j u x (by simpa using hu) (Dg _ _ _ _ hx)))
   ·exact .pre i k _ m g l c (ke id i r _ e' hi) hn hm hc hx hs
  | df i e hi =>
   rcases bD i id with ⟨hb,e'⟩|⟨hb,e'⟩<;>simp only [mA,hb]
   ·simp only [List.take_zero]
    exact .rep (.sl none 0 0 _ [] [] rfl (by simp) (by simp) (by simp) (fun h=>by simp at h) (fun j u x hu=>by simp at hu))
   ·exact .df i _ (ke id i r _ e' hi)
  | jg i off k e m l c g A hi hn hm hc hx ha =>
   rcases bD i id with ⟨hb,e'⟩|⟨hb,e'⟩<;>simp only [mA,hb]
   ·subst e'
    rw [hI] at hi;injection hi with hi;injection hi with he hi;injection hi with LB hg
    have hlen:((r.cells.drop off).take k).length=k:=by rw [List.length_take,List.length_drop];omega
    by_cases hk:0<k
    ·obtain ⟨b,kE,hA⟩:=ha hk
     rw [kE] at hg
     obtain ⟨cur,te,fr,iW,hl,kR⟩:=Ah b hg
     exact .rep (eH (r:=r) iW (QA b hg) ((r.cells.drop off).take k) off (by rw [hlen];omega) (by rw [hlen,he,←hn]) hc hx _ (fun _=>hA) (fun j u x hu hx=>kR (off+j) u x hu (by have:=Dg _ _ _ _ hx;rw [List.getElem?_drop] at this;exact this)))
    ·have h0:(r.cells.drop off).take k= []:=List.length_eq_zero_iff.1 ah
     rw [h0]
     exact .rep (.sl A l c r.e [] [] rfl (by rw [he];simp;omega) hc hx (fun h=>by simp at h) (fun j u x hu=>by simp at hu))
   ·exact .jg i off k _ m l c g A (ke id i r _ e' hi) hn hm hc hx ha
  | addr i off e m g hi =>
   rcases bD i id with ⟨hb,e'⟩|⟨hb,e'⟩<;>simp only [mA,hb]
   ·subst e'
    rw [hI] at hi;injection hi with hi;injection hi with he hi;injection hi with LB hg
    obtain ⟨cur,te,fr,iW,hl,kR⟩:=Ah g hg
    exact .rep (oH iW (QA g hg) r.cells hl kR)
   ·exact .addr i off _ m g (ke id i r _ e' hi)
  | dead v=>exact .dead _
 refine ⟨h.jF,h.jJ,h.cM,fun i av hi=>?_,fun i q hq=>?_,fun i hi=>?_,fun i j g hi hj=>?_,fun i g hi=>?_,fun i g hi=>?_,h.new⟩
 ·unfold iR at hi
  rw [b7] at hi
  cases hl:look s.F i with
  | none=>rw [hl] at hi;cases hi
  | some x =>
   rw [hl] at hi;injection hi with hi;subst hi
   exact ok.two (h.ct i x hl) (fun _=>rfl) (yE id r) (fun _=>rfl) (yD id r)
 ·have gZ:=hq
  unfold iR at gZ
  rw [b7,bC] at gZ
  by_cases cK:id=i
  ·rw [if_pos cK] at gZ;cases gZ
  ·rw [if_neg cK] at gZ
   cases hl:look s.H i with
   | none=>rw [hl] at gZ;cases gZ
   | some p =>
    rw [hl] at gZ;injection gZ with gZ;subst gZ
    have gB:=h.rows i p hl
    have BS:erase φ id i=φ i:=by unfold erase;rw [if_neg (Ne.symm cK)]
    rw [BS]
    unfold bJ at gB ⊢
    cases hb:φ i with
    | none =>
     rw [hb] at gB
     have:=(gh id r p).2.1
     simp only at gB ⊢
     rw [gB] at this;exact List.length_eq_zero_iff.1 this
    | some g =>
     rw [hb] at gB
     obtain ⟨cur,te,fr,hg,hf,hlen,mD,hc⟩:=gB
     refine ⟨cur,te,fr,hg,hf,by rw [(gh id r p).2.1];exact hlen,by rw [(gh id r p).2.1,(gh id r p).2.2.2];exact mD,fun j u x hu hx=>?_⟩
     rw [(gh id r p).2.2.1]
     unfold a_
     cases DP:p.pure with
     | true =>
      have:gp id r p=p:=by unfold gp;rw [DP]
      rw [this] at hx
      have:=hc j u x hu hx
      unfold a_ at this;rw [DP] at this
      exact this.mono Na
     | false =>
      have:(gp id r p).cells=p.cells.map (mA id r):=by unfold gp;rw [DP]
      rw [this,List.getElem?_map] at hx
      cases hj:p.cells[j]? with
      | none=>rw [hj] at hx;cases hx
      | some y =>
       rw [hj] at hx;injection hx with hx;subst hx
       have:=hc j u y hu hj
       unfold a_ at this;rw [DP] at this
       exact ok.all this
 ·unfold iR at hi
  rw [b7,bC] at hi
  unfold erase
  by_cases cK:id=i
  ·rw [if_pos cK.symm]
  ·rw [if_neg cK] at hi
   rw [if_neg (Ne.symm cK)]
   refine h.only i ?_
   cases hl:look s.H i with
   | none=>rfl
   | some r=>rw [hl] at hi;cases hi
 ·unfold erase at hi hj
  split at hi
  ·cases hi
  ·split at hj
   ·cases hj
   ·exact h.inj i j g hi hj
 ·unfold erase at hi
  split at hi
  ·cases hi
  ·exact h.cL i g hi
 ·unfold erase at hi
  split at hi
  ·cases hi
  ·exact h.apart i g hi
end
def bu:List Prop->Prop
 | []=>True
 | p::l=>p∧bu l
structure Hint where
 av:Option AV:=none
 k:Nat:=0
 m:Nat:=0
 b:Bool:=true
 g:Bool:=true
 ln:List (Nat×Nat):=[]
 ho:List (Nat×Row):=[]
def jW {α:Type} (P:Program):Sem α->Option α
 | .pure a=>some a
 | .program k=>jW P (k P)
 | .mark _ k=>jW P k
 | _=>none
theorem fw {α:Type} {P:Program} (w:World):∀ {x:Sem α} {a:α},jW P x=some a->x.run P w= .ok a w
 | .pure a,_,h=>by injection h with h;subst h;rfl
 | .program k,a,h=>by show (k P).run P w=_;exact fw w h
 | .mark _ k,a,h=>by show k.run P w=_;exact fw w h
 | .load ..,_,h| .store ..,_,h| .new ..,_,h| .shape ..,_,h| .freeze ..,_,h| .frozen ..,_,h| .getObj ..,_,h| .setObj ..,_,h| .choose ..,_,h| .sys ..,_,h| .halt ..,_,h=>by cases h
def bx:Value->AV
 | .slice none 0 0=>.nil
 | v=>.val v
def xY:Value->AV
 | .agg cs=>.agg (cs.toList.map bx)
 | v=>bx v
def bj (s:AS):Operand->AV
 | .tmp t=>jI s t
 | .const v=>xY v
 | .global _=>.dead
 | .func f=>.val (.func (.func f) #[] #[])
section
variable {I:Info} {S:Nat->Prop} {w:World}
theorem fE (v:Value):cp S w v (bx v):=by
 unfold bx
 split
 ·exact .nil
 ·exact .val _
theorem EH (v:Value):cp S w v (xY v):=by
 unfold xY
 split
 ·rename_i cs
  have:=cp.agg (S:=S) (w:=w) cs.toList (cs.toList.map bx) (by simp) (fun j v c hv hc=>by
   rw [List.getElem?_map,hv] at hc
   injection hc with hc;subst hc;exact fE v)
  simpa using this
 ·exact fE _
end
section
variable {S0:bf} {w0 w:World} {n:Nat} {O:List Nat} {s:AS} {a:Act} {φ:Nat->Option Nat} {P:Program}
theorem aH.bj (h:aH S0 w0 n O s a w φ) (x:Operand):Den (az s.H φ) (aJ S0 w φ O) w (a.eval x) (bj s x):=by
 cases x with
 | tmp t=>exact h.get t
 | const v=>exact .rep (EH v)
 | global g=>exact .dead _
 | func f=>exact .rep (.val _)
end
theorem bE {I:Info} {S:Nat->Prop} {w:World} {v u:Value} (h:Den I S w v (.val u)):v=u:=by
 cases h with|rep h=>cases h;rfl
def cS (P:Program) (s:AS) (o:Oper) (x:AV) (C:List Prop):Prop :=
 bu C-> ∀S0 w0 n O a w φ,aH S0 w0 n O s a w φ-> ∃v,(execOp a.eval o).run P w= .ok (.value v) w∧Den (az s.H φ) (aJ S0 w φ O) w v x
def fin (h:Hint) (r:AV×List Prop):AV×List Prop:=match h.av with|none=>r|some y=>(y,(r.1=y)::r.2)
theorem gm {P:Program} {s:AS} {o:Oper} {h:Hint} {r:AV×List Prop} (hr:cS P s o r.1 r.2):cS P s o (fin h r).1 (fin h r).2:=by
 unfold fin
 split
 ·exact hr
 ·rename_i y _
  intro hC
  obtain ⟨rfl,hC⟩:=hC
  exact hr hC
def dN (P:Program) (t:TypeId):Option Nat:=(P.info? t).map (·.size)
def cy (P:Program) (t:TypeId):Bool:=match P.underlying t with|some (.struct _)|some (.array _ _)=>true|_=>false
def Hv (P:Program) (t:TypeId):Bool:=match P.underlying t with|some (.array _ _)=>true|_=>false
def TH (P:Program) (t:TypeId):Option TypeId:=match P.underlying t with|some (.slice e)=>some e|_=>none
section
variable {P:Program} {w:World}
theorem run_sizeOf {t:TypeId} {k:Nat} (h:dN P t=some k):(sizeOf t).run P w= .ok k w:=by
 unfold dN at h
 cases hi:P.info? t with
 | none=>rw [hi] at h;cases h
 | some i=>rw [hi] at h;injection h with h;simp [sizeOf,typeInfo,hi,h]
theorem ie {t:TypeId} (hu:∃d,P.underlying t=some d):(isAgg t).run P w= .ok (cy P t) w:=by
 obtain ⟨d,hd⟩:=hu
 unfold isAgg cy
 simp only [Sem.run_bind,run_underlying hd,Result.andThen_ok,hd]
 cases d<;>rfl
end
def IA (P:Program) (op:BinOp) (t:TypeId) (x y:Operand) (u v:Value):Option (AV×List Prop) :=
 match op,u,v with
 | .quo,.int k a,.int k' b=>if k=k' then some (.val (.int k (k.wrap (a.tdiv b))),[b≠0]) else none
 | .rem,.int k a,.int k' b=>if k=k' then some (.val (.int k (a.tmod b)),[b≠0]) else none
 | .shl,.int k a,.int _ b=>some (.val (.int k (k.wrap (a*2^min b.toNat k.bits))),[0≤b])
 | .shr,.int k a,.int _ b=>some (.val (.int k (a.fdiv (2^min b.toNat k.bits))),[0≤b])
 | .add,.string a,.string b=>some (.val (.string (a++b)),[a.size+b.size≤9223372036854775807])
 | op,u,v=>match jW P (do eqGuard op t x y u v;binOp op t u v) with|some z=>some (.val z,[])|none=>none
theorem Iz {P:Program} {s:AS} {o:Oper} {op:BinOp} {t t':TypeId} {x y:Operand} {u v:Value} {r:AV×List Prop} (ho:o.op= .binOp op t x y t') (hx:bj s x= .val u) (hy:bj s y= .val v) (h:IA P op t x y u v=some r):cS P s o r.1 r.2:=by
 intro hC S0 w0 n O a w φ hs
 have ex:a.eval x=u:=bE (hx ▸ hs.bj x)
 have ey:a.eval y=v:=bE (hy ▸ hs.bj y)
 unfold execOp
 simp only [ho,ex,ey]
 unfold IA at h
 split at h
 ·split at h
  ·rename_i hk
   injection h with h;subst h;subst hk
   have hb:=hC.1
   refine ⟨_,?_,.rep (.val _)⟩
   simp [eqGuard,binOp,Op.intDiv,hb]
  ·cases h
 ·split at h
  ·rename_i hk
   injection h with h;subst h;subst hk
   have hb:=hC.1
   refine ⟨_,?_,.rep (.val _)⟩
   simp [eqGuard,binOp,Op.intDiv,hb]
  ·cases h
 ·injection h with h;subst h
  have hb:¬(_:Int)<0:=Int.not_lt.2 hC.1
  refine ⟨_,?_,.rep (.val _)⟩
  simp [eqGuard,binOp,Op.shift,hb]
 ·injection h with h;subst h
  have hb:¬(_:Int)<0:=Int.not_lt.2 hC.1
  refine ⟨_,?_,.rep (.val _)⟩
  simp [eqGuard,binOp,Op.shift,hb]
 ·injection h with h;subst h
  have hb:¬(IntKind.i64.max<((_:Nat):Int)):=fun q=>by
   have h1:=hC.1
   have h2:IntKind.i64.max=9223372036854775807:=rfl
   rw [h2] at q
   exact absurd (Int.ofNat_le.2 h1) (Int.not_le.2 q)
  refine ⟨_,?_,.rep (.val _)⟩
  simp only [eqGuard,binOp,Op.stringOp,gt_iff_lt,if_neg hb]
  simp
 ·split at h
  ·rename_i z hz
   injection h with h;subst h
   refine ⟨z,?_,.rep (.val _)⟩
   rw [Sem.run_bind,fw w hz];rfl
  ·cases h
def Ni (P:Program) (op:UnOp) (u:Value):Option (AV×List Prop):=match jW P (Op.unary op u) with|some z=>some (.val z,[])|none=>none
theorem KT {P:Program} {s:AS} {o:Oper} {op:UnOp} {t:TypeId} {x:Operand} {u:Value} {r:AV×List Prop} (ho:o.op= .unOp op t x) (hx:bj s x= .val u) (h:Ni P op u=some r):cS P s o r.1 r.2:=by
 intro hC S0 w0 n O a w φ hs
 have ex:a.eval x=u:=bE (hx ▸ hs.bj x)
 unfold execOp
 simp only [ho,ex]
 unfold Ni at h
 split at h
 ·rename_i z hz
  injection h with h;subst h
  refine ⟨z,?_,.rep (.val _)⟩
  rw [Sem.run_bind,fw w hz];rfl
 ·cases h
def ju (s:AS):AV->Option AV
 | .ref id=>match look s.H id with|some r=>(match r.pure with|true=>some (.sl r.e r.cells)|false=>none)|none=>none
 | .pre id n=>match look s.H id with|some r=>(match r.pure with|true=>some (.sl r.e (r.cells.take n))|false=>none)|none=>none
 | .jg id o n=>match look s.H id with|some r=>(match r.pure with|true=>some (.sl r.e ((r.cells.drop o).take n))|false=>none)|none=>none
 | .addr id o=>match look s.H id with|some r=>(match r.pure with|true=>some (.ptr r.cells o)|false=>none)|none=>none
 | .agg _=>none
 | .br _=>none
 | .dead=>none
 | .own _ _=>none
 | .box _=>none
 | x=>some x
def oc (s:AS):List AV->Option (List AV)
 | []=>some []
 | x::l=>match ju s x,oc s l with|some y,some m=>some (y::m)|_,_=>none
def view (s:AS):AV->Option AV
 | .agg cs=>match oc s cs with|some l=>some (.agg l)|none=>none
 | x=>ju s x
section
variable {S0:bf} {w0 w:World} {n:Nat} {O:List Nat} {s:AS} {a:Act} {φ:Nat->Option Nat} {P:Program}
theorem ku (h:aH S0 w0 n O s a w φ) {id:Nat} {r:Row} {g:Nat} (hr:look s.H id=some r) (hp:r.pure=true) (hg:φ id=some g) :
  ∃cur te fr,w.heap[g]?=some (.cells cur te fr)∧(∀j,j<cur.size-> ¬(fr.1≤j∧j<fr.2))∧r.cells.length≤cur.size∧ ∀(j:Nat) u x,cur[j]?=some u->r.cells[j]?=some x->cp (aJ S0 w φ O) w u x:=by
 have aK:=h.rows id r hr
 unfold bJ at aK
 rw [hg] at aK
 obtain ⟨cur,te,fr,iW,hf,hl,-,hc⟩:=aK
 refine ⟨cur,te,fr,iW,hf,hl,fun j u x hu hx=>?_⟩
 have:=hc j u x hu hx
 unfold a_ at this;rw [hp] at this
 exact this
theorem pO (b:Nat) (h:aJ S0 w φ O b):b<w.heap.size∧w.heap[b]?=w.heap[b]?:=⟨h.1,rfl⟩
theorem bT {α:Type} (l:List α) (k j:Nat) (x:α) (hx:(l.take k)[j]?=some x):l[j]?=some x:=by
 rw [List.getElem?_take] at hx
 split at hx
 ·exact hx
 ·cases hx
theorem iD {S:Nat->Prop} (A:Option Addr) (l c e:Nat) (hn:0=e*l) (hc:l≤c) (hm:c≤maxLen):cp S w (.slice A l c) (.sl e []) :=
 .sl A l c e [] [] rfl hn hc hm (fun h=>by simp at h) (fun j u x hu=>by simp at hu)
theorem yx (h:aH S0 w0 n O s a w φ) {v:Value} {x y:AV} (hx:Den (az s.H φ) (aJ S0 w φ O) w v x) (hv:ju s x=some y):cp (fun b=>b<w.heap.size) w v y:=by
 cases hx with
 | rep h =>
  have:=h.mono (pO (w:=w) (φ:=φ) (O:=O))
  cases h<;>simp [ju] at hv<;>subst hv<;>exact this
 | agg vs cs _ _=>simp [ju] at hv
 | br vs cs _ _=>simp [ju] at hv
 | dead v=>simp [ju] at hv
 | ref id e m g l c hi hm hc hx hs =>
  obtain ⟨r,hr,he,nj,bY⟩:=aL hi
  simp only [ju,hr] at hv
  cases hp:r.pure with
  | false=>rw [hp] at hv;cases hv
  | true =>
   rw [hp] at hv;injection hv with hv;subst hv
   obtain ⟨cur,te,fr,hg,hf,hl,kR⟩:=ku h hr hp bY
   exact eH (r:=r) hg (h.cL id g bY).2 r.cells 0 ah (by rw [nj,he];exact hm) hc hx _ (fun _=>rfl) (fun j u x hu hx=>(kR j u x (by simpa using hu) hx).mono pO)
 | cw id e hi =>
  obtain ⟨r,hr,he,nj,bY⟩:=aL hi
  simp only [ju,hr] at hv
  cases hp:r.pure with
  | false=>rw [hp] at hv;cases hv
  | true =>
   rw [hp] at hv;injection hv with hv;subst hv
   rw [List.length_eq_zero_iff.1 nj]
   exact iD _ _ _ _ (by simp) (by simp) (by simp)
 | pre id k e m g l c hi hn hm hc hx hs =>
  obtain ⟨r,hr,he,nj,bY⟩:=aL hi
  simp only [ju,hr] at hv
  cases hp:r.pure with
  | false=>rw [hp] at hv;cases hv
  | true =>
   rw [hp] at hv;injection hv with hv;subst hv
   obtain ⟨cur,te,fr,hg,hf,hl,kR⟩:=ku h hr hp bY
   exact eH (r:=r) hg (h.cL id g bY).2 (r.cells.take k) 0 (by rw [List.length_take];omega) (by rw [List.length_take,he,←hn];omega) hc hx _ (fun _=>rfl) (fun j u x hu hx=>(kR j u x (by simpa using hu) (bT _ _ _ _ hx)).mono pO)
 | df id e hi =>
  obtain ⟨r,hr,he,nj,bY⟩:=aL hi
  simp only [ju,hr] at hv
  cases hp:r.pure with
  | false=>rw [hp] at hv;cases hv
  | true =>
   rw [hp] at hv;injection hv with hv;subst hv
   simp only [List.take_zero]
   exact iD _ _ _ _ (by simp) (by simp) (by simp)
 | jg id off k e m l c g A hi hn hm hc hx ha =>
  obtain ⟨r,hr,he,nj,bY⟩:=aL hi
  simp only [ju,hr] at hv
  cases hp:r.pure with
  | false=>rw [hp] at hv;cases hv
  | true =>
   rw [hp] at hv;injection hv with hv;subst hv
   have hlen:((r.cells.drop off).take k).length=k:=by rw [List.length_take,List.length_drop];omega
   by_cases hk:0<k
   ·obtain ⟨b,hb,hA⟩:=ha hk
    rw [hb] at bY
    obtain ⟨cur,te,fr,hg,hf,hl,kR⟩:=ku h hr hp bY
    exact eH (r:=r) hg (h.cL id b bY).2 ((r.cells.drop off).take k) off (by rw [hlen];omega) (by rw [hlen,he,←hn]) hc hx _ (fun _=>hA) (fun j u x hu hx=>(kR (off+j) u x hu (by have:=bT _ _ _ _ hx;rw [List.getElem?_drop] at this;exact this)).mono pO)
   ·rw [show (r.cells.drop off).take k= [] from List.length_eq_zero_iff.1 ah]
    exact iD _ _ _ _ (by rw [he];omega) hc hx
 | addr id off e m g hi =>
  obtain ⟨r,hr,he,nj,bY⟩:=aL hi
  simp only [ju,hr] at hv
  cases hp:r.pure with
  | false=>rw [hp] at hv;cases hv
  | true =>
   rw [hp] at hv;injection hv with hv;subst hv
   obtain ⟨cur,te,fr,hg,hf,hl,kR⟩:=ku h hr hp bY
   exact oH hg (h.cL id g bY).2 r.cells hl (fun j u x hu hx=>(kR j u x hu hx).mono pO)
theorem yw (h:aH S0 w0 n O s a w φ):∀(cs l:List AV) (vs:List Value),oc s cs=some l->vs.length=cs.length->(∀(j:Nat) v c,vs[j]?=some v->cs[j]?=some c->Den (az s.H φ) (aJ S0 w φ O) w v c) ->
  l.length=cs.length∧ ∀(j:Nat) v c,vs[j]?=some v->l[j]?=some c->cp (fun b=>b<w.heap.size) w v c
 | [],l,vs,hv,hl,hd=>by simp [oc] at hv;subst hv;exact ⟨rfl,fun j v c _ hc=>by simp at hc⟩
 | x::cs,l,[],hv,hl,hd=>by simp at hl
 | x::cs,l,v0::vs,hv,hl,hd=>by
  simp only [oc] at hv
  cases h1:ju s x with
  | none=>rw [h1] at hv;cases hv
  | some y =>
   cases h2:oc s cs with
   | none=>rw [h1,h2] at hv;cases hv
   | some m =>
    rw [h1,h2] at hv;injection hv with hv;subst hv
    obtain ⟨e1,e2⟩:=yw h cs m vs h2 (by simpa using hl) fun j v c hv hc=>hd (j+1) v c (by simpa using hv) (by simpa using hc)
    refine ⟨by simp [e1],fun j v c hv hc=>?_⟩
    cases j with
    | zero=>simp at hv hc;subst hv;subst hc;exact yx h (hd 0 _ _ rfl rfl) h1
    | succ j=>exact e2 j v c (by simpa using hv) (by simpa using hc)
theorem wM (h:aH S0 w0 n O s a w φ) {v:Value} {x y:AV} (hx:Den (az s.H φ) (aJ S0 w φ O) w v x) (hv:view s x=some y):cp (fun b=>b<w.heap.size) w v y:=by
 by_cases hc:∃cs,x= .agg cs
 ·obtain ⟨cs,rfl⟩:=hc
  obtain ⟨vs,rfl,hl,hd⟩:=j8 hx
  simp only [view] at hv
  cases h1:oc s cs with
  | none=>rw [h1] at hv;cases hv
  | some l =>
   rw [h1] at hv;injection hv with hv;subst hv
   obtain ⟨e1,e2⟩:=yw h cs l vs h1 hl hd
   exact .agg vs l ah e2
 ·have:view s x=ju s x:=by
   cases x with
   | agg cs=>exact absurd ⟨cs,rfl⟩ hc
   | _=>rfl
  rw [this] at hv
  exact yx h hx hv
end
def ag (bs:List UInt8):List AV:=bs.map fun c=>.val (.int .u8 (bv c))
def aj (l:List UInt64):List AV:=l.map fun c=>.val (.int .u64 (wv c))
def ax (l:List Int):List AV:=l.map fun c=>.val (.int .i64 c)
theorem aA (l:List UInt8):(ag l).length=l.length:=by simp [ag]
theorem aD (l:List UInt64):(aj l).length=l.length:=by simp [aj]
theorem kb (l:List Int):(ax l).length=l.length:=by simp [ax]
theorem vR {S:Nat->Prop} {w:World} {v:Value} {bs:List UInt8} (h:cp S w v (.sl 1 (ag bs))) (hS:∀b,S b->b<w.heap.size):iP w v (r6 bs):=by
 cases h with
 | sl A n c e us row hl hn hc hm ha h =>
  have E2:us=r6 bs:=by
   apply List.ext_getElem?
   intro j
   cases hu:us[j]? with
   | none =>
    have:us.length≤j:=List.getElem?_eq_none_iff.1 hu
    rw [List.getElem?_eq_none (by rw [fY];rw [aA] at hl;omega)]
   | some u =>
    have hj:j<bs.length:=by have:=(List.getElem?_eq_some_iff.1 hu).1;rw [hl,aA] at this;exact this
    have hx:(ag bs)[j]?=some (.val (.int .u8 (bv bs[j]))):=by simp [ag,hj]
    have:=h j u _ hu hx
    cases this
    simp [r6,hj]
  subst E2
  rw [aA] at hn ha
  have sf:bs.length=n:=ah
  subst sf
  refine ⟨A,c,by rw [fY],by rw [fY];exact hc,hm,by rw [fY],fun h0=>?_⟩
  rw [fY] at h0
  obtain ⟨ad,e,hs,bq⟩:=ha h0
  exact ⟨ad,e,hS _ hs,bq⟩
def Ct (P:Program) (s:AS) (src dst:TypeId) (x:AV) (h:Hint):Option (AV×List Prop) :=
 match x with
 | .val u=>(match jW P (convert src dst u) with|some z=>some (fin h (.val z,[]))|none=>none)
 | x =>
  match P.underlying src,P.underlying dst,view s x,h.av with
  | some (.slice e),some .string,some (.sl 1 row),some (.val (.string b)) =>
   (match P.underlying e with|some (.int .u8)=>some (.val (.string b),[row=ag b.data.toList])|_=>none)
  | _,_,_,_=>none
theorem Fv {P:Program} {s:AS} {o:Oper} {src dst:TypeId} {x:Operand} {h:Hint} {r:AV×List Prop} (ho:o.op= .convert src dst x) (hr:Ct P s src dst (bj s x) h=some r):cS P s o r.1 r.2:=by
 unfold Ct at hr
 split at hr
 ·rename_i u hx
  split at hr
  ·rename_i z hz
   injection hr with hr;subst hr
   apply gm
   intro hC S0 w0 n O a w φ hs
   have ex:a.eval x=u:=bE (hx ▸ hs.bj x)
   unfold execOp
   simp only [ho,ex]
   refine ⟨z,?_,.rep (.val _)⟩
   rw [Sem.run_bind,fw w hz];rfl
  ·cases hr
 ·split at hr
  ·rename_i e row b h1 h2 h3 h4
   split at hr
   ·rename_i h5
    injection hr with hr;subst hr
    intro hC S0 w0 n O a w φ hs
    have hv:=wM hs (hs.bj x) h3
    rw [hC.1] at hv
    have bZ:=ve (P:=P) (vR hv (fun _ h=>h)) src dst e h1 h5 h2
    unfold execOp
    simp only [ho]
    refine ⟨.string b,?_,.rep (.val _)⟩
    rw [Sem.run_bind,bZ];rfl
   ·cases hr
  ·cases hr
def cJ:Nat->Nat->Nat
 | k,1=>k
 | k,e=>k*e
theorem bt (k e:Nat):cJ k e=k*e:=by
 unfold cJ
 split<;>simp
def oQ (P:Program) (t:TypeId) (pure:Bool) (cells:List AV) (off:Nat) (h:Hint):Option (AV×List Prop) :=
 match dN P t,P.underlying t with
 | some sz,some d =>
  (match d with
  | .struct _=>(match h.av with
   | some (.agg cs)=>some (.agg cs,[(cells.drop off).take sz=cs,cs.length=sz])
   | some _=>none
   | none=>(match Nat.beq ((cells.drop off).take sz).length sz with|true=>some (.agg ((cells.drop off).take sz),[])|false=>none))
  | .array _ _=>(match h.av,pure with
   | some (.arr cs),true=>some (.arr cs,[(cells.drop off).take sz=cs,cs.length=sz])
   | some (.agg cs),_=>some (.agg cs,[(cells.drop off).take sz=cs,cs.length=sz])
   | _,_=>none)
  | _=>(match h.av with
   | some y=>some (y,[cells[off]?=some y])
   | none=>(match cells[off]? with|some y=>some (y,[])|none=>none)))
 | _,_=>none
section
variable {P:Program} {w:World} {I:Info} {S:Nat->Prop}
theorem r_ {t:TypeId} {p:Addr} {vs:List Value} {d:TypeDesc} (hd:P.underlying t=some d) (ha:cy P t=true) (hs:dN P t=some vs.length) (h:∀(j:Nat) v,vs[j]?=some v->w.cell? (p.add j)=some v) :
  (loadVar t p).run P w= .ok (.agg vs.toArray) w:=by
 unfold loadVar
 rw [Sem.run_bind,ie ⟨d,hd⟩]
 simp only [Result.andThen_ok,ha,if_true]
 rw [Sem.run_bind,run_sizeOf hs]
 simp only [Result.andThen_ok]
 rw [Sem.run_bind,run_loadCells_list w p vs h]
 rfl
theorem r9 {t:TypeId} {p:Addr} {v:Value} {d:TypeDesc} (hd:P.underlying t=some d) (ha:cy P t=false) (h:w.cell? p=some v) :
  (loadVar t p).run P w= .ok v w:=by
 unfold loadVar
 rw [Sem.run_bind,ie ⟨d,hd⟩]
 simp [ha,h]
theorem bO {α:Type} (l:List α) (off k j:Nat) (x:α) (hx:((l.drop off).take k)[j]?=some x):l[off+j]?=some x:=by
 have:=bT _ _ _ _ hx
 rw [List.getElem?_drop] at this;exact this
theorem dd (p:Addr):p.add 0=p:=by simp [Addr.add]
theorem qY {t:TypeId} {pure:Bool} {cells:List AV} {off:Nat} {h:Hint} {r:AV×List Prop} (hr:oQ P t pure cells off h=some r) (hC:bu r.2) (p:Addr) (us:List Value) (hl:cells.length≤us.length)
  (bq:∀(j:Nat) u,us[off+j]?=some u->w.cell? (p.add j)=some u) (hd:∀(j:Nat) u x,us[j]?=some u->cells[j]?=some x->a_ I S w pure u x) :
  ∃v,(loadVar t p).run P w= .ok v w∧Den I S w v r.1:=by
 have den:∀(j:Nat) u x,us[j]?=some u->cells[j]?=some x->Den I S w u x:=by
  intro j u x hu hx
  have:=hd j u x hu hx
  unfold a_ at this
  cases pure with
  | true=>exact .rep this
  | false=>exact this
 unfold oQ at hr
 split at hr
 ·rename_i sz d dc hu
  have agg:∀(cs:List AV),cy P t=true->(cells.drop off).take sz=cs->cs.length=sz-> ∃vs:List Value,vs=(us.drop off).take sz∧(loadVar t p).run P w= .ok (.agg vs.toArray) w∧vs.length=cs.length∧(∀(j:Nat) v c,vs[j]?=some v->cs[j]?=some c->us[off+j]?=some v∧cells[off+j]?=some c):=by
   intro cs ha he hlen
   have E7:cs.length=min sz (cells.length-off):=by rw [←he,List.length_take,List.length_drop]
   have NY:((us.drop off).take sz).length=sz:=by rw [List.length_take,List.length_drop];omega
   refine ⟨_,rfl,r_ hu ha (by rw [NY];exact dc) (fun j v hv=>bq j v (bO _ _ _ _ _ hv)),ah,fun j v c hv hc=>⟨bO _ _ _ _ _ hv,?_⟩⟩
   rw [←he] at hc;exact bO _ _ _ _ _ hc
  have one:∀y,cy P t=false->cells[off]?=some y-> ∃v,(loadVar t p).run P w= .ok v w∧Den I S w v y:=by
   intro y ha hy
   have cW:off<us.length:=by have:=(List.getElem?_eq_some_iff.1 hy).1;omega
   have hv:us[off]?=some us[off]:=List.getElem?_eq_getElem cW
   refine ⟨us[off],r9 hu ha ?_,den off _ y hv hy⟩
   have:=bq 0 us[off] (by simp)
   rw [dd] at this;exact this
  split at hr
  ·have ha:cy P t=true:=by unfold cy;rw [hu]
   split at hr
   ·rename_i cs _
    injection hr with hr;subst hr
    obtain ⟨vs,-,h1,h2,h3⟩:=agg cs ha hC.1 hC.2.1
    exact ⟨_,h1,.agg vs cs h2 fun j v c hv hc=>den _ _ _ (h3 j v c hv hc).1 (h3 j v c hv hc).2⟩
   ·cases hr
   ·split at hr
    ·rename_i hb
     injection hr with hr;subst hr
     obtain ⟨vs,-,h1,h2,h3⟩:=agg _ ha rfl (Nat.eq_of_beq_eq_true hb)
     exact ⟨_,h1,.agg vs _ h2 fun j v c hv hc=>den _ _ _ (h3 j v c hv hc).1 (h3 j v c hv hc).2⟩
    ·cases hr
  ·have ha:cy P t=true:=by unfold cy;rw [hu]
   split at hr
   ·rename_i cs _
    injection hr with hr;subst hr
    obtain ⟨vs,-,h1,h2,h3⟩:=agg cs ha hC.1 hC.2.1
    exact ⟨_,h1,.rep (.arr vs cs h2 fun j v c hv hc=>by have:=hd _ _ _ (h3 j v c hv hc).1 (h3 j v c hv hc).2;exact this)⟩
   ·rename_i cs _
    injection hr with hr;subst hr
    obtain ⟨vs,-,h1,h2,h3⟩:=agg cs ha hC.1 hC.2.1
    exact ⟨_,h1,.agg vs cs h2 fun j v c hv hc=>den _ _ _ (h3 j v c hv hc).1 (h3 j v c hv hc).2⟩
   ·cases hr
  ·rename_i NW Rz
   have ha:cy P t=false:=by
    unfold cy;rw [hu]
    cases d<;>first|rfl|exact absurd rfl (NW _)|exact absurd rfl (Rz _ _)
   split at hr
   ·injection hr with hr;subst hr
    exact one _ ha hC.1
   ·split at hr
    ·rename_i y hy
     injection hr with hr;subst hr
     exact one _ ha hy
    ·cases hr
 ·cases hr
end
def Ch (P:Program) (s:AS) (t:TypeId) (x:AV) (h:Hint):Option (AV×List Prop) :=
 match x with
 | .ptr row off=>oQ P t true row off h
 | .addr id off=>(match look s.H id with|some r=>oQ P t r.pure r.cells off h|none=>none)
 | _=>none
section
variable {P:Program} {s:AS} {o:Oper} {h:Hint} {r:AV×List Prop}
theorem sQ {I:Info} {S:Nat->Prop} {w:World} {v:Value} {row:List AV} {off:Nat} (h:Den I S w v (.ptr row off)):∃(ad:Addr) (us:List Value),v= .pointer (some (ad.add off))∧us.length=row.length∧S ad.block∧(∀(j:Nat) u,us[j]?=some u->w.cell? (ad.add j)=some u)∧ ∀(j:Nat) u x,us[j]?=some u->row[j]?=some x->cp S w u x:=by
 cases h with|rep h=>cases h with|ptr ad us _ _ hl hs ha h=>exact ⟨ad,us,rfl,hl,hs,ha,h⟩
theorem jE {I:Info} {S:Nat->Prop} {w:World} {v:Value} {id off:Nat} (h:Den I S w v (.addr id off)):∃e m g,I id=some (e,m,some g)∧v= .pointer (some ⟨g,off,none⟩):=by
 cases h with
 | rep h=>cases h
 | addr id off e m g hi=>exact ⟨e,m,g,hi,rfl⟩
theorem lU (g o j:Nat):(⟨g,o,none⟩:Addr).add j=⟨g,o+j,none⟩:=by unfold Addr.add;split<;>simp_all
theorem Fo {t:TypeId} {x:Operand} (ho:o.op= .load t x) (hr:Ch P s t (bj s x) h=some r):cS P s o r.1 r.2:=by
 intro hC S0 w0 n O a w φ hs
 have hx:=hs.bj x
 unfold execOp
 simp only [ho]
 unfold Ch at hr
 split at hr
 ·rename_i row off he
  rw [he] at hx
  obtain ⟨ad,us,hv,hl,hS,bq,bV⟩:=sQ hx
  obtain ⟨v,h1,h2⟩:=qY (I:=az s.H φ) (S:=aJ S0 w φ O) hr hC (ad.add off) us ah (fun j u hu=>by rw [my];exact bq _ u hu) (fun j u x hu hx=>by show cp _ _ _ _;exact bV j u x hu hx)
  refine ⟨v,?_,h2⟩
  simp only [Instr.loadAt,hv,Instr.sureAddr,Sem.run_bind,Sem.run_pure,Result.andThen_ok,h1]
 ·rename_i id off he
  rw [he] at hx
  obtain ⟨e,m,g,hi,hv⟩:=jE hx
  obtain ⟨q,hq,-,-,bY⟩:=aL hi
  rw [hq] at hr
  have aK:=hs.rows id q hq
  unfold bJ at aK
  rw [bY] at aK
  obtain ⟨cur,te,fr,hg,hf,hl,-,hc⟩:=aK
  obtain ⟨v,h1,h2⟩:=qY (I:=az s.H φ) (S:=aJ S0 w φ O) hr hC ⟨g,off,none⟩ cur.toList hl (fun j u hu=>by rw [lU,cell_of_row w g _ cur te fr hg];simpa using hu) (fun j u x hu hx=>hc j u x (by simpa using hu) hx)
  refine ⟨v,?_,h2⟩
  simp only [Instr.loadAt,hv,Instr.sureAddr,Sem.run_bind,Sem.run_pure,Result.andThen_ok,h1]
 ·cases hr
def nu (P:Program) (t:TypeId) (x:AV) (f:Nat):Option (AV×List Prop) :=
 match P.underlying t with
 | some (.struct fields) =>
  (match fields[f]? with
  | some fd=>(match dN P fd.type with
   | some (_+1)=>(match x with
    | .ptr row off=>some (.ptr row (off+fd.offset),[])
    | .addr id off=>some (.addr id (off+fd.offset),[])
    | _=>none)
   | _=>none)
  | none=>none)
 | _=>none
theorem uM {t:TypeId} {x:Operand} {f:Nat} (ho:o.op= .fieldAddr t x f) (hr:nu P t (bj s x) f=some r):cS P s o r.1 r.2:=by
 intro hC S0 w0 n O a w φ hs
 have hx:=hs.bj x
 unfold execOp
 simp only [ho]
 unfold nu at hr
 split at hr
 ·rename_i fields hu
  split at hr
  ·rename_i fd hf
   split at hr
   ·rename_i k dc
    have hz:(sizeOf fd.type).run P w= .ok (k+1) w:=run_sizeOf dc
    split at hr
    ·rename_i row off he
     injection hr with hr;subst hr
     rw [he] at hx
     obtain ⟨ad,us,hv,hl,hS,bq,bV⟩:=sQ hx
     refine ⟨.pointer (some (ad.add (off+fd.offset))),?_,.rep (.ptr ad us row _ hl hS bq bV)⟩
     simp [Instr.fieldAt,run_underlying hu,hf,hv,Instr.sureAddr,fieldPlace,hz,my]
    ·rename_i id off he
     injection hr with hr;subst hr
     rw [he] at hx
     obtain ⟨e,m,g,hi,hv⟩:=jE hx
     refine ⟨.pointer (some ⟨g,off+fd.offset,none⟩),?_,.addr id _ e m g hi⟩
     simp [Instr.fieldAt,run_underlying hu,hf,hv,Instr.sureAddr,fieldPlace,hz,lU]
    ·cases hr
   ·cases hr
  ·cases hr
 ·cases hr
def Iu (P:Program) (s:AS) (t:TypeId) (x:AV) (n:Int) (h:Hint):Option (AV×List Prop) :=
 match P.underlying t with
 | some (.slice el) =>
  (match dN P el with
  | some (z+1)=>(match x with
   | .sl e row=>(match Nat.beq e (z+1) with|true=>some (.ptr row (cJ h.k (z+1)),[n=(h.k:Int),cJ h.k (z+1)<row.length])|false=>none)
   | .ref id=>(match look s.H id with|some q=>(match Nat.beq q.e (z+1) with|true=>some (.addr id (cJ h.k (z+1)),[n=(h.k:Int),cJ h.k (z+1)<q.cells.length])|false=>none)|none=>none)
   | .pre id l=>(match look s.H id with|some q=>(match Nat.beq q.e (z+1) with|true=>some (.addr id (cJ h.k (z+1)),[n=(h.k:Int),cJ h.k (z+1)<l])|false=>none)|none=>none)
   | .jg id off l=>(match look s.H id with|some q=>(match Nat.beq q.e (z+1) with|true=>some (.addr id (cJ h.k (z+1)+off),[n=(h.k:Int),cJ h.k (z+1)<l])|false=>none)|none=>none)
   | _=>none)
  | _=>none)
 | some (.array len el) =>
  (match dN P el with
  | some (z+1)=>(match x with
   | .ptr row off=>some (.ptr row (cJ h.k (z+1)+off),[n=(h.k:Int),h.k<len])
   | .addr id off=>some (.addr id (cJ h.k (z+1)+off),[n=(h.k:Int),h.k<len])
   | _=>none)
  | _=>none)
 | _=>none
theorem oS {I:Info} {S:Nat->Prop} {w:World} {v:Value} {e:Nat} {row:List AV} (h:Den I S w v (.sl e row)):cp S w v (.sl e row):=by
 cases h with|rep h=>exact h
theorem nG {k z l e m:Nat} (h:cJ k (z+1)<m) (hm:m=e*l) (he:e=z+1):k<l:=by
 rw [bt,hm,he,Nat.mul_comm] at h
 exact Nat.lt_of_mul_lt_mul_left h
theorem Is {t:TypeId} {x i:Operand} {k:IntKind} {n:Int} (ho:o.op= .indexAddr t x i) (hi:bj s i= .val (.int k n)) (hr:Iu P s t (bj s x) n h=some r):cS P s o r.1 r.2:=by
 intro hC S0 w0 n' O a w φ hs
 have hx:=hs.bj x
 have ei:a.eval i= .int k n:=bE (hi ▸ hs.bj i)
 unfold execOp
 simp only [ho,ei]
 unfold Iu at hr
 split at hr
 ·rename_i el hu
  split at hr
  ·rename_i z dc
   have hz:(sizeOf el).run P w= .ok (z+1) w:=run_sizeOf dc
   split at hr
   ·rename_i e row he
    rw [he] at hx
    split at hr
    ·rename_i hb
     have kE:e=z+1:=Nat.eq_of_beq_eq_true hb
     injection hr with hr;subst hr
     obtain ⟨hn,cW,-⟩:=hC
     have bV:=oS hx
     cases jB:a.eval x with
     | slice A l c =>
      rw [jB] at bV
      cases bV with
      | sl _ _ _ _ us _ hl sf hc hm ha bV =>
       have iw:h.k<l:=nG cW sf kE
       obtain ⟨ad,rfl,hS,bq⟩:=ha ah
       refine ⟨.pointer (some (ad.add (cJ h.k (z+1)))),?_,.rep (.ptr ad us row _ hl hS bq bV)⟩
       have qi:0≤n∧n<(l:Int):=ah
       have hk:n.toNat=h.k:=ah
       simp [Instr.indexAt,run_underlying hu,asIntOf,qi,hz,hk,bt]
     | _=>rw [jB] at bV;cases bV
    ·cases hr
   ·rename_i id he
    rw [he] at hx
    split at hr
    ·rename_i q hq
     split at hr
     ·rename_i hb
      have kE:q.e=z+1:=Nat.eq_of_beq_eq_true hb
      injection hr with hr;subst hr
      obtain ⟨hn,cW,-⟩:=hC
      generalize a.eval x=V at hx
      cases hx with
      | rep h=>cases h
      | ref _ e m g l c hi hm hc hx bU =>
       rw [bn hq] at hi
       injection hi with hi;injection hi with h1 hi;injection hi with h2 h3
       have iw:h.k<l:=nG cW (by rw [h2];exact hm) (by rw [←h1];exact kE)
       refine ⟨.pointer (some ⟨g,cJ h.k (z+1),none⟩),?_,.addr id _ q.e q.cells.length g (by rw [bn hq,h3])⟩
       have qi:0≤n∧n<(l:Int):=ah
       have hk:n.toNat=h.k:=ah
       simp [Instr.indexAt,run_underlying hu,asIntOf,qi,hz,hk,bt,eJ]
      | cw _ e hi =>
       rw [bn hq] at hi
       injection hi with hi;injection hi with h1 hi;injection hi with h2 h3
       omega
     ·cases hr
    ·cases hr
   ·rename_i id l' he
    rw [he] at hx
    split at hr
    ·rename_i q hq
     split at hr
     ·rename_i hb
      have kE:q.e=z+1:=Nat.eq_of_beq_eq_true hb
      injection hr with hr;subst hr
      obtain ⟨hn,cW,-⟩:=hC
      generalize a.eval x=V at hx
      cases hx with
      | rep h=>cases h
      | pre _ _ e m g l c hi sf hm hc hx bU =>
       rw [bn hq] at hi
       injection hi with hi;injection hi with h1 hi;injection hi with h2 h3
       have iw:h.k<l:=nG cW sf (by rw [←h1];exact kE)
       refine ⟨.pointer (some ⟨g,cJ h.k (z+1),none⟩),?_,.addr id _ q.e q.cells.length g (by rw [bn hq,h3])⟩
       have qi:0≤n∧n<(l:Int):=ah
       have hk:n.toNat=h.k:=ah
       simp [Instr.indexAt,run_underlying hu,asIntOf,qi,hz,hk,bt,eJ]
      | df _ e hi=>omega
     ·cases hr
    ·cases hr
   ·rename_i id off l' he
    rw [he] at hx
    split at hr
    ·rename_i q hq
     split at hr
     ·rename_i hb
      have kE:q.e=z+1:=Nat.eq_of_beq_eq_true hb
      injection hr with hr;subst hr
      obtain ⟨hn,cW,-⟩:=hC
      generalize a.eval x=V at hx
      cases hx with
      | rep h=>cases h
      | jg _ _ _ e m l c g A hi sf hm hc hx ha =>
       rw [bn hq] at hi
       injection hi with hi;injection hi with h1 hi;injection hi with h2 h3
       have iw:h.k<l:=nG cW sf (by rw [←h1];exact kE)
       obtain ⟨b,Ju,rfl⟩:=ha ah
       refine ⟨.pointer (some ⟨b,cJ h.k (z+1)+off,none⟩),?_,.addr id _ q.e q.cells.length b (by rw [bn hq,h3,Ju])⟩
       have qi:0≤n∧n<(l:Int):=ah
       have hk:n.toNat=h.k:=ah
       simp [Instr.indexAt,run_underlying hu,asIntOf,qi,hz,hk,bt,lU,Nat.add_comm]
     ·cases hr
    ·cases hr
   ·cases hr
  ·cases hr
 ·rename_i len el hu
  split at hr
  ·rename_i z dc
   have hz:(sizeOf el).run P w= .ok (z+1) w:=run_sizeOf dc
   split at hr
   ·rename_i row off he
    rw [he] at hx
    injection hr with hr;subst hr
    obtain ⟨hn,cW,-⟩:=hC
    obtain ⟨ad,us,hv,hl,hS,bq,bV⟩:=sQ hx
    refine ⟨.pointer (some (ad.add (cJ h.k (z+1)+off))),?_,.rep (.ptr ad us row _ hl hS bq bV)⟩
    have qi:0≤n∧n<(len:Int):=ah
    have hk:n.toNat=h.k:=ah
    simp [Instr.indexAt,run_underlying hu,asIntOf,qi,hz,hk,hv,Instr.sureAddr,bt,my,Nat.add_comm]
   ·rename_i id off he
    rw [he] at hx
    injection hr with hr;subst hr
    obtain ⟨hn,cW,-⟩:=hC
    obtain ⟨e,m,g,hi,hv⟩:=jE hx
    refine ⟨.pointer (some ⟨g,cJ h.k (z+1)+off,none⟩),?_,.addr id _ e m g hi⟩
    have qi:0≤n∧n<(len:Int):=ah
    have hk:n.toNat=h.k:=ah
    simp [Instr.indexAt,run_underlying hu,asIntOf,qi,hz,hk,hv,Instr.sureAddr,bt,lU,Nat.add_comm]
   ·cases hr
  ·cases hr
 ·cases hr
end
section
variable {P:Program} {s:AS} {o:Oper} {h:Hint} {r:AV×List Prop}
inductive Cut where
 | all|to (n:Int)|from_ (n:Int)|both (n m:Int)
def ue:AV->Option Int
 | .val (.int _ n)=>some n
 | _=>none
def uT (s:AS) (lo hi mx:Option Operand):Option Cut :=
 match lo,hi,mx with
 | none,none,none=>some .all
 | none,some y,none=>(match ue (bj s y) with|some m=>some (.to m)|none=>none)
 | some x,none,none=>(match ue (bj s x) with|some n=>some (.from_ n)|none=>none)
 | some x,some y,none=>(match ue (bj s x),ue (bj s y) with|some n,some m=>some (.both n m)|_,_=>none)
 | _,_,_=>none
def xF (P:Program) (s:AS) (t:TypeId) (x:AV) (c:Cut) (h:Hint):Option (AV×List Prop) :=
 match P.underlying t with
 | some .string =>
  (match x,c with
  | .val (.string b),.all=>some (.val (.string b),[])
  | .val (.string b),.to n=>some (fin h (.val (.string (b.extract 0 h.m)),[n=(h.m:Int),h.m≤b.size]))
  | .val (.string b),.from_ n=>some (fin h (.val (.string (b.extract h.k b.size)),[n=(h.k:Int),h.k≤b.size]))
  | .val (.string b),.both n n'=>some (fin h (.val (.string (b.extract h.k h.m)),[n=(h.k:Int),n'=(h.m:Int),h.k≤h.m,h.m≤b.size]))
  | _,_=>none)
 | some (.slice el) =>
  (match dN P el with
  | some (z+1)=>(match x,c with
   | .sl e row,.all=>some (fin h (.sl e row,[]))
   | .sl e row,.to n=>(match Nat.beq e (z+1) with|true=>some (fin h (.sl e (row.take (cJ h.m e)),[n=(h.m:Int),cJ h.m e≤row.length]))|false=>none)
   | .sl e row,.from_ n=>(match Nat.beq e (z+1) with|true=>some (fin h (.sl e (row.drop (cJ h.k e)),[n=(h.k:Int),cJ h.k e≤row.length]))|false=>none)
   | .sl e row,.both n n'=>(match Nat.beq e (z+1) with|true=>some (fin h (.sl e ((row.drop (cJ h.k e)).take (cJ (h.m-h.k) e)),[n=(h.k:Int),n'=(h.m:Int),h.k≤h.m,cJ h.m e≤row.length]))|false=>none)
   | .ref id,.all=>some (.ref id,[])
   | .ref id,.to n=>(match look s.H id with|some q=>(match Nat.beq q.e (z+1) with|true=>some (.pre id (cJ h.m q.e),[n=(h.m:Int),cJ h.m q.e≤q.cells.length])|false=>none)|none=>none)
   | .ref id,.from_ n=>(match look s.H id with|some q=>(match Nat.beq q.e (z+1) with|true=>some (.jg id (cJ h.k q.e) (q.cells.length-cJ h.k q.e),[n=(h.k:Int),cJ h.k q.e≤q.cells.length])|false=>none)|none=>none)
   | .ref id,.both n n'=>(match look s.H id with|some q=>(match Nat.beq q.e (z+1) with|true=>some (.jg id (cJ h.k q.e) (cJ (h.m-h.k) q.e),[n=(h.k:Int),n'=(h.m:Int),h.k≤h.m,cJ h.m q.e≤q.cells.length])|false=>none)|none=>none)
   | .pre id l,.all=>some (.pre id l,[])
   | .pre id l,.to n=>(match look s.H id with|some q=>(match Nat.beq q.e (z+1) with|true=>some (.pre id (cJ h.m q.e),[n=(h.m:Int),cJ h.m q.e≤l])|false=>none)|none=>none)
   | _,_=>none)
  | _=>none)
 | some (.array len el) =>
  (match dN P el with
  | some (z+1)=>(match x,c with
   | .addr id 0,.all=>(match look s.H id with|some q=>(match Nat.beq q.e (z+1),q.full with|true,true=>some (.ref id,[q.cells.length=cJ len q.e,len≤maxLen])|_,_=>none)|none=>none)
   | .addr id 0,.to n=>(match look s.H id with|some q=>(match Nat.beq q.e (z+1),q.full with|true,true=>some (.pre id (cJ h.m q.e),[n=(h.m:Int),h.m≤len,q.cells.length=cJ len q.e,len≤maxLen])|_,_=>none)|none=>none)
   | .addr id 0,.from_ n=>(match look s.H id with|some q=>(match Nat.beq q.e (z+1),q.full with|true,true=>some (.jg id (cJ h.k q.e) (cJ (len-h.k) q.e),[n=(h.k:Int),h.k≤len,q.cells.length=cJ len q.e,len≤maxLen])|_,_=>none)|none=>none)
   | .addr id 0,.both n n'=>(match look s.H id with|some q=>(match Nat.beq q.e (z+1),q.full with|true,true=>some (.jg id (cJ h.k q.e) (cJ (h.m-h.k) q.e),[n=(h.k:Int),n'=(h.m:Int),h.k≤h.m,h.m≤len,q.cells.length=cJ len q.e,len≤maxLen])|_,_=>none)|none=>none)
   | _,_=>none)
  | _=>none)
 | _=>none
def Bounds (c:Cut) (len cap:Nat) (l hi:Nat):Prop :=
 match c with
 | .all=>l=0∧hi=len
 | .to n=>l=0∧n=(hi:Int)∧hi≤cap
 | .from_ n=>n=(l:Int)∧l≤len∧hi=len
 | .both n n'=>n=(l:Int)∧n'=(hi:Int)∧l≤hi∧hi≤cap
theorem BR {x:AV} {n:Int} (h:ue x=some n):∃k,x= .val (.int k n):=by
 unfold ue at h
 split at h
 ·injection h with h;subst h;exact ⟨_,rfl⟩
 ·cases h
theorem run_sliceBound {w:World} {k:IntKind} {n:Int} {y l:Nat} {code:BoundsCode} (h1:n=(l:Int)) (h2:l≤y):(Instr.sliceBound (.int k n) y code).run P w= .ok l w:=by
 have:0≤n∧n≤(y:Int):=ah
 have e:n.toNat=l:=ah
 simp [Instr.sliceBound,asIntOf,this,e]
theorem oB {S0:bf} {w0 w:World} {n:Nat} {O:List Nat} {a:Act} {φ:Nat->Option Nat} (hs:aH S0 w0 n O s a w φ) {lo hi mx:Option Operand} {c:Cut} (hc:uT s lo hi mx=some c) (Q4:Bool) {len cap l m:Nat} (hb:Bounds c len cap l m) (hle:len≤cap) :
  mx=none∧(Instr.sliceBounds Q4 len cap (lo.map a.eval) (hi.map a.eval) none).run P w= .ok (l,m,cap) w:=by
 have ev:∀x z,ue (bj s x)=some z-> ∃k,a.eval x= .int k z:=fun x z hx=>by
  obtain ⟨k,e⟩:=BR hx
  exact ⟨k,bE (e ▸ hs.bj x)⟩
 unfold uT at hc
 split at hc
 ·injection hc with hc;subst hc
  obtain ⟨rfl,rfl⟩:=hb
  exact ⟨rfl,by simp [Instr.sliceBounds]⟩
 ·split at hc
  ·rename_i z hz
   injection hc with hc;subst hc
   obtain ⟨rfl,h1,h2⟩:=hb
   obtain ⟨k,e⟩:=ev _ _ hz
   exact ⟨rfl,by simp [Instr.sliceBounds,e,run_sliceBound h1 h2]⟩
  ·cases hc
 ·split at hc
  ·rename_i z hz
   injection hc with hc;subst hc
   obtain ⟨h1,h2,rfl⟩:=hb
   obtain ⟨k,e⟩:=ev _ _ hz
   exact ⟨rfl,by simp [Instr.sliceBounds,e,run_sliceBound h1 h2]⟩
  ·cases hc
 ·split at hc
  ·rename_i z z' hz z6
   injection hc with hc;subst hc
   obtain ⟨h1,H7,h2,h3⟩:=hb
   obtain ⟨k,e⟩:=ev _ _ hz
   obtain ⟨k',e'⟩:=ev _ _ z6
   exact ⟨rfl,by simp [Instr.sliceBounds,e,e',run_sliceBound H7 h3,run_sliceBound h1 h2]⟩
  ·cases hc
 ·cases hc
theorem bS {S0:bf} {w0 w:World} {n:Nat} {O:List Nat} {a:Act} {φ:Nat->Option Nat} (hs:aH S0 w0 n O s a w φ) {t el:TypeId} {x:Operand} {lo hi mx:Option Operand} {c:Cut} (ho:o.op= .slice t x lo hi mx) (hc:uT s lo hi mx=some c) (hu:P.underlying t=some (.slice el)) {z:Nat} (hz:dN P el=some z)
  {A:Option Addr} {len cap l m:Nat} (hx:a.eval x= .slice A len cap) (hb:Bounds c len cap l m) (hle:len≤cap) :
  (execOp a.eval o).run P w= .ok (.value (.slice (if cap=l then A else A.map (·.add (l*z))) (m-l) (cap-l))) w:=by
 obtain ⟨rfl,hr⟩:=oB (P:=P) hs hc true hb hle
 unfold execOp
 simp only [ho,hx]
 have z6:(sizeOf el).run P w= .ok z w:=run_sizeOf hz
 simp [Instr.sliceAt,Instr.slice,run_underlying hu,hr,z6]
theorem ji {S0:bf} {w0 w:World} {n:Nat} {O:List Nat} {a:Act} {φ:Nat->Option Nat} (hs:aH S0 w0 n O s a w φ) {t el:TypeId} {x:Operand} {lo hi mx:Option Operand} {c:Cut} (ho:o.op= .slice t x lo hi mx) (hc:uT s lo hi mx=some c) {len:Nat} (hu:P.underlying t=some (.array len el)) {z:Nat} (hz:dN P el=some z)
  {p:Addr} {l m:Nat} (hx:a.eval x= .pointer (some p)) (hb:Bounds c len len l m) :
  (execOp a.eval o).run P w= .ok (.value (.slice (some (if len=l then p else p.add (l*z))) (m-l) (len-l))) w:=by
 obtain ⟨rfl,hr⟩:=oB (P:=P) hs hc false hb (Nat.le_refl _)
 unfold execOp
 simp only [ho,hx]
 have z6:(sizeOf el).run P w= .ok z w:=run_sizeOf hz
 simp [Instr.sliceAt,Instr.sureAddr,run_underlying hu,hr,z6]
theorem jh {S0:bf} {w0 w:World} {n:Nat} {O:List Nat} {a:Act} {φ:Nat->Option Nat} (hs:aH S0 w0 n O s a w φ) {t:TypeId} {x:Operand} {lo hi mx:Option Operand} {c:Cut} (ho:o.op= .slice t x lo hi mx) (hc:uT s lo hi mx=some c) (hu:P.underlying t=some .string)
  {b:ByteArray} {l m:Nat} (hx:a.eval x= .string b) (hb:Bounds c b.size b.size l m) :
  (execOp a.eval o).run P w= .ok (.value (.string (b.extract l m))) w:=by
 obtain ⟨rfl,hr⟩:=oB (P:=P) hs hc false hb (Nat.le_refl _)
 unfold execOp
 simp only [ho,hx]
 simp [Instr.sliceAt,Instr.slice,run_underlying hu,hr]
theorem y8 {S:Nat->Prop} {w:World} {A:Option Addr} {len cap e z:Nat} {row:List AV} (bV:cp S w (.slice A len cap) (.sl e row)) (he:e=z+1) (l m:Nat) (Tj:l≤m) (hm:m≤len) :
  cp S w (.slice (if cap=l then A else A.map (·.add (l*(z+1)))) (m-l) (cap-l)) (.sl e ((row.drop (l*e)).take ((m-l)*e))):=by
 cases bV with
 | sl _ _ _ _ us _ hl hn hc hx ha h =>
  have hle:(m-l)*e≤row.length-l*e:=by
   rw [hn,Nat.sub_mul,Nat.mul_comm e len]
   have:=Nat.mul_le_mul_right e hm
   omega
  have hlen:((row.drop (l*e)).take ((m-l)*e)).length=(m-l)*e:=by rw [List.length_take,List.length_drop];omega
  refine .sl _ _ _ _ ((us.drop (l*e)).take ((m-l)*e)) _ (by rw [hlen,List.length_take,List.length_drop];omega) (by rw [hlen,Nat.mul_comm]) ah ah (fun h0=>?_) (fun j u x hu hx=>h (l*e+j) u x (bO _ _ _ _ _ hu) (bO _ _ _ _ _ hx))
  rw [hlen] at h0
  have cK:cap≠l:=by
   intro e'
   have:m-l=0:=ah
   rw [this,Nat.zero_mul] at h0;omega
  have FR:0<row.length:=ah
  obtain ⟨ad,rfl,hS,bq⟩:=ha FR
  rw [if_neg cK]
  refine ⟨ad.add (l*(z+1)),rfl,by rw [gA];exact hS,fun j u hu=>?_⟩
  rw [my,←he]
  exact bq _ u (bO _ _ _ _ _ hu)
theorem l9 {m len e q:Nat} (h:cJ m e≤q) (hq:q=e*len) (he:0<e):m≤len:=by
 rw [bt,hq,Nat.mul_comm] at h
 exact Nat.le_of_mul_le_mul_left h he
theorem sr {m z:Nat} (h:m*(z+1)≤0):m=0:=by
 rcases Nat.eq_zero_or_pos m with h5|h5
 ·exact h5
 ·have:=Nat.mul_pos h5 (ah:0<z+1);omega
theorem Cb {t:TypeId} {x:Operand} {lo hi mx:Option Operand} {c:Cut} (ho:o.op= .slice t x lo hi mx) (hc:uT s lo hi mx=some c) (hr:xF P s t (bj s x) c h=some r):cS P s o r.1 r.2:=by
 unfold xF at hr
 split at hr
 ·rename_i hu
  split at hr
  ·rename_i b he
   injection hr with hr;subst hr
   intro hC S0 w0 n O a w φ hs
   have ex:a.eval x= .string b:=bE (he ▸ hs.bj x)
   refine ⟨_,jh hs ho hc hu ex ⟨rfl,rfl⟩,?_⟩
   have:b.extract 0 b.size=b:=by simp
   rw [this];exact .rep (.val _)
  ·rename_i b n he
   injection hr with hr;subst hr
   refine gm ?_
   intro hC S0 w0 n' O a w φ hs
   have ex:a.eval x= .string b:=bE (he ▸ hs.bj x)
   exact ⟨_,jh hs ho hc hu ex ⟨rfl,hC.1,hC.2.1⟩,.rep (.val _)⟩
  ·rename_i b n he
   injection hr with hr;subst hr
   refine gm ?_
   intro hC S0 w0 n' O a w φ hs
   have ex:a.eval x= .string b:=bE (he ▸ hs.bj x)
   exact ⟨_,jh hs ho hc hu ex ⟨hC.1,hC.2.1,rfl⟩,.rep (.val _)⟩
  ·rename_i b n n2 he
   injection hr with hr;subst hr
   refine gm ?_
   intro hC S0 w0 n' O a w φ hs
   have ex:a.eval x= .string b:=bE (he ▸ hs.bj x)
   exact ⟨_,jh hs ho hc hu ex ⟨hC.1,hC.2.1,hC.2.2.1,hC.2.2.2.1⟩,.rep (.val _)⟩
  ·cases hr
 ·rename_i el hu
  split at hr
  ·rename_i z dc
   have sl:∀(e:Nat) (row:List AV) (X:AV) (C:List Prop),bj s x= .sl e row->e=z+1->(bu C-> ∃l m,(∀len cap,row.length=e*len->len≤cap->Bounds c len cap l m∧m≤len)∧l≤m∧X= .sl e ((row.drop (l*e)).take ((m-l)*e))∨(c= .all∧X= .sl e row))->cS P s o X C:=by
    intro e row X C he uq hX hC S0 w0 n O a w φ hs
    have hx:=hs.bj x
    rw [he] at hx
    have bV:=oS hx
    cases jB:a.eval x with
    | slice A len cap =>
     rw [jB] at bV
     have Ab:=bV
     cases Ab with
     | sl _ _ _ _ us _ hl hn kR Jo ha h' =>
      obtain ⟨l,m,h1⟩:=hX hC
      rcases h1 with ⟨hb,Tj,rfl⟩|⟨rfl,rfl⟩
      ·obtain ⟨hb,hm⟩:=hb len cap hn kR
       exact ⟨_,bS hs ho hc hu dc jB hb kR,.rep (y8 bV uq l m Tj hm)⟩
      ·refine ⟨_,bS hs ho hc hu dc jB (l:=0) (m:=len) ⟨rfl,rfl⟩ kR,?_⟩
       have:(if cap=0 then A else A.map (·.add (0*(z+1))))=A:=by
        split
        ·rfl
        ·cases A<;>simp [dd]
       rw [this];exact .rep bV
    | _=>rw [jB] at bV;cases bV
   split at hr
   ·rename_i e row he
    injection hr with hr;subst hr
    refine gm ?_
    intro hC S0 w0 n O a w φ hs
    have hx:=hs.bj x
    rw [he] at hx
    have bV:=oS hx
    cases jB:a.eval x with
    | slice A len cap =>
     rw [jB] at bV
     have Ab:=bV
     cases Ab with
     | sl _ _ _ _ us _ hl hn kR Jo ha h' =>
      refine ⟨_,bS hs ho hc hu dc jB (l:=0) (m:=len) ⟨rfl,rfl⟩ kR,?_⟩
      have:(if cap=0 then A else A.map (·.add (0*(z+1))))=A:=by
       split
       ·rfl
       ·cases A<;>simp [dd]
      rw [this];exact .rep bV
    | _=>rw [jB] at bV;cases bV
   ·rename_i e row n he
    split at hr
    ·rename_i hb
     have uq:e=z+1:=Nat.eq_of_beq_eq_true hb
     injection hr with hr;subst hr
     refine gm (sl e row _ _ he uq fun hC=>⟨0,h.m,.inl ⟨fun len cap hn M1=>?_,Nat.zero_le _,by simp [bt]⟩⟩)
     have:=l9 hC.2.1 hn ah
     exact ⟨⟨rfl,hC.1,ah⟩,this⟩
    ·cases hr
   ·rename_i e row n he
    split at hr
    ·rename_i hb
     have uq:e=z+1:=Nat.eq_of_beq_eq_true hb
     injection hr with hr;subst hr
     refine gm ?_
     intro hC S0 w0 n' O a w φ hs
     have hx:=hs.bj x
     rw [he] at hx
     have bV:=oS hx
     cases jB:a.eval x with
     | slice A len cap =>
      rw [jB] at bV
      have Ab:=bV
      cases Ab with
      | sl _ _ _ _ us _ hl hn kR Jo ha h' =>
       have hk:=l9 hC.2.1 hn ah
       refine ⟨_,bS hs ho hc hu dc jB (l:=h.k) (m:=len) ⟨hC.1,hk,rfl⟩ kR,?_⟩
       have:=y8 bV uq h.k len hk (Nat.le_refl _)
       have e2:(row.drop (h.k*e)).take ((len-h.k)*e)=row.drop (cJ h.k e):=by
        rw [bt,List.take_of_length_le]
        rw [List.length_drop,hn,Nat.sub_mul,Nat.mul_comm e len]
        exact Nat.le_refl _
       rw [e2] at this
       exact .rep this
     | _=>rw [jB] at bV;cases bV
    ·cases hr
   ·rename_i e row n n2 he
    split at hr
    ·rename_i hb
     have uq:e=z+1:=Nat.eq_of_beq_eq_true hb
     injection hr with hr;subst hr
     refine gm (sl e row _ _ he uq fun hC=>⟨h.k,h.m,.inl ⟨fun len cap hn M1=>?_,hC.2.2.1,by simp [bt]⟩⟩)
     have:=l9 hC.2.2.2.1 hn ah
     exact ⟨⟨hC.1,hC.2.1,hC.2.2.1,ah⟩,this⟩
    ·cases hr
   ·rename_i id he
    injection hr with hr;subst hr
    intro hC S0 w0 n O a w φ hs
    have hx:=hs.bj x
    rw [he] at hx
    generalize hV:a.eval x=V at hx
    cases hx with
    | rep h=>cases h
    | ref _ e m g l c' hi hm kR hx bU =>
     refine ⟨_,bS hs ho hc hu dc hV (l:=0) (m:=l) ⟨rfl,rfl⟩ kR,?_⟩
     have:(if c'=0 then (some ⟨g,0,none⟩:Option Addr) else (some ⟨g,0,none⟩:Option Addr).map (·.add (0*(z+1))))=some ⟨g,0,none⟩:=by simp [dd]
     rw [this]
     exact .ref id e m g l c' hi hm kR hx bU
    | cw _ e hi =>
     refine ⟨_,bS hs ho hc hu dc hV (l:=0) (m:=0) ⟨rfl,rfl⟩ (Nat.le_refl _),?_⟩
     simp only [if_true]
     exact .cw id e hi
   ·rename_i id n he
    split at hr
    ·rename_i q hq
     split at hr
     ·rename_i hb
      have uq:q.e=z+1:=Nat.eq_of_beq_eq_true hb
      injection hr with hr;subst hr
      intro hC S0 w0 n' O a w φ hs
      have hx:=hs.bj x
      rw [he] at hx
      generalize hV:a.eval x=V at hx
      cases hx with
      | rep h=>cases h
      | ref _ e m g l c' hi hm kR hx bU =>
       obtain ⟨q',gB,h1,h2,h3⟩:=aL hi
       rw [hq] at gB;injection gB with gB;subst gB
       subst h1
       have hk:=l9 hC.2.1 (by rw [h2];exact hm) ah
       refine ⟨_,bS hs ho hc hu dc hV (l:=0) (m:=h.m) ⟨rfl,hC.1,ah⟩ kR,?_⟩
       have:(if c'=0 then (some ⟨g,0,none⟩:Option Addr) else (some ⟨g,0,none⟩:Option Addr).map (·.add (0*(z+1))))=some ⟨g,0,none⟩:=by simp [dd]
       rw [this]
       exact .pre id _ q.e m g h.m c' hi (by rw [bt,Nat.mul_comm]) (by rw [←h2];exact hC.2.1) ah hx bU
      | cw _ e hi =>
       obtain ⟨q',gB,h1,h2,h3⟩:=aL hi
       rw [hq] at gB;injection gB with gB;subst gB
       have hk:h.m=0:=by
        have h4:=hC.2.1
        rw [bt,h2,uq] at h4
        exact sr h4
       refine ⟨_,bS hs ho hc hu dc hV (l:=0) (m:=h.m) ⟨rfl,hC.1,ah⟩ (Nat.le_refl _),?_⟩
       rw [hk]
       simp only [if_true]
       have e0:cJ 0 q.e=0:=by rw [bt];simp
       rw [e0]
       exact .df id e hi
     ·cases hr
    ·cases hr
   ·rename_i id n he
    split at hr
    ·rename_i q hq
     split at hr
     ·rename_i hb
      have uq:q.e=z+1:=Nat.eq_of_beq_eq_true hb
      injection hr with hr;subst hr
      intro hC S0 w0 n' O a w φ hs
      have hx:=hs.bj x
      rw [he] at hx
      generalize hV:a.eval x=V at hx
      cases hx with
      | rep h=>cases h
      | ref _ e m g l c' hi hm kR hx bU =>
       obtain ⟨q',gB,h1,h2,h3⟩:=aL hi
       rw [hq] at gB;injection gB with gB;subst gB
       subst h1
       have hk:=l9 hC.2.1 (by rw [h2];exact hm) ah
       have hle:=hC.2.1
       rw [bt] at hle
       refine ⟨_,bS hs ho hc hu dc hV (l:=h.k) (m:=l) ⟨hC.1,hk,rfl⟩ kR,?_⟩
       rw [bt]
       refine .jg id _ _ q.e m (l-h.k) (c'-h.k) (some g) _ hi (by rw [h2,hm,Nat.mul_sub,Nat.mul_comm h.k]) ah ah ah (fun h0=>⟨g,rfl,?_⟩)
       have cK:c'≠h.k:=by
        intro e'
        have:l=h.k:=ah
        rw [h2,hm,this,Nat.mul_comm,Nat.sub_self] at h0;omega
       rw [if_neg cK]
       simp [eJ,uq]
      | cw _ e hi =>
       obtain ⟨q',gB,h1,h2,h3⟩:=aL hi
       rw [hq] at gB;injection gB with gB;subst gB
       have hk:h.k=0:=by
        have h4:=hC.2.1
        rw [bt,h2,uq] at h4
        exact sr h4
       refine ⟨_,bS hs ho hc hu dc hV (l:=0) (m:=0) ⟨by rw [hC.1,hk],Nat.le_refl _,rfl⟩ (Nat.le_refl _),?_⟩
       rw [hk,h2]
       have e0:cJ 0 q.e=0:=by rw [bt];simp
       rw [e0]
       simp only [if_true]
       exact .jg id 0 _ e 0 0 0 none none hi (by simp) (by simp) (by simp) (by simp) (fun h=>by simp at h)
     ·cases hr
    ·cases hr
   ·rename_i id n n2 he
    split at hr
    ·rename_i q hq
     split at hr
     ·rename_i hb
      have uq:q.e=z+1:=Nat.eq_of_beq_eq_true hb
      injection hr with hr;subst hr
      intro hC S0 w0 n' O a w φ hs
      have hx:=hs.bj x
      rw [he] at hx
      obtain ⟨iz,D0,FY,Og,-⟩:=hC
      generalize hV:a.eval x=V at hx
      cases hx with
      | rep h=>cases h
      | ref _ e m g l c' hi hm kR hx bU =>
       obtain ⟨q',gB,h1,h2,h3⟩:=aL hi
       rw [hq] at gB;injection gB with gB;subst gB
       subst h1
       have hk:=l9 Og (by rw [h2];exact hm) ah
       rw [bt] at Og
       refine ⟨_,bS hs ho hc hu dc hV (l:=h.k) (m:=h.m) ⟨iz,D0,FY,ah⟩ kR,?_⟩
       rw [bt,bt]
       have hmul:h.k*q.e≤h.m*q.e:=Nat.mul_le_mul_right _ FY
       refine .jg id _ _ q.e m (h.m-h.k) (c'-h.k) (some g) _ hi (by rw [Nat.mul_comm]) (by rw [Nat.sub_mul];omega) ah ah (fun h0=>⟨g,rfl,?_⟩)
       have cK:c'≠h.k:=by
        intro e'
        have:h.m-h.k=0:=ah
        rw [this,Nat.zero_mul] at h0;omega
       rw [if_neg cK]
       simp [eJ,uq]
      | cw _ e hi =>
       obtain ⟨q',gB,h1,h2,h3⟩:=aL hi
       rw [hq] at gB;injection gB with gB;subst gB
       have hk:h.m=0:=by
        rw [bt,h2,uq] at Og
        exact sr Og
       have xq:h.k=0:=ah
       refine ⟨_,bS hs ho hc hu dc hV (l:=0) (m:=0) ⟨by rw [iz,xq],by rw [D0,hk],Nat.le_refl _,Nat.le_refl _⟩ (Nat.le_refl _),?_⟩
       rw [xq,hk]
       have e0:cJ 0 q.e=0:=by rw [bt];simp
       simp only [Nat.sub_self,e0,if_true]
       exact .jg id 0 0 e 0 0 0 none none hi (by simp) (by simp) (by simp) (by simp) (fun h=>by simp at h)
     ·cases hr
    ·cases hr
   ·rename_i id l' he
    injection hr with hr;subst hr
    intro hC S0 w0 n O a w φ hs
    have hx:=hs.bj x
    rw [he] at hx
    generalize hV:a.eval x=V at hx
    cases hx with
    | rep h=>cases h
    | pre _ _ e m g l c' hi sf hm kR hx bU =>
     refine ⟨_,bS hs ho hc hu dc hV (l:=0) (m:=l) ⟨rfl,rfl⟩ kR,?_⟩
     have:(if c'=0 then (some ⟨g,0,none⟩:Option Addr) else (some ⟨g,0,none⟩:Option Addr).map (·.add (0*(z+1))))=some ⟨g,0,none⟩:=by simp [dd]
     rw [this]
     exact .pre id _ e m g l c' hi sf hm kR hx bU
    | df _ e hi =>
     refine ⟨_,bS hs ho hc hu dc hV (l:=0) (m:=0) ⟨rfl,rfl⟩ (Nat.le_refl _),?_⟩
     simp only [if_true]
     exact .df id e hi
   ·rename_i id l' n he
    split at hr
    ·rename_i q hq
     split at hr
     ·rename_i hb
      have uq:q.e=z+1:=Nat.eq_of_beq_eq_true hb
      injection hr with hr;subst hr
      intro hC S0 w0 n' O a w φ hs
      have hx:=hs.bj x
      rw [he] at hx
      generalize hV:a.eval x=V at hx
      cases hx with
      | rep h=>cases h
      | pre _ _ e m g l c' hi sf hm kR hx bU =>
       obtain ⟨q',gB,h1,h2,h3⟩:=aL hi
       rw [hq] at gB;injection gB with gB;subst gB
       subst h1
       have hk:=l9 hC.2.1 sf ah
       refine ⟨_,bS hs ho hc hu dc hV (l:=0) (m:=h.m) ⟨rfl,hC.1,ah⟩ kR,?_⟩
       have:(if c'=0 then (some ⟨g,0,none⟩:Option Addr) else (some ⟨g,0,none⟩:Option Addr).map (·.add (0*(z+1))))=some ⟨g,0,none⟩:=by simp [dd]
       rw [this]
       exact .pre id _ q.e m g h.m c' hi (by rw [bt,Nat.mul_comm]) (by have:=hC.2.1;omega) ah hx bU
      | df _ e hi =>
       have hk:h.m=0:=by
        have h4:=hC.2.1
        rw [bt,uq] at h4
        exact sr h4
       refine ⟨_,bS hs ho hc hu dc hV (l:=0) (m:=h.m) ⟨rfl,hC.1,ah⟩ (Nat.le_refl _),?_⟩
       rw [hk]
       simp only [if_true]
       have e0:cJ 0 q.e=0:=by rw [bt];simp
       rw [e0]
       exact .df id e hi
     ·cases hr
    ·cases hr
   ·cases hr
  ·cases hr
 ·rename_i len el hu
  split at hr
  ·rename_i z dc
   have arr:∀(id:Nat) (q:Row),bj s x= .addr id 0->look s.H id=some q->q.full=true-> ∀S0 w0 n O a w φ,aH S0 w0 n O s a w φ-> ∃g,a.eval x= .pointer (some ⟨g,0,none⟩)∧az s.H φ id=some (q.e,q.cells.length,some g)∧aS w g=q.cells.length:=by
    intro id q he hq hf S0 w0 n O a w φ hs
    have hx:=hs.bj x
    rw [he] at hx
    obtain ⟨e,m,g,hi,hv⟩:=jE hx
    obtain ⟨q',gB,h1,h2,h3⟩:=aL hi
    rw [hq] at gB;injection gB with gB;subst gB
    refine ⟨g,hv,by rw [bn hq,h3],?_⟩
    have aK:=hs.rows id q hq
    unfold bJ at aK
    rw [h3] at aK
    obtain ⟨cur,te,fr,hg,-,-,mD,-⟩:=aK
    unfold aS;rw [hg]
    exact mD hf
   split at hr
   ·rename_i id he
    split at hr
    ·rename_i q hq
     split at hr
     ·rename_i hb hf
      have uq:q.e=z+1:=Nat.eq_of_beq_eq_true hb
      injection hr with hr;subst hr
      intro hC S0 w0 n O a w φ hs
      obtain ⟨g,hv,hi,gw⟩:=arr id q he hq hf S0 w0 n O a w φ hs
      obtain ⟨iz,D0,-⟩:=hC
      rw [bt] at iz
      refine ⟨_,ji hs ho hc hu dc hv (l:=0) (m:=len) ⟨rfl,rfl⟩,?_⟩
      have:(if len=0 then (⟨g,0,none⟩:Addr) else (⟨g,0,none⟩:Addr).add (0*(z+1)))=⟨g,0,none⟩:=by simp [dd]
      rw [this]
      exact .ref id q.e _ g len len hi (by rw [iz,Nat.mul_comm]) (Nat.le_refl _) D0 (by rw [gw,iz,Nat.mul_comm])
     ·cases hr
    ·cases hr
   ·rename_i id n he
    split at hr
    ·rename_i q hq
     split at hr
     ·rename_i hb hf
      have uq:q.e=z+1:=Nat.eq_of_beq_eq_true hb
      injection hr with hr;subst hr
      intro hC S0 w0 n' O a w φ hs
      obtain ⟨g,hv,hi,gw⟩:=arr id q he hq hf S0 w0 n' O a w φ hs
      obtain ⟨PI,FY,iz,D0,-⟩:=hC
      rw [bt] at iz
      refine ⟨_,ji hs ho hc hu dc hv (l:=0) (m:=h.m) ⟨rfl,PI,FY⟩,?_⟩
      have:(if len=0 then (⟨g,0,none⟩:Addr) else (⟨g,0,none⟩:Addr).add (0*(z+1)))=⟨g,0,none⟩:=by simp [dd]
      rw [this,bt]
      exact .pre id _ q.e _ g h.m len hi (by rw [Nat.mul_comm]) (by rw [iz];exact Nat.mul_le_mul_right _ FY) FY D0 (by rw [gw,iz,Nat.mul_comm])
     ·cases hr
    ·cases hr
   ·rename_i id n he
    split at hr
    ·rename_i q hq
     split at hr
     ·rename_i hb hf
      have uq:q.e=z+1:=Nat.eq_of_beq_eq_true hb
      injection hr with hr;subst hr
      intro hC S0 w0 n' O a w φ hs
      obtain ⟨g,hv,hi,gw⟩:=arr id q he hq hf S0 w0 n' O a w φ hs
      obtain ⟨PI,FY,iz,D0,-⟩:=hC
      rw [bt] at iz
      refine ⟨_,ji hs ho hc hu dc hv (l:=h.k) (m:=len) ⟨PI,FY,rfl⟩,?_⟩
      rw [bt,bt]
      have hmul:h.k*q.e≤len*q.e:=Nat.mul_le_mul_right _ FY
      refine .jg id _ _ q.e _ (len-h.k) (len-h.k) (some g) _ hi (by rw [Nat.mul_comm]) (by rw [Nat.sub_mul,iz];omega) ah ah (fun h0=>⟨g,rfl,?_⟩)
      have cK:len≠h.k:=by
       intro e'
       have:len-h.k=0:=ah
       rw [this,Nat.zero_mul] at h0;omega
      rw [if_neg cK]
      simp [eJ,uq]
     ·cases hr
    ·cases hr
   ·rename_i id n n2 he
    split at hr
    ·rename_i q hq
     split at hr
     ·rename_i hb hf
      have uq:q.e=z+1:=Nat.eq_of_beq_eq_true hb
      injection hr with hr;subst hr
      intro hC S0 w0 n' O a w φ hs
      obtain ⟨g,hv,hi,gw⟩:=arr id q he hq hf S0 w0 n' O a w φ hs
      obtain ⟨PI,Og,TE,FY,iz,D0,-⟩:=hC
      rw [bt] at iz
      refine ⟨_,ji hs ho hc hu dc hv (l:=h.k) (m:=h.m) ⟨PI,Og,TE,FY⟩,?_⟩
      rw [bt,bt]
      have hmul:h.k*q.e≤h.m*q.e:=Nat.mul_le_mul_right _ TE
      have Tg:h.m*q.e≤len*q.e:=Nat.mul_le_mul_right _ FY
      refine .jg id _ _ q.e _ (h.m-h.k) (len-h.k) (some g) _ hi (by rw [Nat.mul_comm]) (by rw [Nat.sub_mul,iz];omega) ah ah (fun h0=>⟨g,rfl,?_⟩)
      have cK:len≠h.k:=by
       intro e'
       have:h.m-h.k=0:=ah
       rw [this,Nat.zero_mul] at h0;omega
      rw [if_neg cK]
      simp [eJ,uq]
     ·cases hr
    ·cases hr
   ·cases hr
  ·cases hr
 ·cases hr
end
section
variable {P:Program} {s:AS} {o:Oper} {h:Hint} {r:AV×List Prop}
def qZ (P:Program) (t:TypeId) (cs:List AV) (off:Nat) (h:Hint):Option (AV×List Prop) :=
 match dN P t,P.underlying t with
 | some sz,some d =>
  (match d with
  | .struct _| .array _ _=>(match Nat.beq ((cs.drop off).take sz).length sz with|true=>some (.agg ((cs.drop off).take sz),[])|false=>none)
  | _=>(match h.av with
   | some y=>some (y,[cs[off]?=some y])
   | none=>(match cs[off]? with|some y=>some (y,[])|none=>none)))
 | _,_=>none
theorem wz {I:Info} {S:Nat->Prop} {w:World} {t:TypeId} {cs:List AV} {off:Nat} (hr:qZ P t cs off h=some r) (hC:bu r.2) (vs:List Value) (hl:vs.length=cs.length) (hd:∀(j:Nat) v c,vs[j]?=some v->cs[j]?=some c->Den I S w v c) :
  ∃v,(part t vs.toArray off).run P w= .ok v w∧Den I S w v r.1:=by
 unfold qZ at hr
 split at hr
 ·rename_i sz d dc hu
  have hz:(sizeOf t).run P w= .ok sz w:=run_sizeOf dc
  have agg:cy P t=true->Nat.beq ((cs.drop off).take sz).length sz=true->r=(.agg ((cs.drop off).take sz),[])-> ∃v,(part t vs.toArray off).run P w= .ok v w∧Den I S w v r.1:=by
   intro ha hb hr
   subst hr
   have hlen:=Nat.eq_of_beq_eq_true hb
   rw [List.length_take,List.length_drop] at hlen
   refine ⟨.agg (vs.toArray.extract off (off+sz)),?_,?_⟩
   ·simp [part,ie ⟨d,hu⟩,ha,hz]
   ·have e:vs.toArray.extract off (off+sz)=((vs.drop off).take sz).toArray:=by
     simp [List.extract_eq_take_drop]
    rw [e]
    exact .agg _ _ (by rw [List.length_take,List.length_drop,List.length_take,List.length_drop];omega) fun j v c hv hc=>hd (off+j) v c (bO _ _ _ _ _ hv) (bO _ _ _ _ _ hc)
  have one:∀y,cy P t=false->cs[off]?=some y-> ∃v,(part t vs.toArray off).run P w= .ok v w∧Den I S w v y:=by
   intro y ha hy
   have cW:off<vs.length:=by have:=(List.getElem?_eq_some_iff.1 hy).1;omega
   have hv:vs[off]?=some vs[off]:=List.getElem?_eq_getElem cW
   refine ⟨vs[off],?_,hd off _ y hv hy⟩
   simp [part,ie ⟨d,hu⟩,ha,cW]
  split at hr
  ·have ha:cy P t=true:=by unfold cy;rw [hu]
   split at hr
   ·rename_i hb;injection hr with hr;exact agg ha hb hr.symm
   ·cases hr
  ·have ha:cy P t=true:=by unfold cy;rw [hu]
   split at hr
   ·rename_i hb;injection hr with hr;exact agg ha hb hr.symm
   ·cases hr
  ·rename_i NW Rz
   have ha:cy P t=false:=by
    unfold cy;rw [hu]
    cases d<;>first|rfl|exact absurd rfl (NW _)|exact absurd rfl (Rz _ _)
   split at hr
   ·injection hr with hr;subst hr
    exact one _ ha hC.1
   ·split at hr
    ·rename_i y hy
     injection hr with hr;subst hr
     exact one _ ha hy
    ·cases hr
 ·cases hr
def xJ (P:Program) (t:TypeId) (x:AV) (f:Nat) (h:Hint):Option (AV×List Prop) :=
 match P.underlying t,x with
 | some (.struct fields),.agg cs=>(match fields[f]? with|some fd=>qZ P fd.type cs fd.offset h|none=>none)
 | _,_=>none
theorem Ck {t:TypeId} {x:Operand} {f:Nat} (ho:o.op= .field t x f) (hr:xJ P t (bj s x) f h=some r):cS P s o r.1 r.2:=by
 intro hC S0 w0 n O a w φ hs
 have hx:=hs.bj x
 unfold xJ at hr
 split at hr
 ·rename_i fields cs hu he
  split at hr
  ·rename_i fd hf
   rw [he] at hx
   obtain ⟨vs,hv,hl,hd⟩:=j8 hx
   obtain ⟨v,h1,h2⟩:=wz hr hC vs hl hd
   refine ⟨v,?_,h2⟩
   unfold execOp
   simp [ho,Instr.field,run_underlying hu,hf,hv,asAgg,h1]
  ·cases hr
 ·cases hr
def q7 (x:AV) (i:Nat):Option (AV×List Prop) :=
 match x with
 | .br cs=>(match cs[i]? with|some y=>some (y,[])|none=>none)
 | _=>none
theorem xK {x:Operand} {i:Nat} (ho:o.op= .extract x i) (hr:q7 (bj s x) i=some r):cS P s o r.1 r.2:=by
 intro hC S0 w0 n O a w φ hs
 have hx:=hs.bj x
 unfold q7 at hr
 split at hr
 ·rename_i cs he
  split at hr
  ·rename_i y hy
   injection hr with hr;subst hr
   rw [he] at hx
   obtain ⟨vs,hv,hl,hd⟩:=xX hx
   have cW:i<vs.length:=by have:=(List.getElem?_eq_some_iff.1 hy).1;omega
   have Ua:vs[i]?=some vs[i]:=List.getElem?_eq_getElem cW
   refine ⟨vs[i],?_,hd i _ y Ua hy⟩
   unfold execOp
   simp [ho,Instr.extract,hv,cW]
  ·cases hr
 ·cases hr
def xH (P:Program) (t:TypeId) (x:AV) (n:Int) (h:Hint):Option (AV×List Prop) :=
 match P.underlying t,x with
 | some (.array len el),.agg cs=>(match dN P el with|some z=>(match qZ P el cs (cJ h.k z) h with|some r=>some (r.1,(n=(h.k:Int))::(h.k<len)::r.2)|none=>none)|none=>none)
 | some (.array len el),.arr cs=>(match dN P el with|some z=>(match qZ P el cs (cJ h.k z) h with|some r=>some (r.1,(n=(h.k:Int))::(h.k<len)::r.2)|none=>none)|none=>none)
 | some .string,.val (.string b)=>some (fin h (.val (.int .u8 (bv (b.data.toList.getD h.k 0))),[n=(h.k:Int),h.k<b.size]))
 | _,_=>none
theorem pZ {I:Info} {S:Nat->Prop} {w:World} {v:Value} {cs:List AV} (h:Den I S w v (.arr cs)):∃vs:List Value,v= .agg vs.toArray∧vs.length=cs.length∧ ∀(j:Nat) v c,vs[j]?=some v->cs[j]?=some c->cp S w v c:=by
 cases h with
 | rep h=>cases h with|arr vs _ hl h=>exact ⟨vs,rfl,hl,h⟩
theorem Ci {t:TypeId} {x i:Operand} {k:IntKind} {n:Int} (ho:o.op= .index t x i) (hi:bj s i= .val (.int k n)) (hr:xH P t (bj s x) n h=some r):cS P s o r.1 r.2:=by
 unfold xH at hr
 have arr:∀(len:Nat) (el:TypeId) (z:Nat) (q:AV×List Prop) (cs:List AV),P.underlying t=some (.array len el)->dN P el=some z->qZ P el cs (cJ h.k z) h=some q->r=(q.1,(n=(h.k:Int))::(h.k<len)::q.2) ->
   (∀S0 w0 n O a w φ,aH S0 w0 n O s a w φ-> ∃vs:List Value,a.eval x= .agg vs.toArray∧vs.length=cs.length∧ ∀(j:Nat) v c,vs[j]?=some v->cs[j]?=some c->Den (az s.H φ) (aJ S0 w φ O) w v c)->cS P s o r.1 r.2:=by
  intro len el z q cs hu hz hq hr hX
  subst hr
  intro hC S0 w0 n' O a w φ hs
  obtain ⟨h1,h2,hC⟩:=hC
  have ei:a.eval i= .int k n:=bE (hi ▸ hs.bj i)
  obtain ⟨vs,hv,hl,hd⟩:=hX S0 w0 n' O a w φ hs
  obtain ⟨v,h3,h4⟩:=wz hq hC vs hl hd
  refine ⟨v,?_,h4⟩
  have qi:0≤n∧n<(len:Int):=ah
  have hk:n.toNat=h.k:=ah
  have z6:(sizeOf el).run P w= .ok z w:=run_sizeOf hz
  rw [bt] at h3
  unfold execOp
  simp [ho,Instr.index,run_underlying hu,hv,asIntOf,ei,qi,hk,z6,h3]
 split at hr
 ·rename_i len el cs hu he
  split at hr
  ·rename_i z hz
   split at hr
   ·rename_i q hq
    injection hr with hr
    refine arr len el z q cs hu hz hq hr.symm fun S0 w0 n O a w φ hs=>?_
    have hx:=hs.bj x
    rw [he] at hx
    exact j8 hx
   ·cases hr
  ·cases hr
 ·rename_i len el cs hu he
  split at hr
  ·rename_i z hz
   split at hr
   ·rename_i q hq
    injection hr with hr
    refine arr len el z q cs hu hz hq hr.symm fun S0 w0 n O a w φ hs=>?_
    have hx:=hs.bj x
    rw [he] at hx
    obtain ⟨vs,h1,h2,h3⟩:=pZ hx
    exact ⟨vs,h1,h2,fun j v c hv hc=>.rep (h3 j v c hv hc)⟩
   ·cases hr
  ·cases hr
 ·rename_i b hu he
  injection hr with hr;subst hr
  refine gm ?_
  intro hC S0 w0 n' O a w φ hs
  obtain ⟨h1,h2,-⟩:=hC
  have ei:a.eval i= .int k n:=bE (hi ▸ hs.bj i)
  have ex:a.eval x= .string b:=bE (he ▸ hs.bj x)
  refine ⟨_,?_,.rep (.val _)⟩
  have h0:0≤n:=ah
  have hk:n.toNat=h.k:=ah
  unfold execOp
  simp [ho,Instr.index,run_underlying hu,ex,asIntOf,ei,h0,hk,h2]
  rfl
 ·cases hr
def Ip (x:AV):Option (AV×List Prop) :=
 match x with
 | .ptr row off=>some (.ptr row off,[])
 | .addr id off=>some (.addr id off,[])
 | .val (.func (.func f) l c)=>some (.val (.func (.func f) l c),[])
 | _=>none
theorem Io {x:Operand} (ho:o.op= .nilCheck x) (hr:Ip (bj s x)=some r):cS P s o r.1 r.2:=by
 intro hC S0 w0 n O a w φ hs
 have hx:=hs.bj x
 unfold Ip at hr
 split at hr
 ·rename_i row off he
  injection hr with hr;subst hr
  rw [he] at hx
  obtain ⟨ad,us,hv,-⟩:=sQ hx
  refine ⟨a.eval x,?_,hx⟩
  unfold execOp
  simp [ho,hv]
 ·rename_i id off he
  injection hr with hr;subst hr
  rw [he] at hx
  obtain ⟨e,m,g,-,hv⟩:=jE hx
  refine ⟨a.eval x,?_,hx⟩
  unfold execOp
  simp [ho,hv]
 ·rename_i f l c he
  injection hr with hr;subst hr
  rw [he] at hx
  have hv:=bE hx
  refine ⟨a.eval x,?_,hx⟩
  unfold execOp
  simp [ho,hv]
 ·cases hr
def Ce (s:AS) (c x y:Operand) (h:Hint):Option (AV×List Prop) :=
 match bj s c with
 | .val (.bool b)=>(match h.b with|true=>some (bj s x,[b=true])|false=>some (bj s y,[b=false]))
 | _=>none
theorem Fk {c x y:Operand} {h:Hint} (ho:o.op= .pick c x y) (hr:Ce s c x y h=some r):cS P s o r.1 r.2:=by
 intro hC S0 w0 n O a w φ hs
 unfold Ce at hr
 split at hr
 ·rename_i b he
  split at hr
  ·cases hr
   have ec:a.eval c= .bool true:=by
    have h1:a.eval c= .bool b:=bE (he ▸ hs.bj c)
    rw [h1,show b=true from hC.1]
   refine ⟨a.eval x,?_,hs.bj x⟩
   unfold execOp
   simp [ho,ec,asBool]
  ·cases hr
   have ec:a.eval c= .bool false:=by
    have h1:a.eval c= .bool b:=bE (he ▸ hs.bj c)
    rw [h1,show b=false from hC.1]
   refine ⟨a.eval y,?_,hs.bj y⟩
   unfold execOp
   simp [ho,ec,asBool]
 ·cases hr
def Ir (P:Program) (s:AS) (ts:Array TypeId) (ty:TypeId) (x:AV) (h:Hint):Option (AV×List Prop) :=
 match x with
 | .val u=>(match jW P (Builtin.len_ ts ty #[u]) with|some z=>some (fin h (.val z,[]))|none=>none)
 | x=>(match ts[0]? with
  | some t=>(match P.underlying t with
   | some (.slice _)=>(match x with
    | .nil=>some (.val (.int .i64 0),[])
    | .sl (e+1) row=>some (.val (.int .i64 h.k),[row.length=cJ h.k (e+1)])
    | .ref id=>(match look s.H id with|some ⟨e+1,_,_,cells⟩=>some (.val (.int .i64 h.k),[cells.length=cJ h.k (e+1)])|_=>none)
    | .pre id l=>(match look s.H id with|some ⟨e+1,_,_,_⟩=>some (.val (.int .i64 h.k),[l=cJ h.k (e+1)])|_=>none)
    | .jg id _ l=>(match look s.H id with|some ⟨e+1,_,_,_⟩=>some (.val (.int .i64 h.k),[l=cJ h.k (e+1)])|_=>none)
    | _=>none)
   | some (.array n _)=>some (.val (.int .i64 n),[])
   | _=>none)
  | none=>none)
theorem qM {q e l k:Nat} (h1:q=cJ k (e+1)) (h2:q=(e+1)*l):l=k:=by
 rw [bt,h2,Nat.mul_comm k] at h1
 exact Nat.eq_of_mul_eq_mul_left ah h1
theorem Iq {x:Operand} {ts:Array TypeId} (ho:o.op= .call {callee:=.builtin .len,args:= #[x],argTypes:=ts}) (hr:Ir P s ts o.type (bj s x) h=some r):cS P s o r.1 r.2:=by
 unfold Ir at hr
 split at hr
 ·rename_i u he
  split at hr
  ·rename_i z hz
   injection hr with hr;subst hr
   refine gm ?_
   intro hC S0 w0 n O a w φ hs
   have ex:a.eval x=u:=bE (he ▸ hs.bj x)
   refine ⟨z,?_,.rep (.val _)⟩
   unfold execOp
   simp [ho,resolve,invoke,builtin,ex,fw w hz]
  ·cases hr
 ·split at hr
  ·rename_i t ht
   split at hr
   ·rename_i el hu
    have run:∀(a:Act) (w:World) (A:Option Addr) (l c:Nat),a.eval x= .slice A l c->(execOp a.eval o).run P w= .ok (.value (.int .i64 l)) w:=by
     intro a w A l c hv
     unfold execOp
     simp [ho,resolve,invoke,builtin,hv,Builtin.len_,ht,run_underlying hu,goInt]
    split at hr
    ·rename_i he
     injection hr with hr;subst hr
     intro hC S0 w0 n O a w φ hs
     have hx:=hs.bj x
     rw [he] at hx
     generalize hV:a.eval x=V at hx
     cases hx with|rep h=>cases h with|nil=>exact ⟨_,run a w _ _ _ hV,.rep (.val _)⟩
    ·rename_i e row he
     injection hr with hr;subst hr
     intro hC S0 w0 n O a w φ hs
     have hx:=hs.bj x
     rw [he] at hx
     have bV:=oS hx
     generalize hV:a.eval x=V at bV
     cases bV with
     | sl A l c _ us _ hl hn hc hm ha h' =>
      have:=qM hC.1 hn
      subst this
      exact ⟨_,run a w _ _ _ hV,.rep (.val _)⟩
    ·rename_i id he
     split at hr
     ·rename_i e pu fu cells hq
      injection hr with hr;subst hr
      intro hC S0 w0 n O a w φ hs
      have hx:=hs.bj x
      rw [he] at hx
      generalize hV:a.eval x=V at hx
      cases hx with
      | rep h=>cases h
      | ref _ e m g l c hi hm hc hx bU =>
       rw [bn hq] at hi
       injection hi with hi;injection hi with h1 hi;injection hi with h2 h3
       have:=qM hC.1 (by rw [show cells.length=m from h2,hm,←h1])
       subst this
       exact ⟨_,run a w _ _ _ hV,.rep (.val _)⟩
      | cw _ e hi =>
       rw [bn hq] at hi
       injection hi with hi;injection hi with h1 hi;injection hi with h2 h3
       have:=qM (l:=0) hC.1 (by rw [show cells.length=0 from h2];simp)
       rw [←this]
       exact ⟨_,run a w _ _ _ hV,.rep (.val _)⟩
     ·cases hr
    ·rename_i id l' he
     split at hr
     ·rename_i e pu fu cells hq
      injection hr with hr;subst hr
      intro hC S0 w0 n O a w φ hs
      have hx:=hs.bj x
      rw [he] at hx
      generalize hV:a.eval x=V at hx
      cases hx with
      | rep h=>cases h
      | pre _ _ e m g l c hi hn hm hc hx bU =>
       rw [bn hq] at hi
       injection hi with hi;injection hi with h1 hi;injection hi with h2 h3
       have:=qM hC.1 (by rw [hn,←h1])
       subst this
       exact ⟨_,run a w _ _ _ hV,.rep (.val _)⟩
      | df _ e hi =>
       have:=qM (l:=0) hC.1 (by simp)
       rw [←this]
       exact ⟨_,run a w _ _ _ hV,.rep (.val _)⟩
     ·cases hr
    ·rename_i id off l' he
     split at hr
     ·rename_i e pu fu cells hq
      injection hr with hr;subst hr
      intro hC S0 w0 n O a w φ hs
      have hx:=hs.bj x
      rw [he] at hx
      generalize hV:a.eval x=V at hx
      cases hx with
      | rep h=>cases h
      | jg _ _ _ e m l c g A hi hn hm hc hx ha =>
       rw [bn hq] at hi
       injection hi with hi;injection hi with h1 hi;injection hi with h2 h3
       have:=qM hC.1 (by rw [hn,←h1])
       subst this
       exact ⟨_,run a w _ _ _ hV,.rep (.val _)⟩
     ·cases hr
    ·cases hr
   ·rename_i n' el hu
    injection hr with hr;subst hr
    intro hC S0 w0 n O a w φ hs
    refine ⟨.int .i64 n',?_,.rep (.val _)⟩
    unfold execOp
    simp [ho,resolve,invoke,builtin,Builtin.len_,ht,run_underlying hu,goInt]
   ·cases hr
  ·cases hr
def td (s:AS):List Operand->Option (List Value)
 | []=>some []
 | x::l=>match bj s x,td s l with| .val u,some m=>some (u::m)|_,_=>none
theorem vC {S0:bf} {w0 w:World} {n:Nat} {O:List Nat} {a:Act} {φ:Nat->Option Nat} (hs:aH S0 w0 n O s a w φ):∀(xs:List Operand) (us:List Value),td s xs=some us->xs.map a.eval=us
 | [],us,h=>by cases h;rfl
 | x::l,us,h=>by
  simp only [td] at h
  split at h
  ·rename_i u m hu hm
   injection h with h;subst h
   rw [List.map_cons,vC hs l m hm,show a.eval x=u from bE (hu ▸ hs.bj x)]
  ·cases h
def Nk (P:Program) (b:Builtin) (ts:Array TypeId) (ty:TypeId) (us:List Value):Option (AV×List Prop) :=
 match b with
 | .min=>(match jW P (Builtin.min_ ts ty us.toArray) with|some z=>some (.val z,[])|none=>none)
 | .max=>(match jW P (Builtin.max_ ts ty us.toArray) with|some z=>some (.val z,[])|none=>none)
 | _=>none
theorem KU {b:Builtin} {xs:Array Operand} {ts:Array TypeId} {us:List Value} (ho:o.op= .call {callee:=.builtin b,args:=xs,argTypes:=ts}) (hu:td s xs.toList=some us) (hr:Nk P b ts o.type us=some r):cS P s o r.1 r.2:=by
 intro hC S0 w0 n O a w φ hs
 have e:=vC hs _ _ hu
 have e2:xs.map a.eval=us.toArray:=Array.toList_inj.1 (by rw [Array.toList_map,e])
 unfold Nk at hr
 split at hr
 ·split at hr
  ·rename_i z hz
   injection hr with hr;subst hr
   refine ⟨z,?_,.rep (.val _)⟩
   unfold execOp
   simp [ho,resolve,invoke,builtin,e2,fw w hz]
  ·cases hr
 ·split at hr
  ·rename_i z hz
   injection hr with hr;subst hr
   refine ⟨z,?_,.rep (.val _)⟩
   unfold execOp
   simp [ho,resolve,invoke,builtin,e2,fw w hz]
  ·cases hr
 ·cases hr
end
end Go.Proofs.YtjgbhhnghedgdaaGreatDoor
