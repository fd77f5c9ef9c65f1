import Derived.Test.YtjgbhhnghedgdaaGreatDoorZfRW
import Derived.Shelf.Unicode.DecodeSlow
import Derived.Calls
import Derived.Laws.Cells
set_option linter.all false
namespace Go.Proofs.YtjgbhhnghedgdaaGreatDoor
open Go.RowKit
inductive AV where
 | val (v:Value)
 | nil
 | agg (cs:List AV)
 | b_ (cs:List AV)
 | arr (cs:List AV)
 | sl (e:Nat) (row:List AV)
 | ptr (row:List AV) (off:Nat)
 | own (e:Nat) (row:List AV)
 | box (row:List AV)
 | ref (id:Nat)
 | pre (id n:Nat)
 | jE (id off n:Nat)
 | addr (id off:Nat)
 | lu (f:Nat) (cs:List AV)
 | sm (e:Nat) (row:List AV)
 | dead
 deriving Inhabited
inductive cz (S:Nat->Prop) (w:World):Value->AV->Prop
 | val (v:Value):cz S w v (.val v)
 | nil:cz S w (.slice none 0 0) .nil
 | agg (vs:List Value) (cs:List AV) (hl:vs.length=cs.length) (h:∀(j:Nat) v c,vs[j]?=some v->cs[j]?=some c->cz S w v c):cz S w (.agg vs.toArray) (.agg cs)
 | b_ (vs:List Value) (cs:List AV) (hl:vs.length=cs.length) (h:∀(j:Nat) v c,vs[j]?=some v->cs[j]?=some c->cz S w v c):cz S w (.tuple vs.toArray) (.b_ cs)
 | arr (vs:List Value) (cs:List AV) (hl:vs.length=cs.length) (h:∀(j:Nat) v c,vs[j]?=some v->cs[j]?=some c->cz S w v c):cz S w (.agg vs.toArray) (.arr cs)
 | sl (A:Option Addr) (n c e:Nat) (us:List Value) (row:List AV) (hl:us.length=row.length) (hn:row.length=e*n) (hc:n≤c) (hm:c≤maxLen)
   (ha:0<row.length-> ∃ad,A=some ad∧S ad.block∧ ∀(j:Nat) u,us[j]?=some u->w.cell? (ad.add j)=some u)
   (h:∀(j:Nat) u x,us[j]?=some u->row[j]?=some x->cz S w u x):cz S w (.slice A n c) (.sl e row)
 | sm (A:Option Addr) (n e:Nat) (us:List Value) (row:List AV) (hl:us.length=row.length) (hn:row.length=e*n) (hm:n≤maxLen)
   (ha:0<row.length-> ∃ad,A=some ad∧S ad.block∧ ∀(j:Nat) u,us[j]?=some u->w.cell? (ad.add j)=some u)
   (h:∀(j:Nat) u x,us[j]?=some u->row[j]?=some x->cz S w u x):cz S w (.slice A n n) (.sm e row)
 | ptr (ad:Addr) (us:List Value) (row:List AV) (off:Nat) (hl:us.length=row.length) (hs:S ad.block) (ha:∀(j:Nat) u,us[j]?=some u->w.cell? (ad.add j)=some u)
   (h:∀(j:Nat) u x,us[j]?=some u->row[j]?=some x->cz S w u x):cz S w (.pointer (some (ad.add off))) (.ptr row off)
 | lu (f:Nat) (vs:List Value) (cs:List AV) (hl:vs.length=cs.length) (h:∀(j:Nat) v c,vs[j]?=some v->cs[j]?=some c->cz S w v c):cz S w (.func (.func f) #[] vs.toArray) (.lu f cs)
theorem kK {w w':World} {p:Addr} (h:w'.heap[p.block]?=w.heap[p.block]?):w'.cell? p=w.cell? p:=World.cell?_of_block (w:=w) h
theorem cz.mono {S S':Nat->Prop} {w w':World} (hS:∀b,S b->S' b∧w'.heap[b]?=w.heap[b]?) {v:Value} {av:AV} (h:cz S w v av):cz S' w' v av:=by
 induction h with
 | val v=>exact .val v
 | nil=>exact .nil
 | agg vs cs hl _ ih=>exact .agg vs cs hl ih
 | b_ vs cs hl _ ih=>exact .b_ vs cs hl ih
 | arr vs cs hl _ ih=>exact .arr vs cs hl ih
 | sl A n c e us row hl hn hc hm ha _ ih =>
  refine .sl A n c e us row hl hn hc hm (fun h0=>?_) ih
  obtain ⟨ad,rfl,hb,bt⟩:=ha h0
  exact ⟨ad,rfl,(hS _ hb).1,fun j u hu=>(kK (by rw [hU];exact (hS _ hb).2)).trans (bt j u hu)⟩
 | sm A n e us row hl hn hm ha _ ih =>
  refine .sm A n e us row hl hn hm (fun h0=>?_) ih
  obtain ⟨ad,rfl,hb,bt⟩:=ha h0
  exact ⟨ad,rfl,(hS _ hb).1,fun j u hu=>(kK (by rw [hU];exact (hS _ hb).2)).trans (bt j u hu)⟩
 | ptr ad us row off hl hs ha _ ih =>
  exact .ptr ad us row off hl (hS _ hs).1 (fun j u hu=>(kK (by rw [hU];exact (hS _ hs).2)).trans (ha j u hu)) ih
 | lu f vs cs hl _ ih=>exact .lu f vs cs hl ih
abbrev Info:=Nat->Option (Nat×Nat×Option Nat)
def aY (w:World) (g:Nat):Nat:=match w.heap[g]? with|some (.cells c _ _)=>c.size|_=>0
inductive Den (I:Info) (S:Nat->Prop) (w:World):Value->AV->Prop
 | rep {v:Value} {av:AV} (h:cz S w v av):Den I S w v av
 | agg (vs:List Value) (cs:List AV) (hl:vs.length=cs.length) (h:∀(j:Nat) v c,vs[j]?=some v->cs[j]?=some c->Den I S w v c):Den I S w (.agg vs.toArray) (.agg cs)
 | b_ (vs:List Value) (cs:List AV) (hl:vs.length=cs.length) (h:∀(j:Nat) v c,vs[j]?=some v->cs[j]?=some c->Den I S w v c):Den I S w (.tuple vs.toArray) (.b_ cs)
 | ref (id e m g l c:Nat) (hi:I id=some (e,m,some g)) (hm:m=e*l) (hc:l≤c) (hx:c≤maxLen) (hs:aY w g=e*c):Den I S w (.slice (some ⟨g,0,none⟩) l c) (.ref id)
 | cB (id e:Nat) (hi:I id=some (e,0,none)):Den I S w (.slice none 0 0) (.ref id)
 | pre (id n e m g l c:Nat) (hi:I id=some (e,m,some g)) (hn:n=e*l) (hm:n≤m) (hc:l≤c) (hx:c≤maxLen) (hs:aY w g=e*c):Den I S w (.slice (some ⟨g,0,none⟩) l c) (.pre id n)
 | dH (id e:Nat) (hi:I id=some (e,0,none)):Den I S w (.slice none 0 0) (.pre id 0)
 | jE (id off n e m l c:Nat) (g:Option Nat) (A:Option Addr) (hi:I id=some (e,m,g)) (hn:n=e*l) (hm:off+n≤m) (hc:l≤c) (hx:c≤maxLen) (ha:0<n-> ∃b,g=some b∧A=some ⟨b,off,none⟩):Den I S w (.slice A l c) (.jE id off n)
 | addr (id off e m g:Nat) (hi:I id=some (e,m,some g)):Den I S w (.pointer (some ⟨g,off,none⟩)) (.addr id off)
 | dead (v:Value):Den I S w v .dead
theorem Den.mono {I I':Info} {S S':Nat->Prop} {w w':World} (hI:∀id x,I id=some x->I' id=some x) (hS:∀b,S b->S' b∧w'.heap[b]?=w.heap[b]?)
  (hL:∀id e m g,I id=some (e,m,some g)->aY w' g=aY w g) {v:Value} {av:AV} (h:Den I S w v av):Den I' S' w' v av:=by
 induction h with
 | rep h=>exact .rep (h.mono hS)
 | agg vs cs hl _ ih=>exact .agg vs cs hl ih
 | b_ vs cs hl _ ih=>exact .b_ vs cs hl ih
 | ref id e m g l c hi hm hc hx hs=>exact .ref id e m g l c (hI _ _ hi) hm hc hx ((hL _ _ _ _ hi).trans hs)
 | cB id e hi=>exact .cB id e (hI _ _ hi)
 | pre id n e m g l c hi hn hm hc hx hs=>exact .pre id n e m g l c (hI _ _ hi) hn hm hc hx ((hL _ _ _ _ hi).trans hs)
 | dH id e hi=>exact .dH id e (hI _ _ hi)
 | jE id off n e m l c g A hi hn hm hc hx ha=>exact .jE id off n e m l c g A (hI _ _ hi) hn hm hc hx ha
 | addr id off e m g hi=>exact .addr id off e m g (hI _ _ hi)
 | dead v=>exact .dead v
structure Row where
 e:Nat
 pure:Bool
 full:Bool
 cells:List AV
def bg (I:Info) (S:Nat->Prop) (w:World) (p:Bool) (u:Value) (x:AV):Prop:=match p with|true=>cz S w u x|false=>Den I S w u x
def bK (I:Info) (S:Nat->Prop) (w:World) (b:Option Nat) (r:Row):Prop :=
 match b with
 | none=>r.cells= []
 | some g=>∃cur te fr,w.heap[g]?=some (.cells cur te fr)∧(∀j,j<cur.size-> ¬(fr.1≤j∧j<fr.2))∧r.cells.length≤cur.size∧(r.full=true->cur.size=r.cells.length) ∧
   ∀(j:Nat) u x,cur[j]?=some u->r.cells[j]?=some x->bg I S w r.pure u x
def look {α:Type}:List (Nat×α)->Nat->Option α
 | [],_=>none
 | (k,x)::l,i=>match Nat.beq k i with|true=>some x|false=>look l i
def cP {α:Type}:List (Nat×α)->Nat->List (Nat×α)
 | [],_=>[]
 | (k,x)::l,i=>match Nat.beq k i with|true=>cP l i|false=>(k,x)::cP l i
def eu {α:Type} (f:α->α):List (Nat×α)->List (Nat×α)
 | []=>[]
 | (k,x)::l=>(k,f x)::eu f l
theorem bE (k i:Nat):(Nat.beq k i=true∧k=i)∨(Nat.beq k i=false∧k≠i):=by
 cases h:Nat.beq k i with
 | true=>exact .inl ⟨rfl,Nat.eq_of_beq_eq_true h⟩
 | false=>exact .inr ⟨rfl,Nat.ne_of_beq_eq_false h⟩
theorem aD {α:Type} (k:Nat) (x:α) (l:List (Nat×α)) (i:Nat):look ((k,x)::l) i=if k=i then some x else look l i:=by
 rcases bE k i with ⟨h,e⟩|⟨h,e⟩<;>simp [look,h,e]
theorem bD {α:Type} (l:List (Nat×α)) (i j:Nat):look (cP l i) j=if i=j then none else look l j:=by
 induction l with
 | nil=>simp [cP,look]
 | cons p l ih =>
  obtain ⟨k,x⟩:=p
  rcases bE k i with ⟨h,e⟩|⟨h,e⟩
  ·simp only [cP,h];rw [ih,aD,e]
   by_cases hj:i=j<;>simp [hj]
  ·simp only [cP,h,aD,ih]
   by_cases hk:k=j
   ·subst hk;simp [Ne.symm e]
   ·simp [hk]
theorem cp {α:Type} (f:α->α) (l:List (Nat×α)) (i:Nat):look (eu f l) i=(look l i).map f:=by
 induction l with
 | nil=>rfl
 | cons p l ih =>
  obtain ⟨k,x⟩:=p
  simp only [eu,aD,ih]
  by_cases hk:k=i<;>simp [hk]
theorem bJ {α:Type} (l m:List (Nat×α)) (i:Nat):look (l++m) i=(look l i).or (look m i):=by
 induction l with
 | nil=>simp [look]
 | cons p l ih =>
  obtain ⟨k,x⟩:=p
  simp only [List.cons_append,aD,ih]
  by_cases hk:k=i<;>simp [hk]
structure AS where
 F:List (Nat×AV)
 H:List (Nat×Row)
def az (H:List (Nat×Row)) (φ:Nat->Option Nat):Info:=fun id=>(look H id).map fun r=>(r.e,r.cells.length,φ id)
def TB (b:Nat):Prop:=b=0∨b=1
def Good (w:World):Prop:=Lib.Utf8Tabs 0 1 w
theorem Good.aa {w w':World} (h:Good w) (hk:∀b,TB b->w'.heap[b]?=w.heap[b]?):Good w' :=
 ⟨fun c hc=>(World.cell?_of_block (hk _ (.inl rfl))).trans (h.1 c hc),fun i hi=>⟨(World.cell?_of_block (hk _ (.inr rfl))).trans (h.2 i hi).1,(World.cell?_of_block (hk _ (.inr rfl))).trans (h.2 i hi).2⟩⟩
theorem Good.lt {w:World} (h:Good w) {b:Nat} (hb:TB b):b<w.heap.size:=by
 have lt:∀ {a:Addr} {v:Value},w.cell? a=some v->a.block<w.heap.size:=fun {a v} hc=>by
  rcases Nat.lt_or_ge a.block w.heap.size with h'|h'
  ·exact h'
  ·simp [World.cell?,Array.getElem?_eq_none h'] at hc
 rcases hb with rfl|rfl
 ·exact lt (h.1 0 (by decide))
 ·exact lt (h.2 0 (by decide)).1
structure bo where
 S:Nat->Prop
 X:Nat->Prop
 fix:Nat->Option Nat
 tu:List Deferred:=[]
instance:CoeFun bo fun _=>Nat->Prop:=⟨bo.S⟩
def R6 (S0:bo) (w0:World) (id g:Nat):Prop:=(id<1000000000000∨S0.fix id=some g)∧(w0.heap.size≤g∨S0.X g)
structure Kept (S0:bo) (w0 w:World):Prop where
 os:w.os=w0.os
 tape:w.tape=w0.tape
 output:w.output=w0.output
 size:w0.heap.size≤w.heap.size
 block:∀k,k<w0.heap.size-> ¬S0.X k->w.heap[k]?=w0.heap[k]?
 g0:Good w0
 gx:∀b,TB b-> ¬S0.X b
theorem Kept.m7 {S0:bo} {w0 w:World} (h:Kept S0 w0 w):Good w:=h.g0.aa fun b hb=>h.block b (h.g0.lt hb) (h.gx b hb)
theorem Kept.ql {S0:bo} {w0 w w':World} (h:Kept S0 w0 w) (hb:Below w.heap.size w w'):Kept S0 w0 w' :=
 ⟨hb.os.trans h.os,hb.tape.trans h.tape,hb.output.trans h.output,Nat.le_trans h.size hb.size,fun k hk hx=>(hb.block k (Nat.lt_of_lt_of_le hk h.size)).trans (h.block k hk hx),h.g0,h.gx⟩
theorem Kept.below {S0:bo} {w0 w:World} (h:Kept S0 w0 w) (hX:∀b,¬S0.X b):Below w0.heap.size w0 w :=
 ⟨h.os,h.tape,h.output,h.size,fun k hk=>h.block k hk (hX k)⟩
def aO (S0:bo) (w:World) (φ:Nat->Option Nat) (O:List Nat):Nat->Prop:=fun b=>b<w.heap.size∧b ∉ O∧(∀id,φ id≠some b)∧S0 b
structure aJ (S0:bo) (w0:World) (n:Nat) (O:List Nat) (s:AS) (a:Act) (w:World) (φ:Nat->Option Nat):Prop where
 j7:a.tmps.size=n
 j_:a.defers=S0.tu
 cX:Kept S0 w0 w
 cA:∀i av,look s.F i=some av->Den (az s.H φ) (aO S0 w φ O) w (a.tmps.getD i undef) av
 rows:∀id r,look s.H id=some r->bK (az s.H φ) (aO S0 w φ O) w (φ id) r
 only:∀id,look s.H id=none->φ id=none
 inj:∀id pU g,φ id=some g->φ pU=some g->id=pU
 cW:∀id g,φ id=some g->R6 S0 w0 id g∧g<w.heap.size
 apart:∀id g,φ id=some g->g ∉ O
 new:∀b,(w0.heap.size≤b∨S0.X b)->S0 b
def iI (S0:bo) (w0:World) (n:Nat) (s:AS) (a:Act) (w:World):Prop:=∃ φ,aJ S0 w0 n [] s a w φ
theorem Kept.tI {S0:bo} {w0 w:World} (h:Kept S0 w0 w) {g:Nat} (hg:w0.heap.size≤g∨S0.X g):¬TB g:=fun hb=>hg.elim (fun h1=>by have:=h.g0.lt hb;omega) (h.gx g hb)
theorem aJ.tI {S0:bo} {w0 w:World} {n:Nat} {O:List Nat} {s:AS} {a:Act} {φ:Nat->Option Nat} (h:aJ S0 w0 n O s a w φ) {b:Nat} (hb:TB b):¬ ∃id,φ id=some b:=fun ⟨id,hid⟩=>h.cX.tI (h.cW id b hid).1.2 hb
def j9 (s:AS) (i:Nat):AV:=match look s.F i with|some x=>x|none=>.dead
def lO (s:AS) (i:Nat) (x:AV):AS:=⟨(i,x)::cP s.F i,s.H⟩
theorem r7 (s:AS) (i j:Nat) (x:AV):look (lO s i x).F j=if i=j then some x else look s.F j:=by
 simp only [lO,aD,bD]
 by_cases h:i=j<;>simp [h]
section
variable {S0:bo} {w0 w w':World} {n:Nat} {O:List Nat} {s:AS} {a:Act} {φ:Nat->Option Nat}
theorem aJ.get (h:aJ S0 w0 n O s a w φ) (i:Nat):Den (az s.H φ) (aO S0 w φ O) w (a.tmps.getD i undef) (j9 s i):=by
 unfold j9
 cases hl:look s.F i with
 | none=>exact .dead _
 | some x=>exact h.cA i x hl
theorem qA (a:Act) (d i:Nat) (v:Value) (hd:d<a.tmps.size):(a.put (some d) v).tmps.getD i undef=if d=i then v else a.tmps.getD i undef:=by
 simp only [Act.put]
 by_cases h:d=i
 ·subst h;simp [hd]
 ·simp [h,Array.getElem?_setIfInBounds_ne h]
theorem uK (a:Act) (d:Option Nat) (v:Value):(a.put d v).tmps.size=a.tmps.size:=by cases d<;>simp [Act.put]
theorem p8 (a:Act) (d:Option Nat) (v:Value):(a.put d v).defers=a.defers:=by cases d<;>simp [Act.put]
theorem aJ.put (h:aJ S0 w0 n O s a w φ) {d:Nat} (hd:d<n) {v:Value} {x:AV} (hx:Den (az s.H φ) (aO S0 w φ O) w v x):aJ S0 w0 n O (lO s d x) (a.put (some d) v) w φ where
 j7:=(uK ..).trans h.j7
 j_:=(p8 ..).trans h.j_
 cX:=h.cX
 cA:=fun i av hi=>by
  rw [qA a d i v (by rw [h.j7];exact hd)]
  rw [r7] at hi
  by_cases e:d=i
  ·rw [if_pos e] at hi ⊢
   injection hi with hi
   subst hi;exact hx
  ·rw [if_neg e] at hi ⊢
   exact h.cA i av hi
 rows:=h.rows
 only:=h.only
 inj:=h.inj
 cW:=h.cW
 apart:=h.apart
 new:=h.new
theorem aJ.grow (h:aJ S0 w0 n O s a w φ) (hb:Below w.heap.size w w'):aJ S0 w0 n O s a w' φ where
 j7:=h.j7
 j_:=h.j_
 cX:=h.cX.ql hb
 cA:=fun i av hi=>(h.cA i av hi).mono (fun _ _ h=>h) (fun b hS=>⟨⟨Nat.lt_of_lt_of_le hS.1 hb.size,hS.2⟩,hb.block b hS.1⟩) (fun id e m g hi=>by
  have hg:φ id=some g:=by
   unfold az at hi
   cases hl:look s.H id with
   | none=>rw [hl] at hi;cases hi
   | some r=>rw [hl] at hi;simp at hi;exact hi.2.2
  unfold aY;rw [hb.block g (h.cW id g hg).2])
 rows:=fun id r hr=>by
  have aS:=h.rows id r hr
  unfold bK at aS ⊢
  cases bY:φ id with
  | none=>rw [bY] at aS;exact aS
  | some g =>
   rw [bY] at aS
   obtain ⟨cur,te,fr,hg,hf,hl,nn,hc⟩:=aS
   refine ⟨cur,te,fr,(hb.block g (h.cW id g bY).2).trans hg,hf,hl,nn,fun j u x hu hx=>?_⟩
   have bt:=hc j u x hu hx
   have hS:∀b,aO S0 w φ O b->aO S0 w' φ O b∧w'.heap[b]?=w.heap[b]?:=fun b hS=>⟨⟨Nat.lt_of_lt_of_le hS.1 hb.size,hS.2⟩,hb.block b hS.1⟩
   unfold bg at bt ⊢
   cases hp:r.pure with
   | true=>rw [hp] at bt;exact bt.mono hS
   | false =>
    rw [hp] at bt
    exact bt.mono (fun _ _ h=>h) hS (fun id e m g hi=>by
     have hg:φ id=some g:=by
      unfold az at hi
      cases hl:look s.H id with
      | none=>rw [hl] at hi;cases hi
      | some r=>rw [hl] at hi;simp at hi;exact hi.2.2
     unfold aY;rw [hb.block g (h.cW id g hg).2])
 only:=h.only
 inj:=h.inj
 cW:=fun id g hg=>⟨(h.cW id g hg).1,Nat.lt_of_lt_of_le (h.cW id g hg).2 hb.size⟩
 apart:=h.apart
 new:=h.new
end
def aH (id:Nat):AV->AV
 | .ref i=>match Nat.beq i id with|true=>.dead|false=>.ref i
 | .pre i n=>match Nat.beq i id with|true=>.dead|false=>.pre i n
 | .jE i o n=>match Nat.beq i id with|true=>.dead|false=>.jE i o n
 | .addr i o=>match Nat.beq i id with|true=>.dead|false=>.addr i o
 | .agg _=>.dead
 | .b_ _=>.dead
 | x=>x
def FG (id:Nat):AV->AV
 | .agg cs=>.agg (cs.map (aH id))
 | x=>aH id x
def jY (id:Nat):AV->AV
 | .b_ cs=>.b_ (cs.map (FG id))
 | x=>FG id x
def cF (id:Nat) (r:Row):Row:=match r.pure with|true=>r|false=>⟨r.e,false,r.full,r.cells.map (aH id)⟩
def bX (id:Nat) (s:AS):AS:=⟨eu (jY id) s.F,eu (cF id) (cP s.H id)⟩
def lD (id:Nat) (r:Row):AV->AV
 | .ref i=>match Nat.beq i id with|true=>.sl r.e r.cells|false=>.ref i
 | .pre i n=>match Nat.beq i id with|true=>.sl r.e (r.cells.take n)|false=>.pre i n
 | .jE i o n=>match Nat.beq i id with|true=>.sl r.e ((r.cells.drop o).take n)|false=>.jE i o n
 | .addr i o=>match Nat.beq i id with|true=>.ptr r.cells o|false=>.addr i o
 | .agg _=>.dead
 | .b_ _=>.dead
 | x=>x
def Fb (id:Nat) (r:Row):AV->AV
 | .agg cs=>.agg (cs.map (lD id r))
 | x=>lD id r x
def Nc (id:Nat) (r:Row):AV->AV
 | .b_ cs=>.b_ (cs.map (Fb id r))
 | x=>Fb id r x
def gg (id:Nat) (r:Row) (q:Row):Row:=match q.pure with|true=>q|false=>⟨q.e,false,q.full,q.cells.map (lD id r)⟩
def gM (id:Nat) (r:Row) (s:AS):AS:=⟨eu (Nc id r) s.F,eu (gg id r) (cP s.H id)⟩
section
variable {I I':Info} {S S':Nat->Prop} {w w':World}
structure ki (I I':Info) (S S':Nat->Prop) (w:World) (f:AV->AV):Prop where
 leaf:∀v x,Den I S w v x->(∀cs,x≠ .agg cs)->(∀cs,x≠ .b_ cs)->Den I' S' w v (f x)
 agg:∀cs,f (.agg cs)= .dead
 b_:∀cs,f (.b_ cs)= .dead
theorem ki.all {f:AV->AV} (h:ki I I' S S' w f) {v:Value} {x:AV} (hx:Den I S w v x):Den I' S' w v (f x):=by
 cases x with
 | agg cs=>rw [h.agg];exact .dead _
 | b_ cs=>rw [h.b_];exact .dead _
 | _=>exact h.leaf v _ hx (by intro cs e;cases e) (by intro cs e;cases e)
theorem kA {v:Value} {cs:List AV} (h:Den I S w v (.agg cs)):∃vs:List Value,v= .agg vs.toArray∧vs.length=cs.length∧ ∀(j:Nat) v c,vs[j]?=some v->cs[j]?=some c->Den I S w v c:=by
 cases h with
 | rep h=>cases h with|agg vs _ hl h=>exact ⟨vs,rfl,hl,fun j v c hv hc=>.rep (h j v c hv hc)⟩
 | agg vs _ hl h=>exact ⟨vs,rfl,hl,h⟩
theorem Au {v:Value} {cs:List AV} (h:Den I S w v (.b_ cs)):∃vs:List Value,v= .tuple vs.toArray∧vs.length=cs.length∧ ∀(j:Nat) v c,vs[j]?=some v->cs[j]?=some c->Den I S w v c:=by
 cases h with
 | rep h=>cases h with|b_ vs _ hl h=>exact ⟨vs,rfl,hl,fun j v c hv hc=>.rep (h j v c hv hc)⟩
 | b_ vs _ hl h=>exact ⟨vs,rfl,hl,h⟩
theorem ki.one {f:AV->AV} (h:ki I I' S S' w f) {v:Value} {x:AV} (hx:Den I S w v x) {g:AV->AV} (hg:∀cs,g (.agg cs)= .agg (cs.map f)) (jm:∀y,(∀cs,y≠ .agg cs)->g y=f y):Den I' S' w v (g x):=by
 by_cases hc:∃cs,x= .agg cs
 ·obtain ⟨cs,rfl⟩:=hc
  obtain ⟨vs,rfl,hl,hd⟩:=kA hx
  rw [hg]
  refine .agg vs _ (by simpa using hl) fun j v c hv hc=>?_
  rw [List.getElem?_map] at hc
  cases hj:cs[j]? with
  | none=>rw [hj] at hc;cases hc
  | some y=>rw [hj] at hc;injection hc with hc;subst hc;exact h.all (hd j v y hv hj)
 ·rw [jm x fun cs e=>hc ⟨cs,e⟩]
  exact h.all hx
theorem ki.two {f:AV->AV} (h:ki I I' S S' w f) {v:Value} {x:AV} (hx:Den I S w v x) {g k:AV->AV} (hg:∀cs,g (.agg cs)= .agg (cs.map f)) (jm:∀y,(∀cs,y≠ .agg cs)->g y=f y)
  (hk:∀cs,k (.b_ cs)= .b_ (cs.map g)) (o9:∀y,(∀cs,y≠ .b_ cs)->k y=g y):Den I' S' w v (k x):=by
 by_cases hc:∃cs,x= .b_ cs
 ·obtain ⟨cs,rfl⟩:=hc
  obtain ⟨vs,rfl,hl,hd⟩:=Au hx
  rw [hk]
  refine .b_ vs _ (by simpa using hl) fun j v c hv hc=>?_
  rw [List.getElem?_map] at hc
  cases hj:cs[j]? with
  | none=>rw [hj] at hc;cases hc
  | some y=>rw [hj] at hc;injection hc with hc;subst hc;exact h.one (hd j v y hv hj) hg jm
 ·rw [o9 x fun cs e=>hc ⟨cs,e⟩]
  exact h.one hx hg jm
theorem BO (id:Nat) (y:AV) (h:∀cs,y≠ .agg cs):FG id y=aH id y:=by
 cases y with
 | agg cs=>exact absurd rfl (h cs)
 | _=>rfl
theorem BN (id:Nat) (y:AV) (h:∀cs,y≠ .b_ cs):jY id y=FG id y:=by
 cases y with
 | b_ cs=>exact absurd rfl (h cs)
 | _=>rfl
theorem A6 (id:Nat) (r:Row) (y:AV) (h:∀cs,y≠ .agg cs):Fb id r y=lD id r y:=by
 cases y with
 | agg cs=>exact absurd rfl (h cs)
 | _=>rfl
theorem A5 (id:Nat) (r:Row) (y:AV) (h:∀cs,y≠ .b_ cs):Nc id r y=Fb id r y:=by
 cases y with
 | b_ cs=>exact absurd rfl (h cs)
 | _=>rfl
theorem vx (id:Nat) (hI:∀i x,i≠id->I i=some x->I' i=some x) (hS:∀b,S b->S' b):ki I I' S S' w (aH id) where
 agg:=fun _=>rfl
 b_:=fun _=>rfl
 leaf:=fun v x hx h1 h2=>by
  have tQ:∀b,S b->S' b∧w.heap[b]?=w.heap[b]?:=fun b h=>⟨hS b h,rfl⟩
  cases hx with
  | rep h=>cases h with
   | val v=>exact .rep (.val v)
   | nil=>exact .rep .nil
   | agg vs cs _ _=>exact absurd rfl (h1 cs)
   | b_ vs cs _ _=>exact absurd rfl (h2 cs)
   | arr vs cs hl h=>exact .rep ((cz.arr vs cs hl h).mono tQ)
   | sl A n c e us row hl hn hc hm ha h=>exact .rep ((cz.sl A n c e us row hl hn hc hm ha h).mono tQ)
   | sm A n e us row hl hn hm ha h=>exact .rep ((cz.sm A n e us row hl hn hm ha h).mono tQ)
   | ptr ad us row off hl hs ha h=>exact .rep ((cz.ptr ad us row off hl hs ha h).mono tQ)
   | lu f vs cs hl h=>exact .rep ((cz.lu f vs cs hl h).mono tQ)
  | agg vs cs _ _=>exact absurd rfl (h1 cs)
  | b_ vs cs _ _=>exact absurd rfl (h2 cs)
  | ref i e m g l c hi hm hc hx hs =>
   rcases bE i id with ⟨h,e⟩|⟨h,e⟩<;>simp only [aH,h]
   ·exact .dead _
   ·exact .ref i _ m g l c (hI _ _ e hi) hm hc hx hs
  | cB i e hi =>
   rcases bE i id with ⟨h,e⟩|⟨h,e⟩<;>simp only [aH,h]
   ·exact .dead _
   ·exact .cB i _ (hI _ _ e hi)
  | pre i n e m g l c hi hn hm hc hx hs =>
   rcases bE i id with ⟨h,e⟩|⟨h,e⟩<;>simp only [aH,h]
   ·exact .dead _
   ·exact .pre i n _ m g l c (hI _ _ e hi) hn hm hc hx hs
  | dH i e hi =>
   rcases bE i id with ⟨h,e⟩|⟨h,e⟩<;>simp only [aH,h]
   ·exact .dead _
   ·exact .dH i _ (hI _ _ e hi)
  | jE i off n e m l c g A hi hn hm hc hx ha =>
   rcases bE i id with ⟨h,e⟩|⟨h,e⟩<;>simp only [aH,h]
   ·exact .dead _
   ·exact .jE i off n _ m l c g A (hI _ _ e hi) hn hm hc hx ha
  | addr i off e m g hi =>
   rcases bE i id with ⟨h,e⟩|⟨h,e⟩<;>simp only [aH,h]
   ·exact .dead _
   ·exact .addr i off _ m g (hI _ _ e hi)
  | dead v=>exact .dead _
theorem Den.kill (id:Nat) (hI:∀i x,i≠id->I i=some x->I' i=some x) (hS:∀b,S b->S' b) {v:Value} {x:AV} (h:Den I S w v x):Den I' S' w v (jY id x) :=
 (vx id hI hS).two h (fun _=>rfl) (BO id) (fun _=>rfl) (BN id)
theorem fv {r:Row} {g l c:Nat} {cur:Array Value} {te:TypeId} {fr:Nat×Nat} (hg:w.heap[g]?=some (.cells cur te fr)) (hS:S g) (cells:List AV) (off:Nat) (hl:off+cells.length≤cur.size)
  (hn:cells.length=r.e*l) (hc:l≤c) (hm:c≤maxLen) (A:Option Addr) (hA:0<cells.length->A=some ⟨g,off,none⟩) (h:∀(j:Nat) u x,cur[off+j]?=some u->cells[j]?=some x->cz S w u x):cz S w (.slice A l c) (.sl r.e cells):=by
 refine .sl A l c r.e ((cur.toList.drop off).take cells.length) cells (by have:cur.toList.length=cur.size:=rfl;rw [List.length_take,List.length_drop];omega) hn hc hm (fun h0=>⟨_,hA h0,hS,fun j u hu=>?_⟩) (fun j u x hu hx=>?_)
 ·have e:(⟨g,off,none⟩:Addr).add j=⟨g,off+j,none⟩:=by unfold Addr.add;split<;>simp_all
  rw [e,cell_of_row w g _ cur te fr hg]
  rw [List.getElem?_take] at hu
  split at hu
  ·rw [List.getElem?_drop] at hu;simpa using hu
  ·cases hu
 ·refine h j u x ?_ hx
  rw [List.getElem?_take] at hu
  split at hu
  ·rw [List.getElem?_drop] at hu;simpa using hu
  ·cases hu
theorem pO {g off:Nat} {cur:Array Value} {te:TypeId} {fr:Nat×Nat} (hg:w.heap[g]?=some (.cells cur te fr)) (hS:S g) (cells:List AV) (hl:cells.length≤cur.size)
  (h:∀(j:Nat) u x,cur[j]?=some u->cells[j]?=some x->cz S w u x):cz S w (.pointer (some ⟨g,off,none⟩)) (.ptr cells off):=by
 have e:∀j,(⟨g,0,none⟩:Addr).add j=⟨g,j,none⟩:=fy g
 have:=cz.ptr (S:=S) (w:=w) ⟨g,0,none⟩ (cur.toList.take cells.length) cells off (by have:cur.toList.length=cur.size:=rfl;rw [List.length_take];omega) hS (fun j u hu=>?_) (fun j u x hu hx=>?_)
 ·rw [e] at this;exact this
 ·rw [e,cell_of_row w g _ cur te fr hg]
  rw [List.getElem?_take] at hu
  split at hu
  ·simpa using hu
  ·cases hu
 ·refine h j u x ?_ hx
  rw [List.getElem?_take] at hu
  split at hu
  ·simpa using hu
  ·cases hu
end
def erase (φ:Nat->Option Nat) (id:Nat):Nat->Option Nat:=fun i=>if i=id then none else φ i
def fU (φ:Nat->Option Nat) (id g:Nat):Nat->Option Nat:=fun i=>if i=id then some g else φ i
section
variable {S0:bo} {w0 w w':World} {n:Nat} {O:List Nat} {s:AS} {a:Act} {φ:Nat->Option Nat}
theorem aT {H:List (Nat×Row)} {id e m:Nat} {b:Option Nat} (h:az H φ id=some (e,m,b)):∃r,look H id=some r∧r.e=e∧r.cells.length=m∧φ id=b:=by
 unfold az at h
 cases hl:look H id with
 | none=>rw [hl] at h;cases h
 | some r=>rw [hl] at h;simp at h;exact ⟨r,rfl,h⟩
theorem br {H:List (Nat×Row)} {id:Nat} {r:Row} (h:look H id=some r):az H φ id=some (r.e,r.cells.length,φ id):=by
 unfold az;rw [h];rfl
theorem gf (id:Nat) (r:Row):(cF id r).e=r.e∧(cF id r).cells.length=r.cells.length∧(cF id r).pure=r.pure∧(cF id r).full=r.full:=by
 unfold cF
 cases h:r.pure<;>simp [h]
theorem gL (id:Nat) (r q:Row):(gg id r q).e=q.e∧(gg id r q).cells.length=q.cells.length∧(gg id r q).pure=q.pure∧(gg id r q).full=q.full:=by
 unfold gg
 cases h:q.pure<;>simp [h]
theorem n9 (id i:Nat) (x:Nat×Nat×Option Nat) (cU:i≠id) (h:az s.H φ i=some x):az (bX id s).H (erase φ id) i=some x:=by
 obtain ⟨e,m,b⟩:=x
 obtain ⟨r,hl,he,hm,hb⟩:=aT h
 have:look (bX id s).H i=some (cF id r):=by
  unfold bX;rw [cp,bD,if_neg (Ne.symm cU),hl];rfl
 rw [br this,(gf id r).1,(gf id r).2.1,he,hm]
 unfold erase;rw [if_neg cU,hb]
theorem kG (id i:Nat) (q:Row) (x:Nat×Nat×Option Nat) (cU:i≠id) (h:az s.H φ i=some x):az (gM id q s).H (erase φ id) i=some x:=by
 obtain ⟨e,m,b⟩:=x
 obtain ⟨r,hl,he,hm,hb⟩:=aT h
 have:look (gM id q s).H i=some (gg id q r):=by
  unfold gM;rw [cp,bD,if_neg (Ne.symm cU),hl];rfl
 rw [br this,(gL id q r).1,(gL id q r).2.1,he,hm]
 unfold erase;rw [if_neg cU,hb]
theorem aJ.jJ (h:aJ S0 w0 n O s a w φ) (id:Nat) (O':List Nat) (hO:O'=match φ id with|some g=>g::O|none=>O):aJ S0 w0 n O' (bX id s) a w (erase φ id):=by
 have hF:∀b,aO S0 w φ O b->aO S0 w (erase φ id) O' b:=by
  intro b ⟨h1,h2,h3,h4⟩
  refine ⟨h1,?_,fun i hi=>?_,h4⟩
  ·rw [hO]
   cases bY:φ id with
   | none=>exact h2
   | some g =>
    simp only [List.mem_cons,not_or]
    exact ⟨fun e=>h3 id (by rw [bY,e]),h2⟩
  ·unfold erase at hi
   split at hi
   ·cases hi
   ·exact h3 i hi
 refine ⟨h.j7,h.j_,h.cX,fun i av hi=>?_,fun i r hr=>?_,fun i hi=>?_,fun i j g hi hj=>?_,fun i g hi=>?_,fun i g hi=>?_,h.new⟩
 ·unfold bX at hi
  rw [cp] at hi
  cases hl:look s.F i with
  | none=>rw [hl] at hi;cases hi
  | some x =>
   rw [hl] at hi;injection hi with hi;subst hi
   exact (h.cA i x hl).kill id (n9 id) hF
 ·have iE:=hr
  unfold bX at iE
  rw [cp,bD] at iE
  by_cases cU:id=i
  ·rw [if_pos cU] at iE;cases iE
  ·rw [if_neg cU] at iE
   cases hl:look s.H i with
   | none=>rw [hl] at iE;cases iE
   | some q =>
    rw [hl] at iE;injection iE with iE;subst iE
    have hq:=h.rows i q hl
    have DL:erase φ id i=φ i:=by unfold erase;rw [if_neg (Ne.symm cU)]
    rw [DL]
    unfold bK at hq ⊢
    cases hb:φ i with
    | none =>
     rw [hb] at hq
     have:=(gf id q).2.1
     simp only at hq ⊢
     rw [hq] at this;exact List.length_eq_zero_iff.1 this
    | some g =>
     rw [hb] at hq
     obtain ⟨cur,te,fr,hg,hf,hlen,nn,hc⟩:=hq
     refine ⟨cur,te,fr,hg,hf,by rw [(gf id q).2.1];exact hlen,by rw [(gf id q).2.1,(gf id q).2.2.2];exact nn,fun j u x hu hx=>?_⟩
     rw [(gf id q).2.2.1]
     unfold bg
     cases hp:q.pure with
     | true =>
      have:cF id q=q:=by unfold cF;rw [hp]
      rw [this] at hx
      have:=hc j u x hu hx
      unfold bg at this;rw [hp] at this
      exact this.mono fun b hb=>⟨hF b hb,rfl⟩
     | false =>
      have:(cF id q).cells=q.cells.map (aH id):=by unfold cF;rw [hp]
      rw [this,List.getElem?_map] at hx
      cases hj:q.cells[j]? with
      | none=>rw [hj] at hx;cases hx
      | some y =>
       rw [hj] at hx;injection hx with hx;subst hx
       have:=hc j u y hu hj
       unfold bg at this;rw [hp] at this
       exact (vx id (n9 id) hF).all this
 ·unfold bX at hi
  rw [cp,bD] at hi
  unfold erase
  by_cases cU:id=i
  ·rw [if_pos cU.symm]
  ·rw [if_neg cU] at hi
   rw [if_neg (Ne.symm cU)]
   refine h.only i ?_
   cases hl:look s.H i with
   | none=>rfl
   | some r=>rw [hl] at hi;cases hi
 ·unfold erase at hi hj
  split at hi
  ·cases hi
  ·split at hj
   ·cases hj
   ·exact h.inj i j g hi hj
 ·unfold erase at hi
  split at hi
  ·cases hi
  ·exact h.cW i g hi
 ·unfold erase at hi
  split at hi
  ·cases hi
  ·rename_i cU
   rw [hO]
   cases bY:φ id with
   | none=>exact h.apart i g hi
   | some g' =>
    simp only [List.mem_cons,not_or]
    exact ⟨fun e=>cU (h.inj i id g hi (by rw [bY,e])),h.apart i g hi⟩
theorem aJ.xw (h:aJ S0 w0 n O s a w φ) (hO:∀g∈O,w0.heap.size≤g∨S0.X g) (JG:w'.os=w.os) (vG:w'.tape=w.tape) (vH:w'.output=w.output) (dB:w.heap.size≤w'.heap.size) (hb:∀b,b<w.heap.size->b ∉ O->w'.heap[b]?=w.heap[b]?):aJ S0 w0 n O s a w' φ:=by
 have hF:∀b,aO S0 w φ O b->aO S0 w' φ O b∧w'.heap[b]?=w.heap[b]?:=fun b h=>⟨⟨by have:=h.1;omega,h.2⟩,hb b h.1 h.2.1⟩
 have hL:∀id e m g,az s.H φ id=some (e,m,some g)->aY w' g=aY w g:=by
  intro id e m g hi
  obtain ⟨r,-,-,-,bY⟩:=aT hi
  unfold aY;rw [hb g (h.cW id g bY).2 (h.apart id g bY)]
 refine ⟨h.j7,h.j_,⟨JG.trans h.cX.os,vG.trans h.cX.tape,vH.trans h.cX.output,Nat.le_trans h.cX.size dB,fun k hk hx=>?_,h.cX.g0,h.cX.gx⟩,fun i av hi=>(h.cA i av hi).mono (fun _ _ h=>h) hF hL,fun id r hr=>?_,h.only,h.inj,fun id g hg=>⟨(h.cW id g hg).1,Nat.lt_of_lt_of_le (h.cW id g hg).2 dB⟩,h.apart,h.new⟩
 ·rw [hb k (by have:=h.cX.size;omega) (fun hm=>by rcases hO k hm with h|h;omega;exact hx h)]
  exact h.cX.block k hk hx
 ·have aS:=h.rows id r hr
  unfold bK at aS ⊢
  cases bY:φ id with
  | none=>rw [bY] at aS;exact aS
  | some g =>
   rw [bY] at aS
   obtain ⟨cur,te,fr,hg,hf,hl,nn,hc⟩:=aS
   refine ⟨cur,te,fr,(hb g (h.cW id g bY).2 (h.apart id g bY)).trans hg,hf,hl,nn,fun j u x hu hx=>?_⟩
   have bt:=hc j u x hu hx
   unfold bg at bt ⊢
   cases hp:r.pure with
   | true=>rw [hp] at bt;exact bt.mono hF
   | false=>rw [hp] at bt;exact bt.mono (fun _ _ h=>h) hF hL
theorem aJ.await (h:aJ S0 w0 n O s a w φ) (g:Nat) (hg:w.heap.size≤g):aJ S0 w0 n (g::O) s a w φ:=by
 have hF:∀b,aO S0 w φ O b->aO S0 w φ (g::O) b∧w.heap[b]?=w.heap[b]?:=fun b h=>⟨⟨h.1,by simp only [List.mem_cons,not_or];exact ⟨by have:=h.1;omega,h.2.1⟩,h.2.2⟩,rfl⟩
 have hL:∀id e m g,az s.H φ id=some (e,m,some g)->aY w g=aY w g:=fun _ _ _ _ _=>rfl
 refine ⟨h.j7,h.j_,h.cX,fun i av hi=>(h.cA i av hi).mono (fun _ _ h=>h) hF hL,fun id r hr=>?_,h.only,h.inj,h.cW,fun id g' jm=>?_,h.new⟩
 ·have aS:=h.rows id r hr
  unfold bK at aS ⊢
  cases bY:φ id with
  | none=>rw [bY] at aS;exact aS
  | some g =>
   rw [bY] at aS
   obtain ⟨cur,te,fr,hg,hf,hl,nn,hc⟩:=aS
   refine ⟨cur,te,fr,hg,hf,hl,nn,fun j u x hu hx=>?_⟩
   have bt:=hc j u x hu hx
   unfold bg at bt ⊢
   cases hp:r.pure with
   | true=>rw [hp] at bt;exact bt.mono hF
   | false=>rw [hp] at bt;exact bt.mono (fun _ _ h=>h) hF hL
 ·simp only [List.mem_cons,not_or]
  exact ⟨by have:=(h.cW id g' jm).2;omega,h.apart id g' jm⟩
theorem sn {id g:Nat} (hid:φ id=none) (b:Nat):aO S0 w φ (g::O) b↔aO S0 w (fU φ id g) O b:=by
 unfold aO fU
 constructor
 ·rintro ⟨h1,h2,h3,h4⟩
  simp only [List.mem_cons,not_or] at h2
  refine ⟨h1,h2.2,fun i hi=>?_,h4⟩
  split at hi
  ·injection hi with hi;exact h2.1 hi.symm
  ·exact h3 i hi
 ·rintro ⟨h1,h2,h3,h4⟩
  refine ⟨h1,?_,fun i hi=>?_,h4⟩
  ·simp only [List.mem_cons,not_or]
   exact ⟨fun e=>h3 id (by rw [if_pos rfl,e]),h2⟩
  ·by_cases e:i=id
   ·subst e;rw [hid] at hi;cases hi
   ·exact h3 i (by rw [if_neg e];exact hi)
theorem aJ.yn {g id:Nat} {r:Row} (h:aJ S0 w0 n (g::O) s a w φ) (B3:R6 S0 w0 id g) (Ha:g<w.heap.size) (Rp:g ∉ O) (hid:look s.H id=none)
  (hr:bK (az s.H φ) (aO S0 w φ (g::O)) w (some g) r):aJ S0 w0 n O ⟨s.F,(id,r)::s.H⟩ a w (fU φ id g):=by
 have bY:=h.only id hid
 have hF:∀b,aO S0 w φ (g::O) b->aO S0 w (fU φ id g) O b∧w.heap[b]?=w.heap[b]?:=fun b hb=>⟨(sn bY b).1 hb,rfl⟩
 have hI:∀i x,az s.H φ i=some x->az ((id,r)::s.H) (fU φ id g) i=some x:=by
  intro i x hi
  obtain ⟨e,m,b⟩:=x
  obtain ⟨q,hl,he,hm,hb⟩:=aT hi
  have cU:id≠i:=fun e=>by subst e;rw [hid] at hl;cases hl
  rw [br (r:=q) (by rw [aD,if_neg cU,hl])]
  unfold fU;rw [if_neg (Ne.symm cU),he,hm,hb]
 have hL:∀id e m g,az s.H φ id=some (e,m,some g)->aY w g=aY w g:=fun _ _ _ _ _=>rfl
 have aS:∀b q,bK (az s.H φ) (aO S0 w φ (g::O)) w b q->bK (az ((id,r)::s.H) (fU φ id g)) (aO S0 w (fU φ id g) O) w b q:=by
  intro b q hq
  unfold bK at hq ⊢
  cases b with
  | none=>exact hq
  | some g' =>
   obtain ⟨cur,te,fr,hg,hf,hl,nn,hc⟩:=hq
   refine ⟨cur,te,fr,hg,hf,hl,nn,fun j u x hu hx=>?_⟩
   have bt:=hc j u x hu hx
   unfold bg at bt ⊢
   cases hp:q.pure with
   | true=>rw [hp] at bt;exact bt.mono hF
   | false=>rw [hp] at bt;exact bt.mono hI hF hL
 refine ⟨h.j7,h.j_,h.cX,fun i av hi=>(h.cA i av hi).mono hI hF hL,fun i q hq=>?_,fun i hi=>?_,fun i j g' hi hj=>?_,fun i g' hi=>?_,fun i g' hi=>?_,h.new⟩
 ·rw [aD] at hq
  by_cases e:id=i
  ·rw [if_pos e] at hq;injection hq with hq;subst hq;subst e
   have:fU φ id g id=some g:=by unfold fU;rw [if_pos rfl]
   rw [this];exact aS _ _ hr
  ·rw [if_neg e] at hq
   have:fU φ id g i=φ i:=by unfold fU;rw [if_neg (Ne.symm e)]
   rw [this];exact aS _ _ (h.rows i q hq)
 ·rw [aD] at hi
  by_cases e:id=i
  ·rw [if_pos e] at hi;cases hi
  ·rw [if_neg e] at hi
   unfold fU;rw [if_neg (Ne.symm e)];exact h.only i hi
 ·have cU:∀i,φ i=some g'->g'≠g:=fun i hi e=>h.apart i g' hi (by rw [e];simp)
  unfold fU at hi hj
  split at hi<;>split at hj
  ·omega
  ·injection hi with hi;exact absurd hi.symm (cU j hj)
  ·injection hj with hj;exact absurd hj.symm (cU i hi)
  ·exact h.inj i j g' hi hj
 ·unfold fU at hi
  split at hi
  ·rename_i e;injection hi with hi;subst hi;exact ⟨e ▸ B3,Ha⟩
  ·exact h.cW i g' hi
 ·unfold fU at hi
  split at hi
  ·injection hi with hi;subst hi;exact Rp
  ·exact fun hm=>h.apart i g' hi (by simp [hm])
theorem aJ.sO (h:aJ S0 w0 n O s a w φ) {id:Nat} {r:Row} (hid:look s.H id=none) (hr:r.cells= []):aJ S0 w0 n O ⟨s.F,(id,r)::s.H⟩ a w φ:=by
 have bY:=h.only id hid
 have hI:∀i x,az s.H φ i=some x->az ((id,r)::s.H) φ i=some x:=by
  intro i x hi
  obtain ⟨e,m,b⟩:=x
  obtain ⟨q,hl,he,hm,hb⟩:=aT hi
  have cU:id≠i:=fun e=>by subst e;rw [hid] at hl;cases hl
  rw [br (r:=q) (by rw [aD,if_neg cU,hl]),he,hm,hb]
 have hF:∀b,aO S0 w φ O b->aO S0 w φ O b∧w.heap[b]?=w.heap[b]?:=fun b hb=>⟨hb,rfl⟩
 have hL:∀id e m g,az s.H φ id=some (e,m,some g)->aY w g=aY w g:=fun _ _ _ _ _=>rfl
 refine ⟨h.j7,h.j_,h.cX,fun i av hi=>(h.cA i av hi).mono hI hF hL,fun i q hq=>?_,fun i hi=>?_,h.inj,h.cW,h.apart,h.new⟩
 ·rw [aD] at hq
  by_cases e:id=i
  ·rw [if_pos e] at hq;injection hq with hq;subst hq;subst e
   rw [bY];exact hr
  ·rw [if_neg e] at hq
   have hY:=h.rows i q hq
   unfold bK at hY ⊢
   cases hb:φ i with
   | none=>rw [hb] at hY;exact hY
   | some g' =>
    rw [hb] at hY
    obtain ⟨cur,te,fr,hg,hf,hl,nn,hc⟩:=hY
    refine ⟨cur,te,fr,hg,hf,hl,nn,fun j u x hu hx=>?_⟩
    have bt:=hc j u x hu hx
    unfold bg at bt ⊢
    cases hp:q.pure with
    | true=>rw [hp] at bt;exact bt
    | false=>rw [hp] at bt;exact bt.mono hI hF hL
 ·rw [aD] at hi
  by_cases e:id=i
  ·rw [if_pos e] at hi;cases hi
  ·rw [if_neg e] at hi;exact h.only i hi
theorem aJ.vY {g:Nat} (h:aJ S0 w0 n (g::O) s a w φ):aJ S0 w0 n O s a w φ:=by
 have hF:∀b,aO S0 w φ (g::O) b->aO S0 w φ O b∧w.heap[b]?=w.heap[b]?:=fun b h=>⟨⟨h.1,fun hm=>h.2.1 (by simp [hm]),h.2.2⟩,rfl⟩
 have hL:∀id e m g,az s.H φ id=some (e,m,some g)->aY w g=aY w g:=fun _ _ _ _ _=>rfl
 refine ⟨h.j7,h.j_,h.cX,fun i av hi=>(h.cA i av hi).mono (fun _ _ h=>h) hF hL,fun id r hr=>?_,h.only,h.inj,h.cW,fun id g' jm hm=>h.apart id g' jm (by simp [hm]),h.new⟩
 have aS:=h.rows id r hr
 unfold bK at aS ⊢
 cases bY:φ id with
 | none=>rw [bY] at aS;exact aS
 | some g =>
  rw [bY] at aS
  obtain ⟨cur,te,fr,hg,hf,hl,nn,hc⟩:=aS
  refine ⟨cur,te,fr,hg,hf,hl,nn,fun j u x hu hx=>?_⟩
  have bt:=hc j u x hu hx
  unfold bg at bt ⊢
  cases hp:r.pure with
  | true=>rw [hp] at bt;exact bt.mono hF
  | false=>rw [hp] at bt;exact bt.mono (fun _ _ h=>h) hF hL
theorem aJ.Nb (h:aJ S0 w0 n O s a w φ) {id:Nat} {r:Row} (hr:look s.H id=some r) (hp:r.pure=true):aJ S0 w0 n O (gM id r s) a w (erase φ id):=by
 have hF:∀b,aO S0 w φ O b->aO S0 w (erase φ id) O b:=by
  intro b ⟨h1,h2,h3,h4⟩
  refine ⟨h1,h2,fun i hi=>?_,h4⟩
  unfold erase at hi
  split at hi
  ·cases hi
  ·exact h3 i hi
 have J3:∀b,aO S0 w φ O b->aO S0 w (erase φ id) O b∧w.heap[b]?=w.heap[b]?:=fun b hb=>⟨hF b hb,rfl⟩
 have aS:=h.rows id r hr
 have hI:=br (φ:=φ) hr
 have ok:ki (az s.H φ) (az (gM id r s).H (erase φ id)) (aO S0 w φ O) (aO S0 w (erase φ id) O) w (lD id r):=by
  refine ⟨fun v x hx h1 h2=>?_,fun _=>rfl,fun _=>rfl⟩
  have Su:∀g,φ id=some g->aO S0 w (erase φ id) O g:=fun g hg=>⟨(h.cW id g hg).2,h.apart id g hg,fun i hi=>by
   unfold erase at hi
   split at hi
   ·cases hi
   ·rename_i cU;exact cU (h.inj i id g hi hg),h.new g (h.cW id g hg).1.2⟩
  have B7:∀g,φ id=some g-> ∃cur te fr,w.heap[g]?=some (.cells cur te fr)∧r.cells.length≤cur.size∧ ∀(j:Nat) u x,cur[j]?=some u->r.cells[j]?=some x->cz (aO S0 w (erase φ id) O) w u x:=by
   intro g hg
   have JB:=aS
   unfold bK at JB
   rw [hg] at JB
   obtain ⟨cur,te,fr,jm,hf,hl,-,hc⟩:=JB
   refine ⟨cur,te,fr,jm,hl,fun j u x hu hx=>?_⟩
   have:=hc j u x hu hx
   unfold bg at this;rw [hp] at this
   exact this.mono J3
  have Fc:∀(l:List AV) (k j:Nat) (x:AV),(l.take k)[j]?=some x->l[j]?=some x:=by
   intro l k j x hx
   rw [List.getElem?_take] at hx
   split at hx
   ·exact hx
   ·cases hx
  cases hx with
  | rep h=>cases h with
   | val v=>exact .rep (.val v)
   | nil=>exact .rep .nil
   | agg vs cs _ _=>exact absurd rfl (h1 cs)
   | b_ vs cs _ _=>exact absurd rfl (h2 cs)
   | arr vs cs hl h=>exact .rep ((cz.arr vs cs hl h).mono J3)
   | sl A n c e us row hl hn hc hm ha h=>exact .rep ((cz.sl A n c e us row hl hn hc hm ha h).mono J3)
   | sm A n e us row hl hn hm ha h=>exact .rep ((cz.sm A n e us row hl hn hm ha h).mono J3)
   | ptr ad us row off hl hs ha h=>exact .rep ((cz.ptr ad us row off hl hs ha h).mono J3)
   | lu f vs cs hl h=>exact .rep ((cz.lu f vs cs hl h).mono J3)
  | agg vs cs _ _=>exact absurd rfl (h1 cs)
  | b_ vs cs _ _=>exact absurd rfl (h2 cs)
  | ref i e m g l c hi hm hc hx hs =>
   rcases bE i id with ⟨hb,e'⟩|⟨hb,e'⟩<;>simp only [lD,hb]
   ·subst e'
    rw [hI] at hi;injection hi with hi;injection hi with he hi;injection hi with Ns hg
    obtain ⟨cur,te,fr,jm,hl,ly⟩:=B7 g hg
    exact .rep (fv (r:=r) jm (Su g hg) r.cells 0 ag (by rw [Ns,he];exact hm) hc hx _ (fun _=>rfl) (fun j u x hu hx=>ly j u x (by simpa using hu) hx))
   ·exact .ref i _ m g l c (kG id i r _ e' hi) hm hc hx hs
  | cB i e hi =>
   rcases bE i id with ⟨hb,e'⟩|⟨hb,e'⟩<;>simp only [lD,hb]
   ·subst e'
    rw [hI] at hi;injection hi with hi;injection hi with he hi;injection hi with Ns hg
    have h0:r.cells= []:=List.length_eq_zero_iff.1 Ns
    rw [h0]
    exact .rep (.sl none 0 0 _ [] [] rfl (by simp) (by simp) (by simp) (fun h=>by simp at h) (fun j u x hu=>by simp at hu))
   ·exact .cB i _ (kG id i r _ e' hi)
  | pre i k e m g l c hi hn hm hc hx hs =>
   rcases bE i id with ⟨hb,e'⟩|⟨hb,e'⟩<;>simp only [lD,hb]
   ·subst e'
    rw [hI] at hi;injection hi with hi;injection hi with he hi;injection hi with Ns hg
    obtain ⟨cur,te,fr,jm,hl,ly⟩:=B7 g hg
    exact .rep (fv (r:=r) jm (Su g hg) (r.cells.take k) 0 (by rw [List.length_take];omega) (by rw [List.length_take,he,←hn];omega) hc hx _ (fun _=>rfl) (fun j u x hu hx=>ly j u x (by simpa using hu) (Fc _ _ _ _ hx)))
   ·exact .pre i k _ m g l c (kG id i r _ e' hi) hn hm hc hx hs
  | dH i e hi =>
   rcases bE i id with ⟨hb,e'⟩|⟨hb,e'⟩<;>simp only [lD,hb]
   ·simp only [List.take_zero]
    exact .rep (.sl none 0 0 _ [] [] rfl (by simp) (by simp) (by simp) (fun h=>by simp at h) (fun j u x hu=>by simp at hu))
   ·exact .dH i _ (kG id i r _ e' hi)
  | jE i off k e m l c g A hi hn hm hc hx ha =>
   rcases bE i id with ⟨hb,e'⟩|⟨hb,e'⟩<;>simp only [lD,hb]
   ·subst e'
    rw [hI] at hi;injection hi with hi;injection hi with he hi;injection hi with Ns hg
    have hlen:((r.cells.drop off).take k).length=k:=by rw [List.length_take,List.length_drop];omega
    by_cases hk:0<k
    ·obtain ⟨b,k9,hA⟩:=ha hk
     rw [k9] at hg
     obtain ⟨cur,te,fr,jm,hl,ly⟩:=B7 b hg
     exact .rep (fv (r:=r) jm (Su b hg) ((r.cells.drop off).take k) off (by rw [hlen];omega) (by rw [hlen,he,←hn]) hc hx _ (fun _=>hA) (fun j u x hu hx=>ly (off+j) u x hu (by have:=Fc _ _ _ _ hx;rw [List.getElem?_drop] at this;exact this)))
    ·have h0:(r.cells.drop off).take k= []:=List.length_eq_zero_iff.1 ag
     rw [h0]
     exact .rep (.sl A l c r.e [] [] rfl (by rw [he];simp;omega) hc hx (fun h=>by simp at h) (fun j u x hu=>by simp at hu))
   ·exact .jE i off k _ m l c g A (kG id i r _ e' hi) hn hm hc hx ha
  | addr i off e m g hi =>
   rcases bE i id with ⟨hb,e'⟩|⟨hb,e'⟩<;>simp only [lD,hb]
   ·subst e'
    rw [hI] at hi;injection hi with hi;injection hi with he hi;injection hi with Ns hg
    obtain ⟨cur,te,fr,jm,hl,ly⟩:=B7 g hg
    exact .rep (pO jm (Su g hg) r.cells hl ly)
   ·exact .addr i off _ m g (kG id i r _ e' hi)
  | dead v=>exact .dead _
 refine ⟨h.j7,h.j_,h.cX,fun i av hi=>?_,fun i q hq=>?_,fun i hi=>?_,fun i j g hi hj=>?_,fun i g hi=>?_,fun i g hi=>?_,h.new⟩
 ·unfold gM at hi
  rw [cp] at hi
  cases hl:look s.F i with
  | none=>rw [hl] at hi;cases hi
  | some x =>
   rw [hl] at hi;injection hi with hi;subst hi
   exact ok.two (h.cA i x hl) (fun _=>rfl) (A6 id r) (fun _=>rfl) (A5 id r)
 ·have iE:=hq
  unfold gM at iE
  rw [cp,bD] at iE
  by_cases cU:id=i
  ·rw [if_pos cU] at iE;cases iE
  ·rw [if_neg cU] at iE
   cases hl:look s.H i with
   | none=>rw [hl] at iE;cases iE
   | some p =>
    rw [hl] at iE;injection iE with iE;subst iE
    have hY:=h.rows i p hl
    have DL:erase φ id i=φ i:=by unfold erase;rw [if_neg (Ne.symm cU)]
    rw [DL]
    unfold bK at hY ⊢
    cases hb:φ i with
    | none =>
     rw [hb] at hY
     have:=(gL id r p).2.1
     simp only at hY ⊢
     rw [hY] at this;exact List.length_eq_zero_iff.1 this
    | some g =>
     rw [hb] at hY
     obtain ⟨cur,te,fr,hg,hf,hlen,nn,hc⟩:=hY
     refine ⟨cur,te,fr,hg,hf,by rw [(gL id r p).2.1];exact hlen,by rw [(gL id r p).2.1,(gL id r p).2.2.2];exact nn,fun j u x hu hx=>?_⟩
     rw [(gL id r p).2.2.1]
     unfold bg
     cases FO:p.pure with
     | true =>
      have:gg id r p=p:=by unfold gg;rw [FO]
      rw [this] at hx
      have:=hc j u x hu hx
      unfold bg at this;rw [FO] at this
      exact this.mono J3
     | false =>
      have:(gg id r p).cells=p.cells.map (lD id r):=by unfold gg;rw [FO]
      rw [this,List.getElem?_map] at hx
      cases hj:p.cells[j]? with
      | none=>rw [hj] at hx;cases hx
      | some y =>
       rw [hj] at hx;injection hx with hx;subst hx
       have:=hc j u y hu hj
       unfold bg at this;rw [FO] at this
       exact ok.all this
 ·unfold gM at hi
  rw [cp,bD] at hi
  unfold erase
  by_cases cU:id=i
  ·rw [if_pos cU.symm]
  ·rw [if_neg cU] at hi
   rw [if_neg (Ne.symm cU)]
   refine h.only i ?_
   cases hl:look s.H i with
   | none=>rfl
   | some r=>rw [hl] at hi;cases hi
 ·unfold erase at hi hj
  split at hi
  ·cases hi
  ·split at hj
   ·cases hj
   ·exact h.inj i j g hi hj
 ·unfold erase at hi
  split at hi
  ·cases hi
  ·exact h.cW i g hi
 ·unfold erase at hi
  split at hi
  ·cases hi
  ·exact h.apart i g hi
end
def bw:List Prop->Prop
 | []=>True
 | p::l=>p∧bw l
structure Hint where
 av:Option AV:=none
 k:Nat:=0
 m:Nat:=0
 b:Bool:=true
 g:Bool:=true
 ln:List (Nat×Nat):=[]
 ho:List (Nat×Row):=[]
def kq {α:Type} (P:Program):Sem α->Option α
 | .pure a=>some a
 | .program k=>kq P (k P)
 | .mark _ k=>kq P k
 | _=>none
theorem gb {α:Type} {P:Program} (w:World):∀ {x:Sem α} {a:α},kq P x=some a->x.run P w= .ok a w
 | .pure a,_,h=>by injection h with h;subst h;rfl
 | .program k,a,h=>by show (k P).run P w=_;exact gb w h
 | .mark _ k,a,h=>by show k.run P w=_;exact gb w h
 | .load ..,_,h| .store ..,_,h| .new ..,_,h| .shape ..,_,h| .freeze ..,_,h| .frozen ..,_,h| .getObj ..,_,h| .setObj ..,_,h| .choose ..,_,h| .sys ..,_,h| .halt ..,_,h=>by cases h
def bB:Value->AV
 | .slice none 0 0=>.nil
 | v=>.val v
def Av:Value->AV
 | .agg cs=>.agg (cs.toList.map bB)
 | v=>bB v
def bq (s:AS):Operand->AV
 | .tmp t=>j9 s t
 | .const v=>Av v
 | .global _=>.dead
 | .func f=>.val (.func (.func f) #[] #[])
section
variable {I:Info} {S:Nat->Prop} {w:World}
theorem gk (v:Value):cz S w v (bB v):=by
 unfold bB
 split
 ·exact .nil
 ·exact .val _
theorem GG (v:Value):cz S w v (Av v):=by
 unfold Av
 split
 ·rename_i cs
  have:=cz.agg (S:=S) (w:=w) cs.toList (cs.toList.map bB) (by simp) (fun j v c hv hc=>by
   rw [List.getElem?_map,hv] at hc
   injection hc with hc;subst hc;exact gk v)
  simpa using this
 ·exact gk _
end
section
variable {S0:bo} {w0 w:World} {n:Nat} {O:List Nat} {s:AS} {a:Act} {φ:Nat->Option Nat} {P:Program}
theorem aJ.bq (h:aJ S0 w0 n O s a w φ) (x:Operand):Den (az s.H φ) (aO S0 w φ O) w (a.eval x) (bq s x):=by
 cases x with
 | tmp t=>exact h.get t
 | const v=>exact .rep (GG v)
 | global g=>exact .dead _
 | func f=>exact .rep (.val _)
end
theorem bF {I:Info} {S:Nat->Prop} {w:World} {v u:Value} (h:Den I S w v (.val u)):v=u:=by
 cases h with|rep h=>cases h;rfl
def dd (P:Program) (s:AS) (o:Oper) (x:AV) (C:List Prop):Prop :=
 bw C-> ∀S0 w0 n O a w φ,aJ S0 w0 n O s a w φ-> ∃v,(execOp a.eval o).run P w= .ok (.value v) w∧Den (az s.H φ) (aO S0 w φ O) w v x
def fin (h:Hint) (r:AV×List Prop):AV×List Prop:=match h.av with|none=>r|some y=>(y,(r.1=y)::r.2)
theorem gR {P:Program} {s:AS} {o:Oper} {h:Hint} {r:AV×List Prop} (hr:dd P s o r.1 r.2):dd P s o (fin h r).1 (fin h r).2:=by
 unfold fin
 split
 ·exact hr
 ·rename_i y _
  intro hC
  obtain ⟨rfl,hC⟩:=hC
  exact hr hC
def eH (P:Program) (t:TypeId):Option Nat:=(P.info? t).map (·.size)
def cD (P:Program) (t:TypeId):Bool:=match P.underlying t with|some (.struct _)|some (.array _ _)=>true|_=>false
def Js (P:Program) (t:TypeId):Bool:=match P.underlying t with|some (.array _ _)=>true|_=>false
def VA (P:Program) (t:TypeId):Option TypeId:=match P.underlying t with|some (.slice e)=>some e|_=>none
section
variable {P:Program} {w:World}
theorem run_sizeOf {t:TypeId} {k:Nat} (h:eH P t=some k):(sizeOf t).run P w= .ok k w:=by
 unfold eH at h
 cases hi:P.info? t with
 | none=>rw [hi] at h;cases h
 | some i=>rw [hi] at h;injection h with h;simp [sizeOf,typeInfo,hi,h]
theorem iL {t:TypeId} (hu:∃d,P.underlying t=some d):(isAgg t).run P w= .ok (cD P t) w:=by
 obtain ⟨d,hd⟩:=hu
 unfold isAgg cD
 simp only [Sem.run_bind,run_underlying hd,Result.andThen_ok,hd]
 cases d<;>rfl
end
def KB (P:Program) (op:BinOp) (t:TypeId) (x y:Operand) (u v:Value):Option (AV×List Prop) :=
 match op,u,v with
 | .quo,.int k a,.int k' b=>if k=k' then some (.val (.int k (k.wrap (a.tdiv b))),[b≠0]) else none
 | .rem,.int k a,.int k' b=>if k=k' then some (.val (.int k (a.tmod b)),[b≠0]) else none
 | .shl,.int k a,.int _ b=>some (.val (.int k (k.wrap (a*2^min b.toNat k.bits))),[0≤b])
 | .shr,.int k a,.int _ b=>some (.val (.int k (a.fdiv (2^min b.toNat k.bits))),[0≤b])
 | .add,.string a,.string b=>some (.val (.string (a++b)),[a.size+b.size≤9223372036854775807])
 | op,u,v=>match kq P (do eqGuard op t x y u v;binOp op t u v) with|some z=>some (.val z,[])|none=>none
theorem KA {P:Program} {s:AS} {o:Oper} {op:BinOp} {t t':TypeId} {x y:Operand} {u v:Value} {r:AV×List Prop} (ho:o.op= .binOp op t x y t') (hx:bq s x= .val u) (hy:bq s y= .val v) (h:KB P op t x y u v=some r):dd P s o r.1 r.2:=by
 intro hC S0 w0 n O a w φ hs
 have ex:a.eval x=u:=bF (hx ▸ hs.bq x)
 have ey:a.eval y=v:=bF (hy ▸ hs.bq y)
 unfold execOp
 simp only [ho,ex,ey]
 unfold KB at h
 split at h
 ·split at h
  ·rename_i hk
   injection h with h;subst h;subst hk
   have hb:=hC.1
   refine ⟨_,?_,.rep (.val _)⟩
   simp [eqGuard,binOp,Op.intDiv,hb]
  ·cases h
 ·split at h
  ·rename_i hk
   injection h with h;subst h;subst hk
   have hb:=hC.1
   refine ⟨_,?_,.rep (.val _)⟩
   simp [eqGuard,binOp,Op.intDiv,hb]
  ·cases h
 ·injection h with h;subst h
  have hb:¬(_:Int)<0:=Int.not_lt.2 hC.1
  refine ⟨_,?_,.rep (.val _)⟩
  simp [eqGuard,binOp,Op.shift,hb]
 ·injection h with h;subst h
  have hb:¬(_:Int)<0:=Int.not_lt.2 hC.1
  refine ⟨_,?_,.rep (.val _)⟩
  simp [eqGuard,binOp,Op.shift,hb]
 ·injection h with h;subst h
  have hb:¬(IntKind.i64.max<((_:Nat):Int)):=fun q=>by
   have h1:=hC.1
   have h2:IntKind.i64.max=9223372036854775807:=rfl
   rw [h2] at q
   exact absurd (Int.ofNat_le.2 h1) (Int.not_le.2 q)
  refine ⟨_,?_,.rep (.val _)⟩
  simp only [eqGuard,binOp,Op.stringOp,gt_iff_lt,if_neg hb]
  simp
 ·split at h
  ·rename_i z hz
   injection h with h;subst h
   refine ⟨z,?_,.rep (.val _)⟩
   rw [Sem.run_bind,gb w hz];rfl
  ·cases h
def Pm (P:Program) (op:UnOp) (u:Value):Option (AV×List Prop):=match kq P (Op.unary op u) with|some z=>some (.val z,[])|none=>none
theorem MH {P:Program} {s:AS} {o:Oper} {op:UnOp} {t:TypeId} {x:Operand} {u:Value} {r:AV×List Prop} (ho:o.op= .unOp op t x) (hx:bq s x= .val u) (h:Pm P op u=some r):dd P s o r.1 r.2:=by
 intro hC S0 w0 n O a w φ hs
 have ex:a.eval x=u:=bF (hx ▸ hs.bq x)
 unfold execOp
 simp only [ho,ex]
 unfold Pm at h
 split at h
 ·rename_i z hz
  injection h with h;subst h
  refine ⟨z,?_,.rep (.val _)⟩
  rw [Sem.run_bind,gb w hz];rfl
 ·cases h
def jS (s:AS):AV->Option AV
 | .ref id=>match look s.H id with|some r=>(match r.pure with|true=>some (.sl r.e r.cells)|false=>none)|none=>none
 | .pre id n=>match look s.H id with|some r=>(match r.pure with|true=>some (.sl r.e (r.cells.take n))|false=>none)|none=>none
 | .jE id o n=>match look s.H id with|some r=>(match r.pure with|true=>some (.sl r.e ((r.cells.drop o).take n))|false=>none)|none=>none
 | .addr id o=>match look s.H id with|some r=>(match r.pure with|true=>some (.ptr r.cells o)|false=>none)|none=>none
 | .agg _=>none
 | .b_ _=>none
 | .dead=>none
 | .own _ _=>none
 | .box _=>none
 | x=>some x
def pb (s:AS):List AV->Option (List AV)
 | []=>some []
 | x::l=>match jS s x,pb s l with|some y,some m=>some (y::m)|_,_=>none
def view (s:AS):AV->Option AV
 | .agg cs=>match pb s cs with|some l=>some (.agg l)|none=>none
 | x=>jS s x
section
variable {S0:bo} {w0 w:World} {n:Nat} {O:List Nat} {s:AS} {a:Act} {φ:Nat->Option Nat} {P:Program}
theorem kS (h:aJ S0 w0 n O s a w φ) {id:Nat} {r:Row} {g:Nat} (hr:look s.H id=some r) (hp:r.pure=true) (hg:φ id=some g) :
  ∃cur te fr,w.heap[g]?=some (.cells cur te fr)∧(∀j,j<cur.size-> ¬(fr.1≤j∧j<fr.2))∧r.cells.length≤cur.size∧ ∀(j:Nat) u x,cur[j]?=some u->r.cells[j]?=some x->cz (aO S0 w φ O) w u x:=by
 have aS:=h.rows id r hr
 unfold bK at aS
 rw [hg] at aS
 obtain ⟨cur,te,fr,jm,hf,hl,-,hc⟩:=aS
 refine ⟨cur,te,fr,jm,hf,hl,fun j u x hu hx=>?_⟩
 have:=hc j u x hu hx
 unfold bg at this;rw [hp] at this
 exact this
theorem qT (b:Nat) (h:aO S0 w φ O b):b<w.heap.size∧w.heap[b]?=w.heap[b]?:=⟨h.1,rfl⟩
theorem bS {α:Type} (l:List α) (k j:Nat) (x:α) (hx:(l.take k)[j]?=some x):l[j]?=some x:=by
 rw [List.getElem?_take] at hx
 split at hx
 ·exact hx
 ·cases hx
theorem i4 {S:Nat->Prop} (A:Option Addr) (l c e:Nat) (hn:0=e*l) (hc:l≤c) (hm:c≤maxLen):cz S w (.slice A l c) (.sl e []) :=
 .sl A l c e [] [] rfl hn hc hm (fun h=>by simp at h) (fun j u x hu=>by simp at hu)
theorem AZ (h:aJ S0 w0 n O s a w φ) {v:Value} {x y:AV} (hx:Den (az s.H φ) (aO S0 w φ O) w v x) (hv:jS s x=some y):cz (fun b=>b<w.heap.size) w v y:=by
 cases hx with
 | rep h =>
  have:=h.mono (qT (w:=w) (φ:=φ) (O:=O))
  cases h<;>simp [jS] at hv<;>subst hv<;>exact this
 | agg vs cs _ _=>simp [jS] at hv
 | b_ vs cs _ _=>simp [jS] at hv
 | dead v=>simp [jS] at hv
 | ref id e m g l c hi hm hc hx hs =>
  obtain ⟨r,hr,he,nF,bY⟩:=aT hi
  simp only [jS,hr] at hv
  cases hp:r.pure with
  | false=>rw [hp] at hv;cases hv
  | true =>
   rw [hp] at hv;injection hv with hv;subst hv
   obtain ⟨cur,te,fr,hg,hf,hl,ly⟩:=kS h hr hp bY
   exact fv (r:=r) hg (h.cW id g bY).2 r.cells 0 ag (by rw [nF,he];exact hm) hc hx _ (fun _=>rfl) (fun j u x hu hx=>(ly j u x (by simpa using hu) hx).mono qT)
 | cB id e hi =>
  obtain ⟨r,hr,he,nF,bY⟩:=aT hi
  simp only [jS,hr] at hv
  cases hp:r.pure with
  | false=>rw [hp] at hv;cases hv
  | true =>
   rw [hp] at hv;injection hv with hv;subst hv
   rw [List.length_eq_zero_iff.1 nF]
   exact i4 _ _ _ _ (by simp) (by simp) (by simp)
 | pre id k e m g l c hi hn hm hc hx hs =>
  obtain ⟨r,hr,he,nF,bY⟩:=aT hi
  simp only [jS,hr] at hv
  cases hp:r.pure with
  | false=>rw [hp] at hv;cases hv
  | true =>
   rw [hp] at hv;injection hv with hv;subst hv
   obtain ⟨cur,te,fr,hg,hf,hl,ly⟩:=kS h hr hp bY
   exact fv (r:=r) hg (h.cW id g bY).2 (r.cells.take k) 0 (by rw [List.length_take];omega) (by rw [List.length_take,he,←hn];omega) hc hx _ (fun _=>rfl) (fun j u x hu hx=>(ly j u x (by simpa using hu) (bS _ _ _ _ hx)).mono qT)
 | dH id e hi =>
  obtain ⟨r,hr,he,nF,bY⟩:=aT hi
  simp only [jS,hr] at hv
  cases hp:r.pure with
  | false=>rw [hp] at hv;cases hv
  | true =>
   rw [hp] at hv;injection hv with hv;subst hv
   simp only [List.take_zero]
   exact i4 _ _ _ _ (by simp) (by simp) (by simp)
 | jE id off k e m l c g A hi hn hm hc hx ha =>
  obtain ⟨r,hr,he,nF,bY⟩:=aT hi
  simp only [jS,hr] at hv
  cases hp:r.pure with
  | false=>rw [hp] at hv;cases hv
  | true =>
   rw [hp] at hv;injection hv with hv;subst hv
   have hlen:((r.cells.drop off).take k).length=k:=by rw [List.length_take,List.length_drop];omega
   by_cases hk:0<k
   ·obtain ⟨b,hb,hA⟩:=ha hk
    rw [hb] at bY
    obtain ⟨cur,te,fr,hg,hf,hl,ly⟩:=kS h hr hp bY
    exact fv (r:=r) hg (h.cW id b bY).2 ((r.cells.drop off).take k) off (by rw [hlen];omega) (by rw [hlen,he,←hn]) hc hx _ (fun _=>hA) (fun j u x hu hx=>(ly (off+j) u x hu (by have:=bS _ _ _ _ hx;rw [List.getElem?_drop] at this;exact this)).mono qT)
   ·rw [show (r.cells.drop off).take k= [] from List.length_eq_zero_iff.1 ag]
    exact i4 _ _ _ _ (by rw [he];omega) hc hx
 | addr id off e m g hi =>
  obtain ⟨r,hr,he,nF,bY⟩:=aT hi
  simp only [jS,hr] at hv
  cases hp:r.pure with
  | false=>rw [hp] at hv;cases hv
  | true =>
   rw [hp] at hv;injection hv with hv;subst hv
   obtain ⟨cur,te,fr,hg,hf,hl,ly⟩:=kS h hr hp bY
   exact pO hg (h.cW id g bY).2 r.cells hl (fun j u x hu hx=>(ly j u x hu hx).mono qT)
theorem AY (h:aJ S0 w0 n O s a w φ):∀(cs l:List AV) (vs:List Value),pb s cs=some l->vs.length=cs.length->(∀(j:Nat) v c,vs[j]?=some v->cs[j]?=some c->Den (az s.H φ) (aO S0 w φ O) w v c) ->
  l.length=cs.length∧ ∀(j:Nat) v c,vs[j]?=some v->l[j]?=some c->cz (fun b=>b<w.heap.size) w v c
 | [],l,vs,hv,hl,hd=>by simp [pb] at hv;subst hv;exact ⟨rfl,fun j v c _ hc=>by simp at hc⟩
 | x::cs,l,[],hv,hl,hd=>by simp at hl
 | x::cs,l,v0::vs,hv,hl,hd=>by
  simp only [pb] at hv
  cases h1:jS s x with
  | none=>rw [h1] at hv;cases hv
  | some y =>
   cases h2:pb s cs with
   | none=>rw [h1,h2] at hv;cases hv
   | some m =>
    rw [h1,h2] at hv;injection hv with hv;subst hv
    obtain ⟨e1,e2⟩:=AY h cs m vs h2 (by simpa using hl) fun j v c hv hc=>hd (j+1) v c (by simpa using hv) (by simpa using hc)
    refine ⟨by simp [e1],fun j v c hv hc=>?_⟩
    cases j with
    | zero=>simp at hv hc;subst hv;subst hc;exact AZ h (hd 0 _ _ rfl rfl) h1
    | succ j=>exact e2 j v c (by simpa using hv) (by simpa using hc)
theorem yz (h:aJ S0 w0 n O s a w φ) {v:Value} {x y:AV} (hx:Den (az s.H φ) (aO S0 w φ O) w v x) (hv:view s x=some y):cz (fun b=>b<w.heap.size) w v y:=by
 by_cases hc:∃cs,x= .agg cs
 ·obtain ⟨cs,rfl⟩:=hc
  obtain ⟨vs,rfl,hl,hd⟩:=kA hx
  simp only [view] at hv
  cases h1:pb s cs with
  | none=>rw [h1] at hv;cases hv
  | some l =>
   rw [h1] at hv;injection hv with hv;subst hv
   obtain ⟨e1,e2⟩:=AY h cs l vs h1 hl hd
   exact .agg vs l ag e2
 ·have:view s x=jS s x:=by
   cases x with
   | agg cs=>exact absurd ⟨cs,rfl⟩ hc
   | _=>rfl
  rw [this] at hv
  exact AZ h hx hv
end
def ah (bs:List UInt8):List AV:=bs.map fun c=>.val (.int .u8 (bv c))
def aj (l:List UInt64):List AV:=l.map fun c=>.val (.int .u64 (wv c))
def ax (l:List Int):List AV:=l.map fun c=>.val (.int .i64 c)
theorem aB (l:List UInt8):(ah l).length=l.length:=by simp [ah]
theorem aE (l:List UInt64):(aj l).length=l.length:=by simp [aj]
theorem kF (l:List Int):(ax l).length=l.length:=by simp [ax]
theorem xK {S:Nat->Prop} {w:World} {v:Value} {bs:List UInt8} (h:cz S w v (.sl 1 (ah bs))) (hS:∀b,S b->b<w.heap.size):jg w v (tB bs):=by
 cases h with
 | sl A n c e us row hl hn hc hm ha h =>
  have G4:us=tB bs:=by
   apply List.ext_getElem?
   intro j
   cases hu:us[j]? with
   | none =>
    have:us.length≤j:=List.getElem?_eq_none_iff.1 hu
    rw [List.getElem?_eq_none (by rw [gE];rw [aB] at hl;omega)]
   | some u =>
    have hj:j<bs.length:=by have:=(List.getElem?_eq_some_iff.1 hu).1;rw [hl,aB] at this;exact this
    have hx:(ah bs)[j]?=some (.val (.int .u8 (bv bs[j]))):=by simp [ah,hj]
    have:=h j u _ hu hx
    cases this
    simp [tB,hj]
  subst G4
  rw [aB] at hn ha
  have tJ:bs.length=n:=ag
  subst tJ
  refine ⟨A,c,by rw [gE],by rw [gE];exact hc,hm,by rw [gE],fun h0=>?_⟩
  rw [gE] at h0
  obtain ⟨ad,e,hs,bt⟩:=ha h0
  exact ⟨ad,e,hS _ hs,bt⟩
def Eo (P:Program) (s:AS) (src dst:TypeId) (x:AV) (h:Hint):Option (AV×List Prop) :=
 match x with
 | .val u=>(match kq P (convert src dst u) with|some z=>some (fin h (.val z,[]))|none=>none)
 | x =>
  match P.underlying src,P.underlying dst,view s x,h.av with
  | some (.slice e),some .string,some (.sl 1 row),some (.val (.string b)) =>
   (match P.underlying e with|some (.int .u8)=>some (.val (.string b),[row=ah b.data.toList])|_=>none)
  | _,_,_,_=>none
theorem Hy {P:Program} {s:AS} {o:Oper} {src dst:TypeId} {x:Operand} {h:Hint} {r:AV×List Prop} (ho:o.op= .convert src dst x) (hr:Eo P s src dst (bq s x) h=some r):dd P s o r.1 r.2:=by
 unfold Eo at hr
 split at hr
 ·rename_i u hx
  split at hr
  ·rename_i z hz
   injection hr with hr;subst hr
   apply gR
   intro hC S0 w0 n O a w φ hs
   have ex:a.eval x=u:=bF (hx ▸ hs.bq x)
   unfold execOp
   simp only [ho,ex]
   refine ⟨z,?_,.rep (.val _)⟩
   rw [Sem.run_bind,gb w hz];rfl
  ·cases hr
 ·split at hr
  ·rename_i e row b h1 h2 h3 h4
   split at hr
   ·rename_i h5
    injection hr with hr;subst hr
    intro hC S0 w0 n O a w φ hs
    have hv:=yz hs (hs.bq x) h3
    rw [hC.1] at hv
    have bZ:=w6 (P:=P) (xK hv (fun _ h=>h)) src dst e h1 h5 h2
    unfold execOp
    simp only [ho]
    refine ⟨.string b,?_,.rep (.val _)⟩
    rw [Sem.run_bind,bZ];rfl
   ·cases hr
  ·cases hr
def cV:Nat->Nat->Nat
 | k,1=>k
 | k,e=>k*e
theorem bu (k e:Nat):cV k e=k*e:=by
 unfold cV
 split<;>simp
def pY (P:Program) (t:TypeId) (pure:Bool) (cells:List AV) (off:Nat) (h:Hint):Option (AV×List Prop) :=
 match eH P t,P.underlying t with
 | some sz,some d =>
  (match d with
  | .struct _=>(match h.av with
   | some (.agg cs)=>some (.agg cs,[(cells.drop off).take sz=cs,cs.length=sz])
   | some _=>none
   | none=>(match Nat.beq ((cells.drop off).take sz).length sz with|true=>some (.agg ((cells.drop off).take sz),[])|false=>none))
  | .array _ _=>(match h.av,pure with
   | some (.arr cs),true=>some (.arr cs,[(cells.drop off).take sz=cs,cs.length=sz])
   | some (.agg cs),_=>some (.agg cs,[(cells.drop off).take sz=cs,cs.length=sz])
   | _,_=>none)
  | _=>(match h.av with
   | some y=>some (y,[cells[off]?=some y])
   | none=>(match cells[off]? with|some y=>some (y,[])|none=>none)))
 | _,_=>none
section
variable {P:Program} {w:World} {I:Info} {S:Nat->Prop}
theorem tG {t:TypeId} {p:Addr} {vs:List Value} {d:TypeDesc} (hd:P.underlying t=some d) (ha:cD P t=true) (hs:eH P t=some vs.length) (h:∀(j:Nat) v,vs[j]?=some v->w.cell? (p.add j)=some v) :
  (loadVar t p).run P w= .ok (.agg vs.toArray) w:=by
 unfold loadVar
 rw [Sem.run_bind,iL ⟨d,hd⟩]
 simp only [Result.andThen_ok,ha,if_true]
 rw [Sem.run_bind,run_sizeOf hs]
 simp only [Result.andThen_ok]
 rw [Sem.run_bind,run_loadCells_list w p vs h]
 rfl
theorem tF {t:TypeId} {p:Addr} {v:Value} {d:TypeDesc} (hd:P.underlying t=some d) (ha:cD P t=false) (h:w.cell? p=some v) :
  (loadVar t p).run P w= .ok v w:=by
 unfold loadVar
 rw [Sem.run_bind,iL ⟨d,hd⟩]
 simp [ha,h]
theorem bP {α:Type} (l:List α) (off k j:Nat) (x:α) (hx:((l.drop off).take k)[j]?=some x):l[off+j]?=some x:=by
 have:=bS _ _ _ _ hx
 rw [List.getElem?_drop] at this;exact this
theorem dE (p:Addr):p.add 0=p:=by simp [Addr.add]
theorem sv {t:TypeId} {pure:Bool} {cells:List AV} {off:Nat} {h:Hint} {r:AV×List Prop} (hr:pY P t pure cells off h=some r) (hC:bw r.2) (p:Addr) (us:List Value) (hl:cells.length≤us.length)
  (bt:∀(j:Nat) u,us[off+j]?=some u->w.cell? (p.add j)=some u) (hd:∀(j:Nat) u x,us[j]?=some u->cells[j]?=some x->bg I S w pure u x) :
  ∃v,(loadVar t p).run P w= .ok v w∧Den I S w v r.1:=by
 have den:∀(j:Nat) u x,us[j]?=some u->cells[j]?=some x->Den I S w u x:=by
  intro j u x hu hx
  have:=hd j u x hu hx
  unfold bg at this
  cases pure with
  | true=>exact .rep this
  | false=>exact this
 unfold pY at hr
 split at hr
 ·rename_i sz d dB hu
  have agg:∀(cs:List AV),cD P t=true->(cells.drop off).take sz=cs->cs.length=sz-> ∃vs:List Value,vs=(us.drop off).take sz∧(loadVar t p).run P w= .ok (.agg vs.toArray) w∧vs.length=cs.length∧(∀(j:Nat) v c,vs[j]?=some v->cs[j]?=some c->us[off+j]?=some v∧cells[off+j]?=some c):=by
   intro cs ha he hlen
   have G8:cs.length=min sz (cells.length-off):=by rw [←he,List.length_take,List.length_drop]
   have P5:((us.drop off).take sz).length=sz:=by rw [List.length_take,List.length_drop];omega
   refine ⟨_,rfl,tG hu ha (by rw [P5];exact dB) (fun j v hv=>bt j v (bP _ _ _ _ _ hv)),ag,fun j v c hv hc=>⟨bP _ _ _ _ _ hv,?_⟩⟩
   rw [←he] at hc;exact bP _ _ _ _ _ hc
  have one:∀y,cD P t=false->cells[off]?=some y-> ∃v,(loadVar t p).run P w= .ok v w∧Den I S w v y:=by
   intro y ha hy
   have cZ:off<us.length:=by have:=(List.getElem?_eq_some_iff.1 hy).1;omega
   have hv:us[off]?=some us[off]:=List.getElem?_eq_getElem cZ
   refine ⟨us[off],tF hu ha ?_,den off _ y hv hy⟩
   have:=bt 0 us[off] (by simp)
   rw [dE] at this;exact this
  split at hr
  ·have ha:cD P t=true:=by unfold cD;rw [hu]
   split at hr
   ·rename_i cs _
    injection hr with hr;subst hr
    obtain ⟨vs,-,h1,h2,h3⟩:=agg cs ha hC.1 hC.2.1
    exact ⟨_,h1,.agg vs cs h2 fun j v c hv hc=>den _ _ _ (h3 j v c hv hc).1 (h3 j v c hv hc).2⟩
   ·cases hr
   ·split at hr
    ·rename_i hb
     injection hr with hr;subst hr
     obtain ⟨vs,-,h1,h2,h3⟩:=agg _ ha rfl (Nat.eq_of_beq_eq_true hb)
     exact ⟨_,h1,.agg vs _ h2 fun j v c hv hc=>den _ _ _ (h3 j v c hv hc).1 (h3 j v c hv hc).2⟩
    ·cases hr
  ·have ha:cD P t=true:=by unfold cD;rw [hu]
   split at hr
   ·rename_i cs _
    injection hr with hr;subst hr
    obtain ⟨vs,-,h1,h2,h3⟩:=agg cs ha hC.1 hC.2.1
    exact ⟨_,h1,.rep (.arr vs cs h2 fun j v c hv hc=>by have:=hd _ _ _ (h3 j v c hv hc).1 (h3 j v c hv hc).2;exact this)⟩
   ·rename_i cs _
    injection hr with hr;subst hr
    obtain ⟨vs,-,h1,h2,h3⟩:=agg cs ha hC.1 hC.2.1
    exact ⟨_,h1,.agg vs cs h2 fun j v c hv hc=>den _ _ _ (h3 j v c hv hc).1 (h3 j v c hv hc).2⟩
   ·cases hr
  ·rename_i P4 Rh
   have ha:cD P t=false:=by
    unfold cD;rw [hu]
    cases d<;>first|rfl|exact absurd rfl (P4 _)|exact absurd rfl (Rh _ _)
   split at hr
   ·injection hr with hr;subst hr
    exact one _ ha hC.1
   ·split at hr
    ·rename_i y hy
     injection hr with hr;subst hr
     exact one _ ha hy
    ·cases hr
 ·cases hr
end
def Ec (P:Program) (s:AS) (t:TypeId) (x:AV) (h:Hint):Option (AV×List Prop) :=
 match x with
 | .ptr row off=>pY P t true row off h
 | .addr id off=>(match look s.H id with|some r=>pY P t r.pure r.cells off h|none=>none)
 | _=>none
section
variable {P:Program} {s:AS} {o:Oper} {h:Hint} {r:AV×List Prop}
theorem uk {I:Info} {S:Nat->Prop} {w:World} {v:Value} {row:List AV} {off:Nat} (h:Den I S w v (.ptr row off)):∃(ad:Addr) (us:List Value),v= .pointer (some (ad.add off))∧us.length=row.length∧S ad.block∧(∀(j:Nat) u,us[j]?=some u->w.cell? (ad.add j)=some u)∧ ∀(j:Nat) u x,us[j]?=some u->row[j]?=some x->cz S w u x:=by
 cases h with|rep h=>cases h with|ptr ad us _ _ hl hs ha h=>exact ⟨ad,us,rfl,hl,hs,ha,h⟩
theorem j6 {I:Info} {S:Nat->Prop} {w:World} {v:Value} {id off:Nat} (h:Den I S w v (.addr id off)):∃e m g,I id=some (e,m,some g)∧v= .pointer (some ⟨g,off,none⟩):=by
 cases h with
 | rep h=>cases h
 | addr id off e m g hi=>exact ⟨e,m,g,hi,rfl⟩
theorem mE (g o j:Nat):(⟨g,o,none⟩:Addr).add j=⟨g,o+j,none⟩:=by unfold Addr.add;split<;>simp_all
theorem Ht {t:TypeId} {x:Operand} (ho:o.op= .load t x) (hr:Ec P s t (bq s x) h=some r):dd P s o r.1 r.2:=by
 intro hC S0 w0 n O a w φ hs
 have hx:=hs.bq x
 unfold execOp
 simp only [ho]
 unfold Ec at hr
 split at hr
 ·rename_i row off he
  rw [he] at hx
  obtain ⟨ad,us,hv,hl,hS,bt,bV⟩:=uk hx
  obtain ⟨v,h1,h2⟩:=sv (I:=az s.H φ) (S:=aO S0 w φ O) hr hC (ad.add off) us ag (fun j u hu=>by rw [nh];exact bt _ u hu) (fun j u x hu hx=>by show cz _ _ _ _;exact bV j u x hu hx)
  refine ⟨v,?_,h2⟩
  simp only [Instr.loadAt,hv,Instr.sureAddr,Sem.run_bind,Sem.run_pure,Result.andThen_ok,h1]
 ·rename_i id off he
  rw [he] at hx
  obtain ⟨e,m,g,hi,hv⟩:=j6 hx
  obtain ⟨q,hq,-,-,bY⟩:=aT hi
  rw [hq] at hr
  have aS:=hs.rows id q hq
  unfold bK at aS
  rw [bY] at aS
  obtain ⟨cur,te,fr,hg,hf,hl,-,hc⟩:=aS
  obtain ⟨v,h1,h2⟩:=sv (I:=az s.H φ) (S:=aO S0 w φ O) hr hC ⟨g,off,none⟩ cur.toList hl (fun j u hu=>by rw [mE,cell_of_row w g _ cur te fr hg];simpa using hu) (fun j u x hu hx=>hc j u x (by simpa using hu) hx)
  refine ⟨v,?_,h2⟩
  simp only [Instr.loadAt,hv,Instr.sureAddr,Sem.run_bind,Sem.run_pure,Result.andThen_ok,h1]
 ·cases hr
def ot (P:Program) (t:TypeId) (x:AV) (f:Nat):Option (AV×List Prop) :=
 match P.underlying t with
 | some (.struct fields) =>
  (match fields[f]? with
  | some fd=>(match eH P fd.type with
   | some (_+1)=>(match x with
    | .ptr row off=>some (.ptr row (off+fd.offset),[])
    | .addr id off=>some (.addr id (off+fd.offset),[])
    | _=>none)
   | _=>none)
  | none=>none)
 | _=>none
theorem wq {t:TypeId} {x:Operand} {f:Nat} (ho:o.op= .fieldAddr t x f) (hr:ot P t (bq s x) f=some r):dd P s o r.1 r.2:=by
 intro hC S0 w0 n O a w φ hs
 have hx:=hs.bq x
 unfold execOp
 simp only [ho]
 unfold ot at hr
 split at hr
 ·rename_i fields hu
  split at hr
  ·rename_i fd hf
   split at hr
   ·rename_i k dB
    have hz:(sizeOf fd.type).run P w= .ok (k+1) w:=run_sizeOf dB
    split at hr
    ·rename_i row off he
     injection hr with hr;subst hr
     rw [he] at hx
     obtain ⟨ad,us,hv,hl,hS,bt,bV⟩:=uk hx
     refine ⟨.pointer (some (ad.add (off+fd.offset))),?_,.rep (.ptr ad us row _ hl hS bt bV)⟩
     simp [Instr.fieldAt,run_underlying hu,hf,hv,Instr.sureAddr,fieldPlace,hz,nh]
    ·rename_i id off he
     injection hr with hr;subst hr
     rw [he] at hx
     obtain ⟨e,m,g,hi,hv⟩:=j6 hx
     refine ⟨.pointer (some ⟨g,off+fd.offset,none⟩),?_,.addr id _ e m g hi⟩
     simp [Instr.fieldAt,run_underlying hu,hf,hv,Instr.sureAddr,fieldPlace,hz,mE]
    ·cases hr
   ·cases hr
  ·cases hr
 ·cases hr
def Kv (P:Program) (s:AS) (t:TypeId) (x:AV) (n:Int) (h:Hint):Option (AV×List Prop) :=
 match P.underlying t with
 | some (.slice el) =>
  (match eH P el with
  | some (z+1)=>(match x with
   | .sl e row=>(match Nat.beq e (z+1) with|true=>some (.ptr row (cV h.k (z+1)),[n=(h.k:Int),cV h.k (z+1)<row.length])|false=>none)
   | .ref id=>(match look s.H id with|some q=>(match Nat.beq q.e (z+1) with|true=>some (.addr id (cV h.k (z+1)),[n=(h.k:Int),cV h.k (z+1)<q.cells.length])|false=>none)|none=>none)
   | .pre id l=>(match look s.H id with|some q=>(match Nat.beq q.e (z+1) with|true=>some (.addr id (cV h.k (z+1)),[n=(h.k:Int),cV h.k (z+1)<l])|false=>none)|none=>none)
   | .jE id off l=>(match look s.H id with|some q=>(match Nat.beq q.e (z+1) with|true=>some (.addr id (cV h.k (z+1)+off),[n=(h.k:Int),cV h.k (z+1)<l])|false=>none)|none=>none)
   | _=>none)
  | _=>none)
 | some (.array len el) =>
  (match eH P el with
  | some (z+1)=>(match x with
   | .ptr row off=>some (.ptr row (cV h.k (z+1)+off),[n=(h.k:Int),h.k<len])
   | .addr id off=>some (.addr id (cV h.k (z+1)+off),[n=(h.k:Int),h.k<len])
   | _=>none)
  | _=>none)
 | _=>none
theorem p7 {I:Info} {S:Nat->Prop} {w:World} {v:Value} {e:Nat} {row:List AV} (h:Den I S w v (.sl e row)):cz S w v (.sl e row):=by
 cases h with|rep h=>exact h
theorem oK {k z l e m:Nat} (h:cV k (z+1)<m) (hm:m=e*l) (he:e=z+1):k<l:=by
 rw [bu,hm,he,Nat.mul_comm] at h
 exact Nat.lt_of_mul_lt_mul_left h
theorem Ku {t:TypeId} {x i:Operand} {k:IntKind} {n:Int} (ho:o.op= .indexAddr t x i) (hi:bq s i= .val (.int k n)) (hr:Kv P s t (bq s x) n h=some r):dd P s o r.1 r.2:=by
 intro hC S0 w0 n' O a w φ hs
 have hx:=hs.bq x
 have ei:a.eval i= .int k n:=bF (hi ▸ hs.bq i)
 unfold execOp
 simp only [ho,ei]
 unfold Kv at hr
 split at hr
 ·rename_i el hu
  split at hr
  ·rename_i z dB
   have hz:(sizeOf el).run P w= .ok (z+1) w:=run_sizeOf dB
   split at hr
   ·rename_i e row he
    rw [he] at hx
    split at hr
    ·rename_i hb
     have k9:e=z+1:=Nat.eq_of_beq_eq_true hb
     injection hr with hr;subst hr
     obtain ⟨hn,cZ,-⟩:=hC
     have bV:=p7 hx
     cases ji:a.eval x with
     | slice A l c =>
      rw [ji] at bV
      cases bV with
      | sl _ _ _ _ us _ hl tJ hc hm ha bV =>
       have gV:h.k<l:=oK cZ tJ k9
       obtain ⟨ad,rfl,hS,bt⟩:=ha ag
       refine ⟨.pointer (some (ad.add (cV h.k (z+1)))),?_,.rep (.ptr ad us row _ hl hS bt bV)⟩
       have lH:0≤n∧n<(l:Int):=ag
       have hk:n.toNat=h.k:=ag
       simp [Instr.indexAt,run_underlying hu,asIntOf,lH,hz,hk,bu]
     | _=>rw [ji] at bV;cases bV
    ·cases hr
   ·rename_i id he
    rw [he] at hx
    split at hr
    ·rename_i q hq
     split at hr
     ·rename_i hb
      have k9:q.e=z+1:=Nat.eq_of_beq_eq_true hb
      injection hr with hr;subst hr
      obtain ⟨hn,cZ,-⟩:=hC
      generalize a.eval x=V at hx
      cases hx with
      | rep h=>cases h
      | ref _ e m g l c hi hm hc hx bT =>
       rw [br hq] at hi
       injection hi with hi;injection hi with h1 hi;injection hi with h2 h3
       have gV:h.k<l:=oK cZ (by rw [h2];exact hm) (by rw [←h1];exact k9)
       refine ⟨.pointer (some ⟨g,cV h.k (z+1),none⟩),?_,.addr id _ q.e q.cells.length g (by rw [br hq,h3])⟩
       have lH:0≤n∧n<(l:Int):=ag
       have hk:n.toNat=h.k:=ag
       simp [Instr.indexAt,run_underlying hu,asIntOf,lH,hz,hk,bu,fy]
      | cB _ e hi =>
       rw [br hq] at hi
       injection hi with hi;injection hi with h1 hi;injection hi with h2 h3
       omega
     ·cases hr
    ·cases hr
   ·rename_i id l' he
    rw [he] at hx
    split at hr
    ·rename_i q hq
     split at hr
     ·rename_i hb
      have k9:q.e=z+1:=Nat.eq_of_beq_eq_true hb
      injection hr with hr;subst hr
      obtain ⟨hn,cZ,-⟩:=hC
      generalize a.eval x=V at hx
      cases hx with
      | rep h=>cases h
      | pre _ _ e m g l c hi tJ hm hc hx bT =>
       rw [br hq] at hi
       injection hi with hi;injection hi with h1 hi;injection hi with h2 h3
       have gV:h.k<l:=oK cZ tJ (by rw [←h1];exact k9)
       refine ⟨.pointer (some ⟨g,cV h.k (z+1),none⟩),?_,.addr id _ q.e q.cells.length g (by rw [br hq,h3])⟩
       have lH:0≤n∧n<(l:Int):=ag
       have hk:n.toNat=h.k:=ag
       simp [Instr.indexAt,run_underlying hu,asIntOf,lH,hz,hk,bu,fy]
      | dH _ e hi=>omega
     ·cases hr
    ·cases hr
   ·rename_i id off l' he
    rw [he] at hx
    split at hr
    ·rename_i q hq
     split at hr
     ·rename_i hb
      have k9:q.e=z+1:=Nat.eq_of_beq_eq_true hb
      injection hr with hr;subst hr
      obtain ⟨hn,cZ,-⟩:=hC
      generalize a.eval x=V at hx
      cases hx with
      | rep h=>cases h
      | jE _ _ _ e m l c g A hi tJ hm hc hx ha =>
       rw [br hq] at hi
       injection hi with hi;injection hi with h1 hi;injection hi with h2 h3
       have gV:h.k<l:=oK cZ tJ (by rw [←h1];exact k9)
       obtain ⟨b,Lj,rfl⟩:=ha ag
       refine ⟨.pointer (some ⟨b,cV h.k (z+1)+off,none⟩),?_,.addr id _ q.e q.cells.length b (by rw [br hq,h3,Lj])⟩
       have lH:0≤n∧n<(l:Int):=ag
       have hk:n.toNat=h.k:=ag
       simp [Instr.indexAt,run_underlying hu,asIntOf,lH,hz,hk,bu,mE,Nat.add_comm]
     ·cases hr
    ·cases hr
   ·cases hr
  ·cases hr
 ·rename_i len el hu
  split at hr
  ·rename_i z dB
   have hz:(sizeOf el).run P w= .ok (z+1) w:=run_sizeOf dB
   split at hr
   ·rename_i row off he
    rw [he] at hx
    injection hr with hr;subst hr
    obtain ⟨hn,cZ,-⟩:=hC
    obtain ⟨ad,us,hv,hl,hS,bt,bV⟩:=uk hx
    refine ⟨.pointer (some (ad.add (cV h.k (z+1)+off))),?_,.rep (.ptr ad us row _ hl hS bt bV)⟩
    have lH:0≤n∧n<(len:Int):=ag
    have hk:n.toNat=h.k:=ag
    simp [Instr.indexAt,run_underlying hu,asIntOf,lH,hz,hk,hv,Instr.sureAddr,bu,nh,Nat.add_comm]
   ·rename_i id off he
    rw [he] at hx
    injection hr with hr;subst hr
    obtain ⟨hn,cZ,-⟩:=hC
    obtain ⟨e,m,g,hi,hv⟩:=j6 hx
    refine ⟨.pointer (some ⟨g,cV h.k (z+1)+off,none⟩),?_,.addr id _ e m g hi⟩
    have lH:0≤n∧n<(len:Int):=ag
    have hk:n.toNat=h.k:=ag
    simp [Instr.indexAt,run_underlying hu,asIntOf,lH,hz,hk,hv,Instr.sureAddr,bu,mE,Nat.add_comm]
   ·cases hr
  ·cases hr
 ·cases hr
end
section
variable {P:Program} {s:AS} {o:Oper} {h:Hint} {r:AV×List Prop}
inductive Cut where
 | all|to (n:Int)|from_ (n:Int)|both (n m:Int)
def vz:AV->Option Int
 | .val (.int _ n)=>some n
 | _=>none
def wF (s:AS) (lo hi mx:Option Operand):Option Cut :=
 match lo,hi,mx with
 | none,none,none=>some .all
 | none,some y,none=>(match vz (bq s y) with|some m=>some (.to m)|none=>none)
 | some x,none,none=>(match vz (bq s x) with|some n=>some (.from_ n)|none=>none)
 | some x,some y,none=>(match vz (bq s x),vz (bq s y) with|some n,some m=>some (.both n m)|_,_=>none)
 | _,_,_=>none
def z_ (P:Program) (s:AS) (t:TypeId) (x:AV) (c:Cut) (h:Hint):Option (AV×List Prop) :=
 match P.underlying t with
 | some .string =>
  (match x,c with
  | .val (.string b),.all=>some (.val (.string b),[])
  | .val (.string b),.to n=>some (fin h (.val (.string (b.extract 0 h.m)),[n=(h.m:Int),h.m≤b.size]))
  | .val (.string b),.from_ n=>some (fin h (.val (.string (b.extract h.k b.size)),[n=(h.k:Int),h.k≤b.size]))
  | .val (.string b),.both n n'=>some (fin h (.val (.string (b.extract h.k h.m)),[n=(h.k:Int),n'=(h.m:Int),h.k≤h.m,h.m≤b.size]))
  | _,_=>none)
 | some (.slice el) =>
  (match eH P el with
  | some (z+1)=>(match x,c with
   | .sl e row,.all=>some (fin h (.sl e row,[]))
   | .sl e row,.to n=>(match Nat.beq e (z+1) with|true=>some (fin h (.sl e (row.take (cV h.m e)),[n=(h.m:Int),cV h.m e≤row.length]))|false=>none)
   | .sl e row,.from_ n=>(match Nat.beq e (z+1) with|true=>some (fin h (.sl e (row.drop (cV h.k e)),[n=(h.k:Int),cV h.k e≤row.length]))|false=>none)
   | .sl e row,.both n n'=>(match Nat.beq e (z+1) with|true=>some (fin h (.sl e ((row.drop (cV h.k e)).take (cV (h.m-h.k) e)),[n=(h.k:Int),n'=(h.m:Int),h.k≤h.m,cV h.m e≤row.length]))|false=>none)
   | .ref id,.all=>some (.ref id,[])
   | .ref id,.to n=>(match look s.H id with|some q=>(match Nat.beq q.e (z+1) with|true=>some (.pre id (cV h.m q.e),[n=(h.m:Int),cV h.m q.e≤q.cells.length])|false=>none)|none=>none)
   | .ref id,.from_ n=>(match look s.H id with|some q=>(match Nat.beq q.e (z+1) with|true=>some (.jE id (cV h.k q.e) (q.cells.length-cV h.k q.e),[n=(h.k:Int),cV h.k q.e≤q.cells.length])|false=>none)|none=>none)
   | .ref id,.both n n'=>(match look s.H id with|some q=>(match Nat.beq q.e (z+1) with|true=>some (.jE id (cV h.k q.e) (cV (h.m-h.k) q.e),[n=(h.k:Int),n'=(h.m:Int),h.k≤h.m,cV h.m q.e≤q.cells.length])|false=>none)|none=>none)
   | .pre id l,.all=>some (.pre id l,[])
   | .pre id l,.to n=>(match look s.H id with|some q=>(match Nat.beq q.e (z+1) with|true=>some (.pre id (cV h.m q.e),[n=(h.m:Int),cV h.m q.e≤l])|false=>none)|none=>none)
   | _,_=>none)
  | _=>none)
 | some (.array len el) =>
  (match eH P el with
  | some (z+1)=>(match x,c with
   | .addr id 0,.all=>(match look s.H id with|some q=>(match Nat.beq q.e (z+1),q.full with|true,true=>some (.ref id,[q.cells.length=cV len q.e,len≤maxLen])|_,_=>none)|none=>none)
   | .addr id 0,.to n=>(match look s.H id with|some q=>(match Nat.beq q.e (z+1),q.full with|true,true=>some (.pre id (cV h.m q.e),[n=(h.m:Int),h.m≤len,q.cells.length=cV len q.e,len≤maxLen])|_,_=>none)|none=>none)
   | .addr id 0,.from_ n=>(match look s.H id with|some q=>(match Nat.beq q.e (z+1),q.full with|true,true=>some (.jE id (cV h.k q.e) (cV (len-h.k) q.e),[n=(h.k:Int),h.k≤len,q.cells.length=cV len q.e,len≤maxLen])|_,_=>none)|none=>none)
   | .addr id 0,.both n n'=>(match look s.H id with|some q=>(match Nat.beq q.e (z+1),q.full with|true,true=>some (.jE id (cV h.k q.e) (cV (h.m-h.k) q.e),[n=(h.k:Int),n'=(h.m:Int),h.k≤h.m,h.m≤len,q.cells.length=cV len q.e,len≤maxLen])|_,_=>none)|none=>none)
   | _,_=>none)
  | _=>none)
 | _=>none
def Bounds (c:Cut) (len cap:Nat) (l hi:Nat):Prop :=
 match c with
 | .all=>l=0∧hi=len
 | .to n=>l=0∧n=(hi:Int)∧hi≤cap
 | .from_ n=>n=(l:Int)∧l≤len∧hi=len
 | .both n n'=>n=(l:Int)∧n'=(hi:Int)∧l≤hi∧hi≤cap
theorem DK {x:AV} {n:Int} (h:vz x=some n):∃k,x= .val (.int k n):=by
 unfold vz at h
 split at h
 ·injection h with h;subst h;exact ⟨_,rfl⟩
 ·cases h
theorem run_sliceBound {w:World} {k:IntKind} {n:Int} {y l:Nat} {code:BoundsCode} (h1:n=(l:Int)) (h2:l≤y):(Instr.sliceBound (.int k n) y code).run P w= .ok l w:=by
 have:0≤n∧n≤(y:Int):=ag
 have e:n.toNat=l:=ag
 simp [Instr.sliceBound,asIntOf,this,e]
theorem pF {S0:bo} {w0 w:World} {n:Nat} {O:List Nat} {a:Act} {φ:Nat->Option Nat} (hs:aJ S0 w0 n O s a w φ) {lo hi mx:Option Operand} {c:Cut} (hc:wF s lo hi mx=some c) (S5:Bool) {len cap l m:Nat} (hb:Bounds c len cap l m) (hle:len≤cap) :
  mx=none∧(Instr.sliceBounds S5 len cap (lo.map a.eval) (hi.map a.eval) none).run P w= .ok (l,m,cap) w:=by
 have ev:∀x z,vz (bq s x)=some z-> ∃k,a.eval x= .int k z:=fun x z hx=>by
  obtain ⟨k,e⟩:=DK hx
  exact ⟨k,bF (e ▸ hs.bq x)⟩
 unfold wF at hc
 split at hc
 ·injection hc with hc;subst hc
  obtain ⟨rfl,rfl⟩:=hb
  exact ⟨rfl,by simp [Instr.sliceBounds]⟩
 ·split at hc
  ·rename_i z hz
   injection hc with hc;subst hc
   obtain ⟨rfl,h1,h2⟩:=hb
   obtain ⟨k,e⟩:=ev _ _ hz
   exact ⟨rfl,by simp [Instr.sliceBounds,e,run_sliceBound h1 h2]⟩
  ·cases hc
 ·split at hc
  ·rename_i z hz
   injection hc with hc;subst hc
   obtain ⟨h1,h2,rfl⟩:=hb
   obtain ⟨k,e⟩:=ev _ _ hz
   exact ⟨rfl,by simp [Instr.sliceBounds,e,run_sliceBound h1 h2]⟩
  ·cases hc
 ·split at hc
  ·rename_i z z' hz BS
   injection hc with hc;subst hc
   obtain ⟨h1,J5,h2,h3⟩:=hb
   obtain ⟨k,e⟩:=ev _ _ hz
   obtain ⟨k',e'⟩:=ev _ _ BS
   exact ⟨rfl,by simp [Instr.sliceBounds,e,e',run_sliceBound J5 h3,run_sliceBound h1 h2]⟩
  ·cases hc
 ·cases hc
theorem bR {S0:bo} {w0 w:World} {n:Nat} {O:List Nat} {a:Act} {φ:Nat->Option Nat} (hs:aJ S0 w0 n O s a w φ) {t el:TypeId} {x:Operand} {lo hi mx:Option Operand} {c:Cut} (ho:o.op= .slice t x lo hi mx) (hc:wF s lo hi mx=some c) (hu:P.underlying t=some (.slice el)) {z:Nat} (hz:eH P el=some z)
  {A:Option Addr} {len cap l m:Nat} (hx:a.eval x= .slice A len cap) (hb:Bounds c len cap l m) (hle:len≤cap) :
  (execOp a.eval o).run P w= .ok (.value (.slice (if cap=l then A else A.map (·.add (l*z))) (m-l) (cap-l))) w:=by
 obtain ⟨rfl,hr⟩:=pF (P:=P) hs hc true hb hle
 unfold execOp
 simp only [ho,hx]
 have BS:(sizeOf el).run P w= .ok z w:=run_sizeOf hz
 simp [Instr.sliceAt,Instr.slice,run_underlying hu,hr,BS]
theorem jH {S0:bo} {w0 w:World} {n:Nat} {O:List Nat} {a:Act} {φ:Nat->Option Nat} (hs:aJ S0 w0 n O s a w φ) {t el:TypeId} {x:Operand} {lo hi mx:Option Operand} {c:Cut} (ho:o.op= .slice t x lo hi mx) (hc:wF s lo hi mx=some c) {len:Nat} (hu:P.underlying t=some (.array len el)) {z:Nat} (hz:eH P el=some z)
  {p:Addr} {l m:Nat} (hx:a.eval x= .pointer (some p)) (hb:Bounds c len len l m) :
  (execOp a.eval o).run P w= .ok (.value (.slice (some (if len=l then p else p.add (l*z))) (m-l) (len-l))) w:=by
 obtain ⟨rfl,hr⟩:=pF (P:=P) hs hc false hb (Nat.le_refl _)
 unfold execOp
 simp only [ho,hx]
 have BS:(sizeOf el).run P w= .ok z w:=run_sizeOf hz
 simp [Instr.sliceAt,Instr.sureAddr,run_underlying hu,hr,BS]
theorem jG {S0:bo} {w0 w:World} {n:Nat} {O:List Nat} {a:Act} {φ:Nat->Option Nat} (hs:aJ S0 w0 n O s a w φ) {t:TypeId} {x:Operand} {lo hi mx:Option Operand} {c:Cut} (ho:o.op= .slice t x lo hi mx) (hc:wF s lo hi mx=some c) (hu:P.underlying t=some .string)
  {b:ByteArray} {l m:Nat} (hx:a.eval x= .string b) (hb:Bounds c b.size b.size l m) :
  (execOp a.eval o).run P w= .ok (.value (.string (b.extract l m))) w:=by
 obtain ⟨rfl,hr⟩:=pF (P:=P) hs hc false hb (Nat.le_refl _)
 unfold execOp
 simp only [ho,hx]
 simp [Instr.sliceAt,Instr.slice,run_underlying hu,hr]
theorem Bj {S:Nat->Prop} {w:World} {A:Option Addr} {len cap e z:Nat} {row:List AV} (bV:cz S w (.slice A len cap) (.sl e row)) (he:e=z+1) (l m:Nat) (Ve:l≤m) (hm:m≤len) :
  cz S w (.slice (if cap=l then A else A.map (·.add (l*(z+1)))) (m-l) (cap-l)) (.sl e ((row.drop (l*e)).take ((m-l)*e))):=by
 cases bV with
 | sl _ _ _ _ us _ hl hn hc hx ha h =>
  have hle:(m-l)*e≤row.length-l*e:=by
   rw [hn,Nat.sub_mul,Nat.mul_comm e len]
   have:=Nat.mul_le_mul_right e hm
   omega
  have hlen:((row.drop (l*e)).take ((m-l)*e)).length=(m-l)*e:=by rw [List.length_take,List.length_drop];omega
  refine .sl _ _ _ _ ((us.drop (l*e)).take ((m-l)*e)) _ (by rw [hlen,List.length_take,List.length_drop];omega) (by rw [hlen,Nat.mul_comm]) ag ag (fun h0=>?_) (fun j u x hu hx=>h (l*e+j) u x (bP _ _ _ _ _ hu) (bP _ _ _ _ _ hx))
  rw [hlen] at h0
  have cU:cap≠l:=by
   intro e'
   have:m-l=0:=ag
   rw [this,Nat.zero_mul] at h0;omega
  have HX:0<row.length:=ag
  obtain ⟨ad,rfl,hS,bt⟩:=ha HX
  rw [if_neg cU]
  refine ⟨ad.add (l*(z+1)),rfl,by rw [hU];exact hS,fun j u hu=>?_⟩
  rw [nh,←he]
  exact bt _ u (bP _ _ _ _ _ hu)
theorem mS {m len e q:Nat} (h:cV m e≤q) (hq:q=e*len) (he:0<e):m≤len:=by
 rw [bu,hq,Nat.mul_comm] at h
 exact Nat.le_of_mul_le_mul_left h he
theorem tV {m z:Nat} (h:m*(z+1)≤0):m=0:=by
 rcases Nat.eq_zero_or_pos m with h5|h5
 ·exact h5
 ·have:=Nat.mul_pos h5 (ag:0<z+1);omega
theorem D9 {t:TypeId} {x:Operand} {lo hi mx:Option Operand} {c:Cut} (ho:o.op= .slice t x lo hi mx) (hc:wF s lo hi mx=some c) (hr:z_ P s t (bq s x) c h=some r):dd P s o r.1 r.2:=by
 unfold z_ at hr
 split at hr
 ·rename_i hu
  split at hr
  ·rename_i b he
   injection hr with hr;subst hr
   intro hC S0 w0 n O a w φ hs
   have ex:a.eval x= .string b:=bF (he ▸ hs.bq x)
   refine ⟨_,jG hs ho hc hu ex ⟨rfl,rfl⟩,?_⟩
   have:b.extract 0 b.size=b:=by simp
   rw [this];exact .rep (.val _)
  ·rename_i b n he
   injection hr with hr;subst hr
   refine gR ?_
   intro hC S0 w0 n' O a w φ hs
   have ex:a.eval x= .string b:=bF (he ▸ hs.bq x)
   exact ⟨_,jG hs ho hc hu ex ⟨rfl,hC.1,hC.2.1⟩,.rep (.val _)⟩
  ·rename_i b n he
   injection hr with hr;subst hr
   refine gR ?_
   intro hC S0 w0 n' O a w φ hs
   have ex:a.eval x= .string b:=bF (he ▸ hs.bq x)
   exact ⟨_,jG hs ho hc hu ex ⟨hC.1,hC.2.1,rfl⟩,.rep (.val _)⟩
  ·rename_i b n n2 he
   injection hr with hr;subst hr
   refine gR ?_
   intro hC S0 w0 n' O a w φ hs
   have ex:a.eval x= .string b:=bF (he ▸ hs.bq x)
   exact ⟨_,jG hs ho hc hu ex ⟨hC.1,hC.2.1,hC.2.2.1,hC.2.2.2.1⟩,.rep (.val _)⟩
  ·cases hr
 ·rename_i el hu
  split at hr
  ·rename_i z dB
   have sl:∀(e:Nat) (row:List AV) (X:AV) (C:List Prop),bq s x= .sl e row->e=z+1->(bw C-> ∃l m,(∀len cap,row.length=e*len->len≤cap->Bounds c len cap l m∧m≤len)∧l≤m∧X= .sl e ((row.drop (l*e)).take ((m-l)*e))∨(c= .all∧X= .sl e row))->dd P s o X C:=by
    intro e row X C he vP hX hC S0 w0 n O a w φ hs
    have hx:=hs.bq x
    rw [he] at hx
    have bV:=p7 hx
    cases ji:a.eval x with
    | slice A len cap =>
     rw [ji] at bV
     have BW:=bV
     cases BW with
     | sl _ _ _ _ us _ hl hn ly Le ha h' =>
      obtain ⟨l,m,h1⟩:=hX hC
      rcases h1 with ⟨hb,Ve,rfl⟩|⟨rfl,rfl⟩
      ·obtain ⟨hb,hm⟩:=hb len cap hn ly
       exact ⟨_,bR hs ho hc hu dB ji hb ly,.rep (Bj bV vP l m Ve hm)⟩
      ·refine ⟨_,bR hs ho hc hu dB ji (l:=0) (m:=len) ⟨rfl,rfl⟩ ly,?_⟩
       have:(if cap=0 then A else A.map (·.add (0*(z+1))))=A:=by
        split
        ·rfl
        ·cases A<;>simp [dE]
       rw [this];exact .rep bV
    | _=>rw [ji] at bV;cases bV
   split at hr
   ·rename_i e row he
    injection hr with hr;subst hr
    refine gR ?_
    intro hC S0 w0 n O a w φ hs
    have hx:=hs.bq x
    rw [he] at hx
    have bV:=p7 hx
    cases ji:a.eval x with
    | slice A len cap =>
     rw [ji] at bV
     have BW:=bV
     cases BW with
     | sl _ _ _ _ us _ hl hn ly Le ha h' =>
      refine ⟨_,bR hs ho hc hu dB ji (l:=0) (m:=len) ⟨rfl,rfl⟩ ly,?_⟩
      have:(if cap=0 then A else A.map (·.add (0*(z+1))))=A:=by
       split
       ·rfl
       ·cases A<;>simp [dE]
      rw [this];exact .rep bV
    | _=>rw [ji] at bV;cases bV
   ·rename_i e row n he
    split at hr
    ·rename_i hb
     have vP:e=z+1:=Nat.eq_of_beq_eq_true hb
     injection hr with hr;subst hr
     refine gR (sl e row _ _ he vP fun hC=>⟨0,h.m,.inl ⟨fun len cap hn O7=>?_,Nat.zero_le _,by simp [bu]⟩⟩)
     have:=mS hC.2.1 hn ag
     exact ⟨⟨rfl,hC.1,ag⟩,this⟩
    ·cases hr
   ·rename_i e row n he
    split at hr
    ·rename_i hb
     have vP:e=z+1:=Nat.eq_of_beq_eq_true hb
     injection hr with hr;subst hr
     refine gR ?_
     intro hC S0 w0 n' O a w φ hs
     have hx:=hs.bq x
     rw [he] at hx
     have bV:=p7 hx
     cases ji:a.eval x with
     | slice A len cap =>
      rw [ji] at bV
      have BW:=bV
      cases BW with
      | sl _ _ _ _ us _ hl hn ly Le ha h' =>
       have hk:=mS hC.2.1 hn ag
       refine ⟨_,bR hs ho hc hu dB ji (l:=h.k) (m:=len) ⟨hC.1,hk,rfl⟩ ly,?_⟩
       have:=Bj bV vP h.k len hk (Nat.le_refl _)
       have e2:(row.drop (h.k*e)).take ((len-h.k)*e)=row.drop (cV h.k e):=by
        rw [bu,List.take_of_length_le]
        rw [List.length_drop,hn,Nat.sub_mul,Nat.mul_comm e len]
        exact Nat.le_refl _
       rw [e2] at this
       exact .rep this
     | _=>rw [ji] at bV;cases bV
    ·cases hr
   ·rename_i e row n n2 he
    split at hr
    ·rename_i hb
     have vP:e=z+1:=Nat.eq_of_beq_eq_true hb
     injection hr with hr;subst hr
     refine gR (sl e row _ _ he vP fun hC=>⟨h.k,h.m,.inl ⟨fun len cap hn O7=>?_,hC.2.2.1,by simp [bu]⟩⟩)
     have:=mS hC.2.2.2.1 hn ag
     exact ⟨⟨hC.1,hC.2.1,hC.2.2.1,ag⟩,this⟩
    ·cases hr
   ·rename_i id he
    injection hr with hr;subst hr
    intro hC S0 w0 n O a w φ hs
    have hx:=hs.bq x
    rw [he] at hx
    generalize hV:a.eval x=V at hx
    cases hx with
    | rep h=>cases h
    | ref _ e m g l c' hi hm ly hx bT =>
     refine ⟨_,bR hs ho hc hu dB hV (l:=0) (m:=l) ⟨rfl,rfl⟩ ly,?_⟩
     have:(if c'=0 then (some ⟨g,0,none⟩:Option Addr) else (some ⟨g,0,none⟩:Option Addr).map (·.add (0*(z+1))))=some ⟨g,0,none⟩:=by simp [dE]
     rw [this]
     exact .ref id e m g l c' hi hm ly hx bT
    | cB _ e hi =>
     refine ⟨_,bR hs ho hc hu dB hV (l:=0) (m:=0) ⟨rfl,rfl⟩ (Nat.le_refl _),?_⟩
     simp only [if_true]
     exact .cB id e hi
   ·rename_i id n he
    split at hr
    ·rename_i q hq
     split at hr
     ·rename_i hb
      have vP:q.e=z+1:=Nat.eq_of_beq_eq_true hb
      injection hr with hr;subst hr
      intro hC S0 w0 n' O a w φ hs
      have hx:=hs.bq x
      rw [he] at hx
      generalize hV:a.eval x=V at hx
      cases hx with
      | rep h=>cases h
      | ref _ e m g l c' hi hm ly hx bT =>
       obtain ⟨q',hY,h1,h2,h3⟩:=aT hi
       rw [hq] at hY;injection hY with hY;subst hY
       subst h1
       have hk:=mS hC.2.1 (by rw [h2];exact hm) ag
       refine ⟨_,bR hs ho hc hu dB hV (l:=0) (m:=h.m) ⟨rfl,hC.1,ag⟩ ly,?_⟩
       have:(if c'=0 then (some ⟨g,0,none⟩:Option Addr) else (some ⟨g,0,none⟩:Option Addr).map (·.add (0*(z+1))))=some ⟨g,0,none⟩:=by simp [dE]
       rw [this]
       exact .pre id _ q.e m g h.m c' hi (by rw [bu,Nat.mul_comm]) (by rw [←h2];exact hC.2.1) ag hx bT
      | cB _ e hi =>
       obtain ⟨q',hY,h1,h2,h3⟩:=aT hi
       rw [hq] at hY;injection hY with hY;subst hY
       have hk:h.m=0:=by
        have h4:=hC.2.1
        rw [bu,h2,vP] at h4
        exact tV h4
       refine ⟨_,bR hs ho hc hu dB hV (l:=0) (m:=h.m) ⟨rfl,hC.1,ag⟩ (Nat.le_refl _),?_⟩
       rw [hk]
       simp only [if_true]
       have e0:cV 0 q.e=0:=by rw [bu];simp
       rw [e0]
       exact .dH id e hi
     ·cases hr
    ·cases hr
   ·rename_i id n he
    split at hr
    ·rename_i q hq
     split at hr
     ·rename_i hb
      have vP:q.e=z+1:=Nat.eq_of_beq_eq_true hb
      injection hr with hr;subst hr
      intro hC S0 w0 n' O a w φ hs
      have hx:=hs.bq x
      rw [he] at hx
      generalize hV:a.eval x=V at hx
      cases hx with
      | rep h=>cases h
      | ref _ e m g l c' hi hm ly hx bT =>
       obtain ⟨q',hY,h1,h2,h3⟩:=aT hi
       rw [hq] at hY;injection hY with hY;subst hY
       subst h1
       have hk:=mS hC.2.1 (by rw [h2];exact hm) ag
       have hle:=hC.2.1
       rw [bu] at hle
       refine ⟨_,bR hs ho hc hu dB hV (l:=h.k) (m:=l) ⟨hC.1,hk,rfl⟩ ly,?_⟩
       rw [bu]
       refine .jE id _ _ q.e m (l-h.k) (c'-h.k) (some g) _ hi (by rw [h2,hm,Nat.mul_sub,Nat.mul_comm h.k]) ag ag ag (fun h0=>⟨g,rfl,?_⟩)
       have cU:c'≠h.k:=by
        intro e'
        have:l=h.k:=ag
        rw [h2,hm,this,Nat.mul_comm,Nat.sub_self] at h0;omega
       rw [if_neg cU]
       simp [fy,vP]
      | cB _ e hi =>
       obtain ⟨q',hY,h1,h2,h3⟩:=aT hi
       rw [hq] at hY;injection hY with hY;subst hY
       have hk:h.k=0:=by
        have h4:=hC.2.1
        rw [bu,h2,vP] at h4
        exact tV h4
       refine ⟨_,bR hs ho hc hu dB hV (l:=0) (m:=0) ⟨by rw [hC.1,hk],Nat.le_refl _,rfl⟩ (Nat.le_refl _),?_⟩
       rw [hk,h2]
       have e0:cV 0 q.e=0:=by rw [bu];simp
       rw [e0]
       simp only [if_true]
       exact .jE id 0 _ e 0 0 0 none none hi (by simp) (by simp) (by simp) (by simp) (fun h=>by simp at h)
     ·cases hr
    ·cases hr
   ·rename_i id n n2 he
    split at hr
    ·rename_i q hq
     split at hr
     ·rename_i hb
      have vP:q.e=z+1:=Nat.eq_of_beq_eq_true hb
      injection hr with hr;subst hr
      intro hC S0 w0 n' O a w φ hs
      have hx:=hs.bq x
      rw [he] at hx
      obtain ⟨iX,F6,H3,Qg,-⟩:=hC
      generalize hV:a.eval x=V at hx
      cases hx with
      | rep h=>cases h
      | ref _ e m g l c' hi hm ly hx bT =>
       obtain ⟨q',hY,h1,h2,h3⟩:=aT hi
       rw [hq] at hY;injection hY with hY;subst hY
       subst h1
       have hk:=mS Qg (by rw [h2];exact hm) ag
       rw [bu] at Qg
       refine ⟨_,bR hs ho hc hu dB hV (l:=h.k) (m:=h.m) ⟨iX,F6,H3,ag⟩ ly,?_⟩
       rw [bu,bu]
       have hmul:h.k*q.e≤h.m*q.e:=Nat.mul_le_mul_right _ H3
       refine .jE id _ _ q.e m (h.m-h.k) (c'-h.k) (some g) _ hi (by rw [Nat.mul_comm]) (by rw [Nat.sub_mul];omega) ag ag (fun h0=>⟨g,rfl,?_⟩)
       have cU:c'≠h.k:=by
        intro e'
        have:h.m-h.k=0:=ag
        rw [this,Nat.zero_mul] at h0;omega
       rw [if_neg cU]
       simp [fy,vP]
      | cB _ e hi =>
       obtain ⟨q',hY,h1,h2,h3⟩:=aT hi
       rw [hq] at hY;injection hY with hY;subst hY
       have hk:h.m=0:=by
        rw [bu,h2,vP] at Qg
        exact tV Qg
       have zy:h.k=0:=ag
       refine ⟨_,bR hs ho hc hu dB hV (l:=0) (m:=0) ⟨by rw [iX,zy],by rw [F6,hk],Nat.le_refl _,Nat.le_refl _⟩ (Nat.le_refl _),?_⟩
       rw [zy,hk]
       have e0:cV 0 q.e=0:=by rw [bu];simp
       simp only [Nat.sub_self,e0,if_true]
       exact .jE id 0 0 e 0 0 0 none none hi (by simp) (by simp) (by simp) (by simp) (fun h=>by simp at h)
     ·cases hr
    ·cases hr
   ·rename_i id l' he
    injection hr with hr;subst hr
    intro hC S0 w0 n O a w φ hs
    have hx:=hs.bq x
    rw [he] at hx
    generalize hV:a.eval x=V at hx
    cases hx with
    | rep h=>cases h
    | pre _ _ e m g l c' hi tJ hm ly hx bT =>
     refine ⟨_,bR hs ho hc hu dB hV (l:=0) (m:=l) ⟨rfl,rfl⟩ ly,?_⟩
     have:(if c'=0 then (some ⟨g,0,none⟩:Option Addr) else (some ⟨g,0,none⟩:Option Addr).map (·.add (0*(z+1))))=some ⟨g,0,none⟩:=by simp [dE]
     rw [this]
     exact .pre id _ e m g l c' hi tJ hm ly hx bT
    | dH _ e hi =>
     refine ⟨_,bR hs ho hc hu dB hV (l:=0) (m:=0) ⟨rfl,rfl⟩ (Nat.le_refl _),?_⟩
     simp only [if_true]
     exact .dH id e hi
   ·rename_i id l' n he
    split at hr
    ·rename_i q hq
     split at hr
     ·rename_i hb
      have vP:q.e=z+1:=Nat.eq_of_beq_eq_true hb
      injection hr with hr;subst hr
      intro hC S0 w0 n' O a w φ hs
      have hx:=hs.bq x
      rw [he] at hx
      generalize hV:a.eval x=V at hx
      cases hx with
      | rep h=>cases h
      | pre _ _ e m g l c' hi tJ hm ly hx bT =>
       obtain ⟨q',hY,h1,h2,h3⟩:=aT hi
       rw [hq] at hY;injection hY with hY;subst hY
       subst h1
       have hk:=mS hC.2.1 tJ ag
       refine ⟨_,bR hs ho hc hu dB hV (l:=0) (m:=h.m) ⟨rfl,hC.1,ag⟩ ly,?_⟩
       have:(if c'=0 then (some ⟨g,0,none⟩:Option Addr) else (some ⟨g,0,none⟩:Option Addr).map (·.add (0*(z+1))))=some ⟨g,0,none⟩:=by simp [dE]
       rw [this]
       exact .pre id _ q.e m g h.m c' hi (by rw [bu,Nat.mul_comm]) (by have:=hC.2.1;omega) ag hx bT
      | dH _ e hi =>
       have hk:h.m=0:=by
        have h4:=hC.2.1
        rw [bu,vP] at h4
        exact tV h4
       refine ⟨_,bR hs ho hc hu dB hV (l:=0) (m:=h.m) ⟨rfl,hC.1,ag⟩ (Nat.le_refl _),?_⟩
       rw [hk]
       simp only [if_true]
       have e0:cV 0 q.e=0:=by rw [bu];simp
       rw [e0]
       exact .dH id e hi
     ·cases hr
    ·cases hr
   ·cases hr
  ·cases hr
 ·rename_i len el hu
  split at hr
  ·rename_i z dB
   have arr:∀(id:Nat) (q:Row),bq s x= .addr id 0->look s.H id=some q->q.full=true-> ∀S0 w0 n O a w φ,aJ S0 w0 n O s a w φ-> ∃g,a.eval x= .pointer (some ⟨g,0,none⟩)∧az s.H φ id=some (q.e,q.cells.length,some g)∧aY w g=q.cells.length:=by
    intro id q he hq hf S0 w0 n O a w φ hs
    have hx:=hs.bq x
    rw [he] at hx
    obtain ⟨e,m,g,hi,hv⟩:=j6 hx
    obtain ⟨q',hY,h1,h2,h3⟩:=aT hi
    rw [hq] at hY;injection hY with hY;subst hY
    refine ⟨g,hv,by rw [br hq,h3],?_⟩
    have aS:=hs.rows id q hq
    unfold bK at aS
    rw [h3] at aS
    obtain ⟨cur,te,fr,hg,-,-,nn,-⟩:=aS
    unfold aY;rw [hg]
    exact nn hf
   split at hr
   ·rename_i id he
    split at hr
    ·rename_i q hq
     split at hr
     ·rename_i hb hf
      have vP:q.e=z+1:=Nat.eq_of_beq_eq_true hb
      injection hr with hr;subst hr
      intro hC S0 w0 n O a w φ hs
      obtain ⟨g,hv,hi,gC⟩:=arr id q he hq hf S0 w0 n O a w φ hs
      obtain ⟨iX,F6,-⟩:=hC
      rw [bu] at iX
      refine ⟨_,jH hs ho hc hu dB hv (l:=0) (m:=len) ⟨rfl,rfl⟩,?_⟩
      have:(if len=0 then (⟨g,0,none⟩:Addr) else (⟨g,0,none⟩:Addr).add (0*(z+1)))=⟨g,0,none⟩:=by simp [dE]
      rw [this]
      exact .ref id q.e _ g len len hi (by rw [iX,Nat.mul_comm]) (Nat.le_refl _) F6 (by rw [gC,iX,Nat.mul_comm])
     ·cases hr
    ·cases hr
   ·rename_i id n he
    split at hr
    ·rename_i q hq
     split at hr
     ·rename_i hb hf
      have vP:q.e=z+1:=Nat.eq_of_beq_eq_true hb
      injection hr with hr;subst hr
      intro hC S0 w0 n' O a w φ hs
      obtain ⟨g,hv,hi,gC⟩:=arr id q he hq hf S0 w0 n' O a w φ hs
      obtain ⟨RH,H3,iX,F6,-⟩:=hC
      rw [bu] at iX
      refine ⟨_,jH hs ho hc hu dB hv (l:=0) (m:=h.m) ⟨rfl,RH,H3⟩,?_⟩
      have:(if len=0 then (⟨g,0,none⟩:Addr) else (⟨g,0,none⟩:Addr).add (0*(z+1)))=⟨g,0,none⟩:=by simp [dE]
      rw [this,bu]
      exact .pre id _ q.e _ g h.m len hi (by rw [Nat.mul_comm]) (by rw [iX];exact Nat.mul_le_mul_right _ H3) H3 F6 (by rw [gC,iX,Nat.mul_comm])
     ·cases hr
    ·cases hr
   ·rename_i id n he
    split at hr
    ·rename_i q hq
     split at hr
     ·rename_i hb hf
      have vP:q.e=z+1:=Nat.eq_of_beq_eq_true hb
      injection hr with hr;subst hr
      intro hC S0 w0 n' O a w φ hs
      obtain ⟨g,hv,hi,gC⟩:=arr id q he hq hf S0 w0 n' O a w φ hs
      obtain ⟨RH,H3,iX,F6,-⟩:=hC
      rw [bu] at iX
      refine ⟨_,jH hs ho hc hu dB hv (l:=h.k) (m:=len) ⟨RH,H3,rfl⟩,?_⟩
      rw [bu,bu]
      have hmul:h.k*q.e≤len*q.e:=Nat.mul_le_mul_right _ H3
      refine .jE id _ _ q.e _ (len-h.k) (len-h.k) (some g) _ hi (by rw [Nat.mul_comm]) (by rw [Nat.sub_mul,iX];omega) ag ag (fun h0=>⟨g,rfl,?_⟩)
      have cU:len≠h.k:=by
       intro e'
       have:len-h.k=0:=ag
       rw [this,Nat.zero_mul] at h0;omega
      rw [if_neg cU]
      simp [fy,vP]
     ·cases hr
    ·cases hr
   ·rename_i id n n2 he
    split at hr
    ·rename_i q hq
     split at hr
     ·rename_i hb hf
      have vP:q.e=z+1:=Nat.eq_of_beq_eq_true hb
      injection hr with hr;subst hr
      intro hC S0 w0 n' O a w φ hs
      obtain ⟨g,hv,hi,gC⟩:=arr id q he hq hf S0 w0 n' O a w φ hs
      obtain ⟨RH,Qg,Vw,H3,iX,F6,-⟩:=hC
      rw [bu] at iX
      refine ⟨_,jH hs ho hc hu dB hv (l:=h.k) (m:=h.m) ⟨RH,Qg,Vw,H3⟩,?_⟩
      rw [bu,bu]
      have hmul:h.k*q.e≤h.m*q.e:=Nat.mul_le_mul_right _ Vw
      have Vb:h.m*q.e≤len*q.e:=Nat.mul_le_mul_right _ H3
      refine .jE id _ _ q.e _ (h.m-h.k) (len-h.k) (some g) _ hi (by rw [Nat.mul_comm]) (by rw [Nat.sub_mul,iX];omega) ag ag (fun h0=>⟨g,rfl,?_⟩)
      have cU:len≠h.k:=by
       intro e'
       have:h.m-h.k=0:=ag
       rw [this,Nat.zero_mul] at h0;omega
      rw [if_neg cU]
      simp [fy,vP]
     ·cases hr
    ·cases hr
   ·cases hr
  ·cases hr
 ·cases hr
end
section
variable {P:Program} {s:AS} {o:Oper} {h:Hint} {r:AV×List Prop}
def sw (P:Program) (t:TypeId) (cs:List AV) (off:Nat) (h:Hint):Option (AV×List Prop) :=
 match eH P t,P.underlying t with
 | some sz,some d =>
  (match d with
  | .struct _| .array _ _=>(match Nat.beq ((cs.drop off).take sz).length sz with|true=>some (.agg ((cs.drop off).take sz),[])|false=>none)
  | _=>(match h.av with
   | some y=>some (y,[cs[off]?=some y])
   | none=>(match cs[off]? with|some y=>some (y,[])|none=>none)))
 | _,_=>none
theorem yh {I:Info} {S:Nat->Prop} {w:World} {t:TypeId} {cs:List AV} {off:Nat} (hr:sw P t cs off h=some r) (hC:bw r.2) (vs:List Value) (hl:vs.length=cs.length) (hd:∀(j:Nat) v c,vs[j]?=some v->cs[j]?=some c->Den I S w v c) :
  ∃v,(part t vs.toArray off).run P w= .ok v w∧Den I S w v r.1:=by
 unfold sw at hr
 split at hr
 ·rename_i sz d dB hu
  have hz:(sizeOf t).run P w= .ok sz w:=run_sizeOf dB
  have agg:cD P t=true->Nat.beq ((cs.drop off).take sz).length sz=true->r=(.agg ((cs.drop off).take sz),[])-> ∃v,(part t vs.toArray off).run P w= .ok v w∧Den I S w v r.1:=by
   intro ha hb hr
   subst hr
   have hlen:=Nat.eq_of_beq_eq_true hb
   rw [List.length_take,List.length_drop] at hlen
   refine ⟨.agg (vs.toArray.extract off (off+sz)),?_,?_⟩
   ·simp [part,iL ⟨d,hu⟩,ha,hz]
   ·have e:vs.toArray.extract off (off+sz)=((vs.drop off).take sz).toArray:=by
     simp [List.extract_eq_take_drop]
    rw [e]
    exact .agg _ _ (by rw [List.length_take,List.length_drop,List.length_take,List.length_drop];omega) fun j v c hv hc=>hd (off+j) v c (bP _ _ _ _ _ hv) (bP _ _ _ _ _ hc)
  have one:∀y,cD P t=false->cs[off]?=some y-> ∃v,(part t vs.toArray off).run P w= .ok v w∧Den I S w v y:=by
   intro y ha hy
   have cZ:off<vs.length:=by have:=(List.getElem?_eq_some_iff.1 hy).1;omega
   have hv:vs[off]?=some vs[off]:=List.getElem?_eq_getElem cZ
   refine ⟨vs[off],?_,hd off _ y hv hy⟩
   simp [part,iL ⟨d,hu⟩,ha,cZ]
  split at hr
  ·have ha:cD P t=true:=by unfold cD;rw [hu]
   split at hr
   ·rename_i hb;injection hr with hr;exact agg ha hb hr.symm
   ·cases hr
  ·have ha:cD P t=true:=by unfold cD;rw [hu]
   split at hr
   ·rename_i hb;injection hr with hr;exact agg ha hb hr.symm
   ·cases hr
  ·rename_i P4 Rh
   have ha:cD P t=false:=by
    unfold cD;rw [hu]
    cases d<;>first|rfl|exact absurd rfl (P4 _)|exact absurd rfl (Rh _ _)
   split at hr
   ·injection hr with hr;subst hr
    exact one _ ha hC.1
   ·split at hr
    ·rename_i y hy
     injection hr with hr;subst hr
     exact one _ ha hy
    ·cases hr
 ·cases hr
def Ad (P:Program) (t:TypeId) (x:AV) (f:Nat) (h:Hint):Option (AV×List Prop) :=
 match P.underlying t,x with
 | some (.struct fields),.agg cs=>(match fields[f]? with|some fd=>sw P fd.type cs fd.offset h|none=>none)
 | _,_=>none
theorem Ef {t:TypeId} {x:Operand} {f:Nat} (ho:o.op= .field t x f) (hr:Ad P t (bq s x) f h=some r):dd P s o r.1 r.2:=by
 intro hC S0 w0 n O a w φ hs
 have hx:=hs.bq x
 unfold Ad at hr
 split at hr
 ·rename_i fields cs hu he
  split at hr
  ·rename_i fd hf
   rw [he] at hx
   obtain ⟨vs,hv,hl,hd⟩:=kA hx
   obtain ⟨v,h1,h2⟩:=yh hr hC vs hl hd
   refine ⟨v,?_,h2⟩
   unfold execOp
   simp [ho,Instr.field,run_underlying hu,hf,hv,asAgg,h1]
  ·cases hr
 ·cases hr
def sy (x:AV) (i:Nat):Option (AV×List Prop) :=
 match x with
 | .b_ cs=>(match cs[i]? with|some y=>some (y,[])|none=>none)
 | _=>none
theorem Ae {x:Operand} {i:Nat} (ho:o.op= .extract x i) (hr:sy (bq s x) i=some r):dd P s o r.1 r.2:=by
 intro hC S0 w0 n O a w φ hs
 have hx:=hs.bq x
 unfold sy at hr
 split at hr
 ·rename_i cs he
  split at hr
  ·rename_i y hy
   injection hr with hr;subst hr
   rw [he] at hx
   obtain ⟨vs,hv,hl,hd⟩:=Au hx
   have cZ:i<vs.length:=by have:=(List.getElem?_eq_some_iff.1 hy).1;omega
   have Tf:vs[i]?=some vs[i]:=List.getElem?_eq_getElem cZ
   refine ⟨vs[i],?_,hd i _ y Tf hy⟩
   unfold execOp
   simp [ho,Instr.extract,hv,cZ]
  ·cases hr
 ·cases hr
def Ab (P:Program) (t:TypeId) (x:AV) (n:Int) (h:Hint):Option (AV×List Prop) :=
 match P.underlying t,x with
 | some (.array len el),.agg cs=>(match eH P el with|some z=>(match sw P el cs (cV h.k z) h with|some r=>some (r.1,(n=(h.k:Int))::(h.k<len)::r.2)|none=>none)|none=>none)
 | some (.array len el),.arr cs=>(match eH P el with|some z=>(match sw P el cs (cV h.k z) h with|some r=>some (r.1,(n=(h.k:Int))::(h.k<len)::r.2)|none=>none)|none=>none)
 | some .string,.val (.string b)=>some (fin h (.val (.int .u8 (bv (b.data.toList.getD h.k 0))),[n=(h.k:Int),h.k<b.size]))
 | _,_=>none
theorem q_ {I:Info} {S:Nat->Prop} {w:World} {v:Value} {cs:List AV} (h:Den I S w v (.arr cs)):∃vs:List Value,v= .agg vs.toArray∧vs.length=cs.length∧ ∀(j:Nat) v c,vs[j]?=some v->cs[j]?=some c->cz S w v c:=by
 cases h with
 | rep h=>cases h with|arr vs _ hl h=>exact ⟨vs,rfl,hl,h⟩
theorem Ed {t:TypeId} {x i:Operand} {k:IntKind} {n:Int} (ho:o.op= .index t x i) (hi:bq s i= .val (.int k n)) (hr:Ab P t (bq s x) n h=some r):dd P s o r.1 r.2:=by
 unfold Ab at hr
 have arr:∀(len:Nat) (el:TypeId) (z:Nat) (q:AV×List Prop) (cs:List AV),P.underlying t=some (.array len el)->eH P el=some z->sw P el cs (cV h.k z) h=some q->r=(q.1,(n=(h.k:Int))::(h.k<len)::q.2) ->
   (∀S0 w0 n O a w φ,aJ S0 w0 n O s a w φ-> ∃vs:List Value,a.eval x= .agg vs.toArray∧vs.length=cs.length∧ ∀(j:Nat) v c,vs[j]?=some v->cs[j]?=some c->Den (az s.H φ) (aO S0 w φ O) w v c)->dd P s o r.1 r.2:=by
  intro len el z q cs hu hz hq hr hX
  subst hr
  intro hC S0 w0 n' O a w φ hs
  obtain ⟨h1,h2,hC⟩:=hC
  have ei:a.eval i= .int k n:=bF (hi ▸ hs.bq i)
  obtain ⟨vs,hv,hl,hd⟩:=hX S0 w0 n' O a w φ hs
  obtain ⟨v,h3,h4⟩:=yh hq hC vs hl hd
  refine ⟨v,?_,h4⟩
  have lH:0≤n∧n<(len:Int):=ag
  have hk:n.toNat=h.k:=ag
  have BS:(sizeOf el).run P w= .ok z w:=run_sizeOf hz
  rw [bu] at h3
  unfold execOp
  simp [ho,Instr.index,run_underlying hu,hv,asIntOf,ei,lH,hk,BS,h3]
 split at hr
 ·rename_i len el cs hu he
  split at hr
  ·rename_i z hz
   split at hr
   ·rename_i q hq
    injection hr with hr
    refine arr len el z q cs hu hz hq hr.symm fun S0 w0 n O a w φ hs=>?_
    have hx:=hs.bq x
    rw [he] at hx
    exact kA hx
   ·cases hr
  ·cases hr
 ·rename_i len el cs hu he
  split at hr
  ·rename_i z hz
   split at hr
   ·rename_i q hq
    injection hr with hr
    refine arr len el z q cs hu hz hq hr.symm fun S0 w0 n O a w φ hs=>?_
    have hx:=hs.bq x
    rw [he] at hx
    obtain ⟨vs,h1,h2,h3⟩:=q_ hx
    exact ⟨vs,h1,h2,fun j v c hv hc=>.rep (h3 j v c hv hc)⟩
   ·cases hr
  ·cases hr
 ·rename_i b hu he
  injection hr with hr;subst hr
  refine gR ?_
  intro hC S0 w0 n' O a w φ hs
  obtain ⟨h1,h2,-⟩:=hC
  have ei:a.eval i= .int k n:=bF (hi ▸ hs.bq i)
  have ex:a.eval x= .string b:=bF (he ▸ hs.bq x)
  refine ⟨_,?_,.rep (.val _)⟩
  have h0:0≤n:=ag
  have hk:n.toNat=h.k:=ag
  unfold execOp
  simp [ho,Instr.index,run_underlying hu,ex,asIntOf,ei,h0,hk,h2]
  rfl
 ·cases hr
def Kp (x:AV):Option (AV×List Prop) :=
 match x with
 | .ptr row off=>some (.ptr row off,[])
 | .addr id off=>some (.addr id off,[])
 | .val (.func (.func f) l c)=>some (.val (.func (.func f) l c),[])
 | _=>none
theorem Ko {x:Operand} (ho:o.op= .nilCheck x) (hr:Kp (bq s x)=some r):dd P s o r.1 r.2:=by
 intro hC S0 w0 n O a w φ hs
 have hx:=hs.bq x
 unfold Kp at hr
 split at hr
 ·rename_i row off he
  injection hr with hr;subst hr
  rw [he] at hx
  obtain ⟨ad,us,hv,-⟩:=uk hx
  refine ⟨a.eval x,?_,hx⟩
  unfold execOp
  simp [ho,hv]
 ·rename_i id off he
  injection hr with hr;subst hr
  rw [he] at hx
  obtain ⟨e,m,g,-,hv⟩:=j6 hx
  refine ⟨a.eval x,?_,hx⟩
  unfold execOp
  simp [ho,hv]
 ·rename_i f l c he
  injection hr with hr;subst hr
  rw [he] at hx
  have hv:=bF hx
  refine ⟨a.eval x,?_,hx⟩
  unfold execOp
  simp [ho,hv]
 ·cases hr
def D_ (s:AS) (c x y:Operand) (h:Hint):Option (AV×List Prop) :=
 match bq s c with
 | .val (.bool b)=>(match h.b with|true=>some (bq s x,[b=true])|false=>some (bq s y,[b=false]))
 | _=>none
theorem Hq {c x y:Operand} {h:Hint} (ho:o.op= .pick c x y) (hr:D_ s c x y h=some r):dd P s o r.1 r.2:=by
 intro hC S0 w0 n O a w φ hs
 unfold D_ at hr
 split at hr
 ·rename_i b he
  split at hr
  ·cases hr
   have ec:a.eval c= .bool true:=by
    have h1:a.eval c= .bool b:=bF (he ▸ hs.bq c)
    rw [h1,show b=true from hC.1]
   refine ⟨a.eval x,?_,hs.bq x⟩
   unfold execOp
   simp [ho,ec,asBool]
  ·cases hr
   have ec:a.eval c= .bool false:=by
    have h1:a.eval c= .bool b:=bF (he ▸ hs.bq c)
    rw [h1,show b=false from hC.1]
   refine ⟨a.eval y,?_,hs.bq y⟩
   unfold execOp
   simp [ho,ec,asBool]
 ·cases hr
def Kt (P:Program) (s:AS) (ts:Array TypeId) (ty:TypeId) (x:AV) (h:Hint):Option (AV×List Prop) :=
 match x with
 | .val u=>(match kq P (Builtin.len_ ts ty #[u]) with|some z=>some (fin h (.val z,[]))|none=>none)
 | x=>(match ts[0]? with
  | some t=>(match P.underlying t with
   | some (.slice _)=>(match x with
    | .nil=>some (.val (.int .i64 0),[])
    | .sl (e+1) row=>some (.val (.int .i64 h.k),[row.length=cV h.k (e+1)])
    | .ref id=>(match look s.H id with|some ⟨e+1,_,_,cells⟩=>some (.val (.int .i64 h.k),[cells.length=cV h.k (e+1)])|_=>none)
    | .pre id l=>(match look s.H id with|some ⟨e+1,_,_,_⟩=>some (.val (.int .i64 h.k),[l=cV h.k (e+1)])|_=>none)
    | .jE id _ l=>(match look s.H id with|some ⟨e+1,_,_,_⟩=>some (.val (.int .i64 h.k),[l=cV h.k (e+1)])|_=>none)
    | _=>none)
   | some (.array n _)=>some (.val (.int .i64 n),[])
   | _=>none)
  | none=>none)
theorem r9 {q e l k:Nat} (h1:q=cV k (e+1)) (h2:q=(e+1)*l):l=k:=by
 rw [bu,h2,Nat.mul_comm k] at h1
 exact Nat.eq_of_mul_eq_mul_left ag h1
theorem Kq {x:Operand} {ts:Array TypeId} (ho:o.op= .call {callee:=.builtin .len,args:= #[x],argTypes:=ts}) (hr:Kt P s ts o.type (bq s x) h=some r):dd P s o r.1 r.2:=by
 unfold Kt at hr
 split at hr
 ·rename_i u he
  split at hr
  ·rename_i z hz
   injection hr with hr;subst hr
   refine gR ?_
   intro hC S0 w0 n O a w φ hs
   have ex:a.eval x=u:=bF (he ▸ hs.bq x)
   refine ⟨z,?_,.rep (.val _)⟩
   unfold execOp
   simp [ho,resolve,invoke,builtin,ex,gb w hz]
  ·cases hr
 ·split at hr
  ·rename_i t ht
   split at hr
   ·rename_i el hu
    have run:∀(a:Act) (w:World) (A:Option Addr) (l c:Nat),a.eval x= .slice A l c->(execOp a.eval o).run P w= .ok (.value (.int .i64 l)) w:=by
     intro a w A l c hv
     unfold execOp
     simp [ho,resolve,invoke,builtin,hv,Builtin.len_,ht,run_underlying hu,goInt]
    split at hr
    ·rename_i he
     injection hr with hr;subst hr
     intro hC S0 w0 n O a w φ hs
     have hx:=hs.bq x
     rw [he] at hx
     generalize hV:a.eval x=V at hx
     cases hx with|rep h=>cases h with|nil=>exact ⟨_,run a w _ _ _ hV,.rep (.val _)⟩
    ·rename_i e row he
     injection hr with hr;subst hr
     intro hC S0 w0 n O a w φ hs
     have hx:=hs.bq x
     rw [he] at hx
     have bV:=p7 hx
     generalize hV:a.eval x=V at bV
     cases bV with
     | sl A l c _ us _ hl hn hc hm ha h' =>
      have:=r9 hC.1 hn
      subst this
      exact ⟨_,run a w _ _ _ hV,.rep (.val _)⟩
    ·rename_i id he
     split at hr
     ·rename_i e pu fu cells hq
      injection hr with hr;subst hr
      intro hC S0 w0 n O a w φ hs
      have hx:=hs.bq x
      rw [he] at hx
      generalize hV:a.eval x=V at hx
      cases hx with
      | rep h=>cases h
      | ref _ e m g l c hi hm hc hx bT =>
       rw [br hq] at hi
       injection hi with hi;injection hi with h1 hi;injection hi with h2 h3
       have:=r9 hC.1 (by rw [show cells.length=m from h2,hm,←h1])
       subst this
       exact ⟨_,run a w _ _ _ hV,.rep (.val _)⟩
      | cB _ e hi =>
       rw [br hq] at hi
       injection hi with hi;injection hi with h1 hi;injection hi with h2 h3
       have:=r9 (l:=0) hC.1 (by rw [show cells.length=0 from h2];simp)
       rw [←this]
       exact ⟨_,run a w _ _ _ hV,.rep (.val _)⟩
     ·cases hr
    ·rename_i id l' he
     split at hr
     ·rename_i e pu fu cells hq
      injection hr with hr;subst hr
      intro hC S0 w0 n O a w φ hs
      have hx:=hs.bq x
      rw [he] at hx
      generalize hV:a.eval x=V at hx
      cases hx with
      | rep h=>cases h
      | pre _ _ e m g l c hi hn hm hc hx bT =>
       rw [br hq] at hi
       injection hi with hi;injection hi with h1 hi;injection hi with h2 h3
       have:=r9 hC.1 (by rw [hn,←h1])
       subst this
       exact ⟨_,run a w _ _ _ hV,.rep (.val _)⟩
      | dH _ e hi =>
       have:=r9 (l:=0) hC.1 (by simp)
       rw [←this]
       exact ⟨_,run a w _ _ _ hV,.rep (.val _)⟩
     ·cases hr
    ·rename_i id off l' he
     split at hr
     ·rename_i e pu fu cells hq
      injection hr with hr;subst hr
      intro hC S0 w0 n O a w φ hs
      have hx:=hs.bq x
      rw [he] at hx
      generalize hV:a.eval x=V at hx
      cases hx with
      | rep h=>cases h
      | jE _ _ _ e m l c g A hi hn hm hc hx ha =>
       rw [br hq] at hi
       injection hi with hi;injection hi with h1 hi;injection hi with h2 h3
       have:=r9 hC.1 (by rw [hn,←h1])
       subst this
       exact ⟨_,run a w _ _ _ hV,.rep (.val _)⟩
     ·cases hr
    ·cases hr
   ·rename_i n' el hu
    injection hr with hr;subst hr
    intro hC S0 w0 n O a w φ hs
    refine ⟨.int .i64 n',?_,.rep (.val _)⟩
    unfold execOp
    simp [ho,resolve,invoke,builtin,Builtin.len_,ht,run_underlying hu,goInt]
   ·cases hr
  ·cases hr
def uI (s:AS):List Operand->Option (List Value)
 | []=>some []
 | x::l=>match bq s x,uI s l with| .val u,some m=>some (u::m)|_,_=>none
theorem xq {S0:bo} {w0 w:World} {n:Nat} {O:List Nat} {a:Act} {φ:Nat->Option Nat} (hs:aJ S0 w0 n O s a w φ):∀(xs:List Operand) (us:List Value),uI s xs=some us->xs.map a.eval=us
 | [],us,h=>by cases h;rfl
 | x::l,us,h=>by
  simp only [uI] at h
  split at h
  ·rename_i u m hu hm
   injection h with h;subst h
   rw [List.map_cons,xq hs l m hm,show a.eval x=u from bF (hu ▸ hs.bq x)]
  ·cases h
def Po (P:Program) (b:Builtin) (ts:Array TypeId) (ty:TypeId) (us:List Value):Option (AV×List Prop) :=
 match b with
 | .min=>(match kq P (Builtin.min_ ts ty us.toArray) with|some z=>some (.val z,[])|none=>none)
 | .max=>(match kq P (Builtin.max_ ts ty us.toArray) with|some z=>some (.val z,[])|none=>none)
 | _=>none
theorem MI {b:Builtin} {xs:Array Operand} {ts:Array TypeId} {us:List Value} (ho:o.op= .call {callee:=.builtin b,args:=xs,argTypes:=ts}) (hu:uI s xs.toList=some us) (hr:Po P b ts o.type us=some r):dd P s o r.1 r.2:=by
 intro hC S0 w0 n O a w φ hs
 have e:=xq hs _ _ hu
 have e2:xs.map a.eval=us.toArray:=Array.toList_inj.1 (by rw [Array.toList_map,e])
 unfold Po at hr
 split at hr
 ·split at hr
  ·rename_i z hz
   injection hr with hr;subst hr
   refine ⟨z,?_,.rep (.val _)⟩
   unfold execOp
   simp [ho,resolve,invoke,builtin,e2,gb w hz]
  ·cases hr
 ·split at hr
  ·rename_i z hz
   injection hr with hr;subst hr
   refine ⟨z,?_,.rep (.val _)⟩
   unfold execOp
   simp [ho,resolve,invoke,builtin,e2,gb w hz]
  ·cases hr
 ·cases hr
end
end Go.Proofs.YtjgbhhnghedgdaaGreatDoor
