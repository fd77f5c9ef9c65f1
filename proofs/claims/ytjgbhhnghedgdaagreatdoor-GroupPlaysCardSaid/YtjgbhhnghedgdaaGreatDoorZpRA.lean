import Derived.Test.YtjgbhhnghedgdaaGreatDoorZpRW
import Derived.Shelf.Unicode.DecodeSlow
import Derived.Calls
import Derived.Laws.Cells
set_option linter.all false
namespace Go.Proofs.YtjgbhhnghedgdaaGreatDoor
open Go.RowKit
inductive AV where
 | val (v:Value)
 | nil
 | agg (cs:List AV)
 | br (cs:List AV)
 | arr (cs:List AV)
 | sl (e:Nat) (row:List AV)
 | ptr (row:List AV) (off:Nat)
 | own (e:Nat) (row:List AV)
 | box (row:List AV)
 | ref (id:Nat)
 | pre (id n:Nat)
 | jl (id off n:Nat)
 | addr (id off:Nat)
 | lB (f:Nat) (cs:List AV)
 | pt (e:Nat) (row:List AV)
 | dead
 deriving Inhabited
inductive cA (S:Nat->Prop) (w:World):Value->AV->Prop
 | val (v:Value):cA S w v (.val v)
 | nil:cA S w (.slice none 0 0) .nil
 | agg (vs:List Value) (cs:List AV) (hl:vs.length=cs.length) (h:∀(j:Nat) v c,vs[j]?=some v->cs[j]?=some c->cA S w v c):cA S w (.agg vs.toArray) (.agg cs)
 | br (vs:List Value) (cs:List AV) (hl:vs.length=cs.length) (h:∀(j:Nat) v c,vs[j]?=some v->cs[j]?=some c->cA S w v c):cA S w (.tuple vs.toArray) (.br cs)
 | arr (vs:List Value) (cs:List AV) (hl:vs.length=cs.length) (h:∀(j:Nat) v c,vs[j]?=some v->cs[j]?=some c->cA S w v c):cA S w (.agg vs.toArray) (.arr cs)
 | sl (A:Option Addr) (n c e:Nat) (us:List Value) (row:List AV) (hl:us.length=row.length) (hn:row.length=e*n) (hc:n≤c) (hm:c≤maxLen)
   (ha:0<row.length-> ∃ad,A=some ad∧S ad.block∧ ∀(j:Nat) u,us[j]?=some u->w.cell? (ad.add j)=some u)
   (h:∀(j:Nat) u x,us[j]?=some u->row[j]?=some x->cA S w u x):cA S w (.slice A n c) (.sl e row)
 | pt (A:Option Addr) (n e:Nat) (us:List Value) (row:List AV) (hl:us.length=row.length) (hn:row.length=e*n) (hm:n≤maxLen)
   (ha:0<row.length-> ∃ad,A=some ad∧S ad.block∧ ∀(j:Nat) u,us[j]?=some u->w.cell? (ad.add j)=some u)
   (h:∀(j:Nat) u x,us[j]?=some u->row[j]?=some x->cA S w u x):cA S w (.slice A n n) (.pt e row)
 | ptr (ad:Addr) (us:List Value) (row:List AV) (off:Nat) (hl:us.length=row.length) (hs:S ad.block) (ha:∀(j:Nat) u,us[j]?=some u->w.cell? (ad.add j)=some u)
   (h:∀(j:Nat) u x,us[j]?=some u->row[j]?=some x->cA S w u x):cA S w (.pointer (some (ad.add off))) (.ptr row off)
 | lB (f:Nat) (vs:List Value) (cs:List AV) (hl:vs.length=cs.length) (h:∀(j:Nat) v c,vs[j]?=some v->cs[j]?=some c->cA S w v c):cA S w (.func (.func f) #[] vs.toArray) (.lB f cs)
theorem kn {w w':World} {p:Addr} (h:w'.heap[p.block]?=w.heap[p.block]?):w'.cell? p=w.cell? p:=World.cell?_of_block (w:=w) h
theorem cA.mono {S S':Nat->Prop} {w w':World} (hS:∀b,S b->S' b∧w'.heap[b]?=w.heap[b]?) {v:Value} {av:AV} (h:cA S w v av):cA S' w' v av:=by
 induction h with
 | val v=>exact .val v
 | nil=>exact .nil
 | agg vs cs hl _ ih=>exact .agg vs cs hl ih
 | br vs cs hl _ ih=>exact .br vs cs hl ih
 | arr vs cs hl _ ih=>exact .arr vs cs hl ih
 | sl A n c e us row hl hn hc hm ha _ ih =>
  refine .sl A n c e us row hl hn hc hm (fun h0=>?_) ih
  obtain ⟨ad,rfl,hb,bu⟩:=ha h0
  exact ⟨ad,rfl,(hS _ hb).1,fun j u hu=>(kn (by rw [gL];exact (hS _ hb).2)).trans (bu j u hu)⟩
 | pt A n e us row hl hn hm ha _ ih =>
  refine .pt A n e us row hl hn hm (fun h0=>?_) ih
  obtain ⟨ad,rfl,hb,bu⟩:=ha h0
  exact ⟨ad,rfl,(hS _ hb).1,fun j u hu=>(kn (by rw [gL];exact (hS _ hb).2)).trans (bu j u hu)⟩
 | ptr ad us row off hl hs ha _ ih =>
  exact .ptr ad us row off hl (hS _ hs).1 (fun j u hu=>(kn (by rw [gL];exact (hS _ hs).2)).trans (ha j u hu)) ih
 | lB f vs cs hl _ ih=>exact .lB f vs cs hl ih
abbrev Info:=Nat->Option (Nat×Nat×Option Nat)
def aV (w:World) (g:Nat):Nat:=match w.heap[g]? with|some (.cells c _ _)=>c.size|_=>0
inductive Den (I:Info) (S:Nat->Prop) (w:World):Value->AV->Prop
 | rep {v:Value} {av:AV} (h:cA S w v av):Den I S w v av
 | agg (vs:List Value) (cs:List AV) (hl:vs.length=cs.length) (h:∀(j:Nat) v c,vs[j]?=some v->cs[j]?=some c->Den I S w v c):Den I S w (.agg vs.toArray) (.agg cs)
 | br (vs:List Value) (cs:List AV) (hl:vs.length=cs.length) (h:∀(j:Nat) v c,vs[j]?=some v->cs[j]?=some c->Den I S w v c):Den I S w (.tuple vs.toArray) (.br cs)
 | ref (id e m g l c:Nat) (hi:I id=some (e,m,some g)) (hm:m=e*l) (hc:l≤c) (hx:c≤maxLen) (hs:aV w g=e*c):Den I S w (.slice (some ⟨g,0,none⟩) l c) (.ref id)
 | cC (id e:Nat) (hi:I id=some (e,0,none)):Den I S w (.slice none 0 0) (.ref id)
 | pre (id n e m g l c:Nat) (hi:I id=some (e,m,some g)) (hn:n=e*l) (hm:n≤m) (hc:l≤c) (hx:c≤maxLen) (hs:aV w g=e*c):Den I S w (.slice (some ⟨g,0,none⟩) l c) (.pre id n)
 | dw (id e:Nat) (hi:I id=some (e,0,none)):Den I S w (.slice none 0 0) (.pre id 0)
 | jl (id off n e m l c:Nat) (g:Option Nat) (A:Option Addr) (hi:I id=some (e,m,g)) (hn:n=e*l) (hm:off+n≤m) (hc:l≤c) (hx:c≤maxLen) (ha:0<n-> ∃b,g=some b∧A=some ⟨b,off,none⟩):Den I S w (.slice A l c) (.jl id off n)
 | addr (id off e m g:Nat) (hi:I id=some (e,m,some g)):Den I S w (.pointer (some ⟨g,off,none⟩)) (.addr id off)
 | dead (v:Value):Den I S w v .dead
theorem Den.mono {I I':Info} {S S':Nat->Prop} {w w':World} (hI:∀id x,I id=some x->I' id=some x) (hS:∀b,S b->S' b∧w'.heap[b]?=w.heap[b]?)
  (hL:∀id e m g,I id=some (e,m,some g)->aV w' g=aV w g) {v:Value} {av:AV} (h:Den I S w v av):Den I' S' w' v av:=by
 induction h with
 | rep h=>exact .rep (h.mono hS)
 | agg vs cs hl _ ih=>exact .agg vs cs hl ih
 | br vs cs hl _ ih=>exact .br vs cs hl ih
 | ref id e m g l c hi hm hc hx hs=>exact .ref id e m g l c (hI _ _ hi) hm hc hx ((hL _ _ _ _ hi).trans hs)
 | cC id e hi=>exact .cC id e (hI _ _ hi)
 | pre id n e m g l c hi hn hm hc hx hs=>exact .pre id n e m g l c (hI _ _ hi) hn hm hc hx ((hL _ _ _ _ hi).trans hs)
 | dw id e hi=>exact .dw id e (hI _ _ hi)
 | jl id off n e m l c g A hi hn hm hc hx ha=>exact .jl id off n e m l c g A (hI _ _ hi) hn hm hc hx ha
 | addr id off e m g hi=>exact .addr id off e m g (hI _ _ hi)
 | dead v=>exact .dead v
structure Row where
 e:Nat
 pure:Bool
 full:Bool
 cells:List AV
def bh (I:Info) (S:Nat->Prop) (w:World) (p:Bool) (u:Value) (x:AV):Prop:=match p with|true=>cA S w u x|false=>Den I S w u x
def bN (I:Info) (S:Nat->Prop) (w:World) (b:Option Nat) (r:Row):Prop :=
 match b with
 | none=>r.cells= []
 | some g=>∃cur te fr,w.heap[g]?=some (.cells cur te fr)∧(∀j,j<cur.size-> ¬(fr.1≤j∧j<fr.2))∧r.cells.length≤cur.size∧(r.full=true->cur.size=r.cells.length) ∧
   ∀(j:Nat) u x,cur[j]?=some u->r.cells[j]?=some x->bh I S w r.pure u x
def look {α:Type}:List (Nat×α)->Nat->Option α
 | [],_=>none
 | (k,x)::l,i=>match Nat.beq k i with|true=>some x|false=>look l i
def cN {α:Type}:List (Nat×α)->Nat->List (Nat×α)
 | [],_=>[]
 | (k,x)::l,i=>match Nat.beq k i with|true=>cN l i|false=>(k,x)::cN l i
def dS {α:Type} (f:α->α):List (Nat×α)->List (Nat×α)
 | []=>[]
 | (k,x)::l=>(k,f x)::dS f l
theorem bI (k i:Nat):(Nat.beq k i=true∧k=i)∨(Nat.beq k i=false∧k≠i):=by
 cases h:Nat.beq k i with
 | true=>exact .inl ⟨rfl,Nat.eq_of_beq_eq_true h⟩
 | false=>exact .inr ⟨rfl,Nat.ne_of_beq_eq_false h⟩
theorem aD {α:Type} (k:Nat) (x:α) (l:List (Nat×α)) (i:Nat):look ((k,x)::l) i=if k=i then some x else look l i:=by
 rcases bI k i with ⟨h,e⟩|⟨h,e⟩<;>simp [look,h,e]
theorem bH {α:Type} (l:List (Nat×α)) (i j:Nat):look (cN l i) j=if i=j then none else look l j:=by
 induction l with
 | nil=>simp [cN,look]
 | cons p l ih =>
  obtain ⟨k,x⟩:=p
  rcases bI k i with ⟨h,e⟩|⟨h,e⟩
  ·simp only [cN,h];rw [ih,aD,e]
   by_cases hj:i=j<;>simp [hj]
  ·simp only [cN,h,aD,ih]
   by_cases hk:k=j
   ·subst hk;simp [Ne.symm e]
   ·simp [hk]
theorem cw {α:Type} (f:α->α) (l:List (Nat×α)) (i:Nat):look (dS f l) i=(look l i).map f:=by
 induction l with
 | nil=>rfl
 | cons p l ih =>
  obtain ⟨k,x⟩:=p
  simp only [dS,aD,ih]
  by_cases hk:k=i<;>simp [hk]
theorem bM {α:Type} (l m:List (Nat×α)) (i:Nat):look (l++m) i=(look l i).or (look m i):=by
 induction l with
 | nil=>simp [look]
 | cons p l ih =>
  obtain ⟨k,x⟩:=p
  simp only [List.cons_append,aD,ih]
  by_cases hk:k=i<;>simp [hk]
structure AS where
 F:List (Nat×AV)
 H:List (Nat×Row)
def az (H:List (Nat×Row)) (φ:Nat->Option Nat):Info:=fun id=>(look H id).map fun r=>(r.e,r.cells.length,φ id)
def TB (b:Nat):Prop:=b=0∨b=1
def Good (w:World):Prop:=Lib.Utf8Tabs 0 1 w
theorem Good.aa {w w':World} (h:Good w) (hk:∀b,TB b->w'.heap[b]?=w.heap[b]?):Good w' :=
 ⟨fun c hc=>(World.cell?_of_block (hk _ (.inl rfl))).trans (h.1 c hc),fun i hi=>⟨(World.cell?_of_block (hk _ (.inr rfl))).trans (h.2 i hi).1,(World.cell?_of_block (hk _ (.inr rfl))).trans (h.2 i hi).2⟩⟩
theorem Good.lt {w:World} (h:Good w) {b:Nat} (hb:TB b):b<w.heap.size:=by
 have lt:∀ {a:Addr} {v:Value},w.cell? a=some v->a.block<w.heap.size:=fun {a v} hc=>by
  rcases Nat.lt_or_ge a.block w.heap.size with h'|h'
  ·exact h'
  ·simp [World.cell?,Array.getElem?_eq_none h'] at hc
 rcases hb with rfl|rfl
 ·exact lt (h.1 0 (by decide))
 ·exact lt (h.2 0 (by decide)).1
structure bm where
 S:Nat->Prop
 X:Nat->Prop
 fix:Nat->Option Nat
 r8:List Deferred:=[]
instance:CoeFun bm fun _=>Nat->Prop:=⟨bm.S⟩
def P7 (S0:bm) (w0:World) (id g:Nat):Prop:=(id<1000000000000∨S0.fix id=some g)∧(w0.heap.size≤g∨S0.X g)
structure Kept (S0:bm) (w0 w:World):Prop where
 os:w.os=w0.os
 tape:w.tape=w0.tape
 output:w.output=w0.output
 size:w0.heap.size≤w.heap.size
 block:∀k,k<w0.heap.size-> ¬S0.X k->w.heap[k]?=w0.heap[k]?
 g0:Good w0
 gx:∀b,TB b-> ¬S0.X b
theorem Kept.mw {S0:bm} {w0 w:World} (h:Kept S0 w0 w):Good w:=h.g0.aa fun b hb=>h.block b (h.g0.lt hb) (h.gx b hb)
theorem Kept.pB {S0:bm} {w0 w w':World} (h:Kept S0 w0 w) (hb:Below w.heap.size w w'):Kept S0 w0 w' :=
 ⟨hb.os.trans h.os,hb.tape.trans h.tape,hb.output.trans h.output,Nat.le_trans h.size hb.size,fun k hk hx=>(hb.block k (Nat.lt_of_lt_of_le hk h.size)).trans (h.block k hk hx),h.g0,h.gx⟩
theorem Kept.below {S0:bm} {w0 w:World} (h:Kept S0 w0 w) (hX:∀b,¬S0.X b):Below w0.heap.size w0 w :=
 ⟨h.os,h.tape,h.output,h.size,fun k hk=>h.block k hk (hX k)⟩
def aM (S0:bm) (w:World) (φ:Nat->Option Nat) (O:List Nat):Nat->Prop:=fun b=>b<w.heap.size∧b ∉ O∧(∀id,φ id≠some b)∧S0 b
structure aG (S0:bm) (w0:World) (n:Nat) (O:List Nat) (s:AS) (a:Act) (w:World) (φ:Nat->Option Nat):Prop where
 jL:a.tmps.size=n
 jO:a.defers=S0.r8
 cV:Kept S0 w0 w
 cB:∀i av,look s.F i=some av->Den (az s.H φ) (aM S0 w φ O) w (a.tmps.getD i undef) av
 rows:∀id r,look s.H id=some r->bN (az s.H φ) (aM S0 w φ O) w (φ id) r
 only:∀id,look s.H id=none->φ id=none
 inj:∀id oZ g,φ id=some g->φ oZ=some g->id=oZ
 cU:∀id g,φ id=some g->P7 S0 w0 id g∧g<w.heap.size
 apart:∀id g,φ id=some g->g ∉ O
 new:∀b,(w0.heap.size≤b∨S0.X b)->S0 b
def iv (S0:bm) (w0:World) (n:Nat) (s:AS) (a:Act) (w:World):Prop:=∃ φ,aG S0 w0 n [] s a w φ
theorem Kept.sq {S0:bm} {w0 w:World} (h:Kept S0 w0 w) {g:Nat} (hg:w0.heap.size≤g∨S0.X g):¬TB g:=fun hb=>hg.elim (fun h1=>by have:=h.g0.lt hb;omega) (h.gx g hb)
theorem aG.sq {S0:bm} {w0 w:World} {n:Nat} {O:List Nat} {s:AS} {a:Act} {φ:Nat->Option Nat} (h:aG S0 w0 n O s a w φ) {b:Nat} (hb:TB b):¬ ∃id,φ id=some b:=fun ⟨id,hid⟩=>h.cV.sq (h.cU id b hid).1.2 hb
def jN (s:AS) (i:Nat):AV:=match look s.F i with|some x=>x|none=>.dead
def lg (s:AS) (i:Nat) (x:AV):AS:=⟨(i,x)::cN s.F i,s.H⟩
theorem qT (s:AS) (i j:Nat) (x:AV):look (lg s i x).F j=if i=j then some x else look s.F j:=by
 simp only [lg,aD,bH]
 by_cases h:i=j<;>simp [h]
section
variable {S0:bm} {w0 w w':World} {n:Nat} {O:List Nat} {s:AS} {a:Act} {φ:Nat->Option Nat}
theorem aG.get (h:aG S0 w0 n O s a w φ) (i:Nat):Den (az s.H φ) (aM S0 w φ O) w (a.tmps.getD i undef) (jN s i):=by
 unfold jN
 cases hl:look s.F i with
 | none=>exact .dead _
 | some x=>exact h.cB i x hl
theorem pJ (a:Act) (d i:Nat) (v:Value) (hd:d<a.tmps.size):(a.put (some d) v).tmps.getD i undef=if d=i then v else a.tmps.getD i undef:=by
 simp only [Act.put]
 by_cases h:d=i
 ·subst h;simp [hd]
 ·simp [h,Array.getElem?_setIfInBounds_ne h]
theorem tr (a:Act) (d:Option Nat) (v:Value):(a.put d v).tmps.size=a.tmps.size:=by cases d<;>simp [Act.put]
theorem pc (a:Act) (d:Option Nat) (v:Value):(a.put d v).defers=a.defers:=by cases d<;>simp [Act.put]
theorem aG.put (h:aG S0 w0 n O s a w φ) {d:Nat} (hd:d<n) {v:Value} {x:AV} (hx:Den (az s.H φ) (aM S0 w φ O) w v x):aG S0 w0 n O (lg s d x) (a.put (some d) v) w φ where
 jL:=(tr ..).trans h.jL
 jO:=(pc ..).trans h.jO
 cV:=h.cV
 cB:=fun i av hi=>by
  rw [pJ a d i v (by rw [h.jL];exact hd)]
  rw [qT] at hi
  by_cases e:d=i
  ·rw [if_pos e] at hi ⊢
   injection hi with hi
   subst hi;exact hx
  ·rw [if_neg e] at hi ⊢
   exact h.cB i av hi
 rows:=h.rows
 only:=h.only
 inj:=h.inj
 cU:=h.cU
 apart:=h.apart
 new:=h.new
theorem aG.grow (h:aG S0 w0 n O s a w φ) (hb:Below w.heap.size w w'):aG S0 w0 n O s a w' φ where
 jL:=h.jL
 jO:=h.jO
 cV:=h.cV.pB hb
 cB:=fun i av hi=>(h.cB i av hi).mono (fun _ _ h=>h) (fun b hS=>⟨⟨Nat.lt_of_lt_of_le hS.1 hb.size,hS.2⟩,hb.block b hS.1⟩) (fun id e m g hi=>by
  have hg:φ id=some g:=by
   unfold az at hi
   cases hl:look s.H id with
   | none=>rw [hl] at hi;cases hi
   | some r=>rw [hl] at hi;simp at hi;exact hi.2.2
  unfold aV;rw [hb.block g (h.cU id g hg).2])
 rows:=fun id r hr=>by
  have aN:=h.rows id r hr
  unfold bN at aN ⊢
  cases cp:φ id with
  | none=>rw [cp] at aN;exact aN
  | some g =>
   rw [cp] at aN
   obtain ⟨cur,te,fr,hg,hf,hl,mI,hc⟩:=aN
   refine ⟨cur,te,fr,(hb.block g (h.cU id g cp).2).trans hg,hf,hl,mI,fun j u x hu hx=>?_⟩
   have bu:=hc j u x hu hx
   have hS:∀b,aM S0 w φ O b->aM S0 w' φ O b∧w'.heap[b]?=w.heap[b]?:=fun b hS=>⟨⟨Nat.lt_of_lt_of_le hS.1 hb.size,hS.2⟩,hb.block b hS.1⟩
   unfold bh at bu ⊢
   cases hp:r.pure with
   | true=>rw [hp] at bu;exact bu.mono hS
   | false =>
    rw [hp] at bu
    exact bu.mono (fun _ _ h=>h) hS (fun id e m g hi=>by
     have hg:φ id=some g:=by
      unfold az at hi
      cases hl:look s.H id with
      | none=>rw [hl] at hi;cases hi
      | some r=>rw [hl] at hi;simp at hi;exact hi.2.2
     unfold aV;rw [hb.block g (h.cU id g hg).2])
 only:=h.only
 inj:=h.inj
 cU:=fun id g hg=>⟨(h.cU id g hg).1,Nat.lt_of_lt_of_le (h.cU id g hg).2 hb.size⟩
 apart:=h.apart
 new:=h.new
end
def aR (id:Nat):AV->AV
 | .ref i=>match Nat.beq i id with|true=>.dead|false=>.ref i
 | .pre i n=>match Nat.beq i id with|true=>.dead|false=>.pre i n
 | .jl i o n=>match Nat.beq i id with|true=>.dead|false=>.jl i o n
 | .addr i o=>match Nat.beq i id with|true=>.dead|false=>.addr i o
 | .agg _=>.dead
 | .br _=>.dead
 | x=>x
def DZ (id:Nat):AV->AV
 | .agg cs=>.agg (cs.map (aR id))
 | x=>aR id x
def jG (id:Nat):AV->AV
 | .br cs=>.br (cs.map (DZ id))
 | x=>DZ id x
def dJ (id:Nat) (r:Row):Row:=match r.pure with|true=>r|false=>⟨r.e,false,r.full,r.cells.map (aR id)⟩
def cm (id:Nat) (s:AS):AS:=⟨dS (jG id) s.F,dS (dJ id) (cN s.H id)⟩
def kX (id:Nat) (r:Row):AV->AV
 | .ref i=>match Nat.beq i id with|true=>.sl r.e r.cells|false=>.ref i
 | .pre i n=>match Nat.beq i id with|true=>.sl r.e (r.cells.take n)|false=>.pre i n
 | .jl i o n=>match Nat.beq i id with|true=>.sl r.e ((r.cells.drop o).take n)|false=>.jl i o n
 | .addr i o=>match Nat.beq i id with|true=>.ptr r.cells o|false=>.addr i o
 | .agg _=>.dead
 | .br _=>.dead
 | x=>x
def DA (id:Nat) (r:Row):AV->AV
 | .agg cs=>.agg (cs.map (kX id r))
 | x=>kX id r x
def Lr (id:Nat) (r:Row):AV->AV
 | .br cs=>.br (cs.map (DA id r))
 | x=>DA id r x
def gD (id:Nat) (r:Row) (q:Row):Row:=match q.pure with|true=>q|false=>⟨q.e,false,q.full,q.cells.map (kX id r)⟩
def gp (id:Nat) (r:Row) (s:AS):AS:=⟨dS (Lr id r) s.F,dS (gD id r) (cN s.H id)⟩
section
variable {I I':Info} {S S':Nat->Prop} {w w':World}
structure jQ (I I':Info) (S S':Nat->Prop) (w:World) (f:AV->AV):Prop where
 leaf:∀v x,Den I S w v x->(∀cs,x≠ .agg cs)->(∀cs,x≠ .br cs)->Den I' S' w v (f x)
 agg:∀cs,f (.agg cs)= .dead
 br:∀cs,f (.br cs)= .dead
theorem jQ.all {f:AV->AV} (h:jQ I I' S S' w f) {v:Value} {x:AV} (hx:Den I S w v x):Den I' S' w v (f x):=by
 cases x with
 | agg cs=>rw [h.agg];exact .dead _
 | br cs=>rw [h.br];exact .dead _
 | _=>exact h.leaf v _ hx (by intro cs e;cases e) (by intro cs e;cases e)
theorem ka {v:Value} {cs:List AV} (h:Den I S w v (.agg cs)):∃vs:List Value,v= .agg vs.toArray∧vs.length=cs.length∧ ∀(j:Nat) v c,vs[j]?=some v->cs[j]?=some c->Den I S w v c:=by
 cases h with
 | rep h=>cases h with|agg vs _ hl h=>exact ⟨vs,rfl,hl,fun j v c hv hc=>.rep (h j v c hv hc)⟩
 | agg vs _ hl h=>exact ⟨vs,rfl,hl,h⟩
theorem yp {v:Value} {cs:List AV} (h:Den I S w v (.br cs)):∃vs:List Value,v= .tuple vs.toArray∧vs.length=cs.length∧ ∀(j:Nat) v c,vs[j]?=some v->cs[j]?=some c->Den I S w v c:=by
 cases h with
 | rep h=>cases h with|br vs _ hl h=>exact ⟨vs,rfl,hl,fun j v c hv hc=>.rep (h j v c hv hc)⟩
 | br vs _ hl h=>exact ⟨vs,rfl,hl,h⟩
theorem jQ.one {f:AV->AV} (h:jQ I I' S S' w f) {v:Value} {x:AV} (hx:Den I S w v x) {g:AV->AV} (hg:∀cs,g (.agg cs)= .agg (cs.map f)) (i6:∀y,(∀cs,y≠ .agg cs)->g y=f y):Den I' S' w v (g x):=by
 by_cases hc:∃cs,x= .agg cs
 ·obtain ⟨cs,rfl⟩:=hc
  obtain ⟨vs,rfl,hl,hd⟩:=ka hx
  rw [hg]
  refine .agg vs _ (by simpa using hl) fun j v c hv hc=>?_
  rw [List.getElem?_map] at hc
  cases hj:cs[j]? with
  | none=>rw [hj] at hc;cases hc
  | some y=>rw [hj] at hc;injection hc with hc;subst hc;exact h.all (hd j v y hv hj)
 ·rw [i6 x fun cs e=>hc ⟨cs,e⟩]
  exact h.all hx
theorem jQ.two {f:AV->AV} (h:jQ I I' S S' w f) {v:Value} {x:AV} (hx:Den I S w v x) {g k:AV->AV} (hg:∀cs,g (.agg cs)= .agg (cs.map f)) (i6:∀y,(∀cs,y≠ .agg cs)->g y=f y)
  (hk:∀cs,k (.br cs)= .br (cs.map g)) (oq:∀y,(∀cs,y≠ .br cs)->k y=g y):Den I' S' w v (k x):=by
 by_cases hc:∃cs,x= .br cs
 ·obtain ⟨cs,rfl⟩:=hc
  obtain ⟨vs,rfl,hl,hd⟩:=yp hx
  rw [hk]
  refine .br vs _ (by simpa using hl) fun j v c hv hc=>?_
  rw [List.getElem?_map] at hc
  cases hj:cs[j]? with
  | none=>rw [hj] at hc;cases hc
  | some y=>rw [hj] at hc;injection hc with hc;subst hc;exact h.one (hd j v y hv hj) hg i6
 ·rw [oq x fun cs e=>hc ⟨cs,e⟩]
  exact h.one hx hg i6
theorem An (id:Nat) (y:AV) (h:∀cs,y≠ .agg cs):DZ id y=aR id y:=by
 cases y with
 | agg cs=>exact absurd rfl (h cs)
 | _=>rfl
theorem Am (id:Nat) (y:AV) (h:∀cs,y≠ .br cs):jG id y=DZ id y:=by
 cases y with
 | br cs=>exact absurd rfl (h cs)
 | _=>rfl
theorem zg (id:Nat) (r:Row) (y:AV) (h:∀cs,y≠ .agg cs):DA id r y=kX id r y:=by
 cases y with
 | agg cs=>exact absurd rfl (h cs)
 | _=>rfl
theorem zf (id:Nat) (r:Row) (y:AV) (h:∀cs,y≠ .br cs):Lr id r y=DA id r y:=by
 cases y with
 | br cs=>exact absurd rfl (h cs)
 | _=>rfl
theorem uj (id:Nat) (hI:∀i x,i≠id->I i=some x->I' i=some x) (hS:∀b,S b->S' b):jQ I I' S S' w (aR id) where
 agg:=fun _=>rfl
 br:=fun _=>rfl
 leaf:=fun v x hx h1 h2=>by
  have sx:∀b,S b->S' b∧w.heap[b]?=w.heap[b]?:=fun b h=>⟨hS b h,rfl⟩
  cases hx with
  | rep h=>cases h with
   | val v=>exact .rep (.val v)
   | nil=>exact .rep .nil
   | agg vs cs _ _=>exact absurd rfl (h1 cs)
   | br vs cs _ _=>exact absurd rfl (h2 cs)
   | arr vs cs hl h=>exact .rep ((cA.arr vs cs hl h).mono sx)
   | sl A n c e us row hl hn hc hm ha h=>exact .rep ((cA.sl A n c e us row hl hn hc hm ha h).mono sx)
   | pt A n e us row hl hn hm ha h=>exact .rep ((cA.pt A n e us row hl hn hm ha h).mono sx)
   | ptr ad us row off hl hs ha h=>exact .rep ((cA.ptr ad us row off hl hs ha h).mono sx)
   | lB f vs cs hl h=>exact .rep ((cA.lB f vs cs hl h).mono sx)
  | agg vs cs _ _=>exact absurd rfl (h1 cs)
  | br vs cs _ _=>exact absurd rfl (h2 cs)
  | ref i e m g l c hi hm hc hx hs =>
   rcases bI i id with ⟨h,e⟩|⟨h,e⟩<;>simp only [aR,h]
   ·exact .dead _
   ·exact .ref i _ m g l c (hI _ _ e hi) hm hc hx hs
  | cC i e hi =>
   rcases bI i id with ⟨h,e⟩|⟨h,e⟩<;>simp only [aR,h]
   ·exact .dead _
   ·exact .cC i _ (hI _ _ e hi)
  | pre i n e m g l c hi hn hm hc hx hs =>
   rcases bI i id with ⟨h,e⟩|⟨h,e⟩<;>simp only [aR,h]
   ·exact .dead _
   ·exact .pre i n _ m g l c (hI _ _ e hi) hn hm hc hx hs
  | dw i e hi =>
   rcases bI i id with ⟨h,e⟩|⟨h,e⟩<;>simp only [aR,h]
   ·exact .dead _
   ·exact .dw i _ (hI _ _ e hi)
  | jl i off n e m l c g A hi hn hm hc hx ha =>
   rcases bI i id with ⟨h,e⟩|⟨h,e⟩<;>simp only [aR,h]
   ·exact .dead _
   ·exact .jl i off n _ m l c g A (hI _ _ e hi) hn hm hc hx ha
  | addr i off e m g hi =>
   rcases bI i id with ⟨h,e⟩|⟨h,e⟩<;>simp only [aR,h]
   ·exact .dead _
   ·exact .addr i off _ m g (hI _ _ e hi)
  | dead v=>exact .dead _
theorem Den.kill (id:Nat) (hI:∀i x,i≠id->I i=some x->I' i=some x) (hS:∀b,S b->S' b) {v:Value} {x:AV} (h:Den I S w v x):Den I' S' w v (jG id x) :=
 (uj id hI hS).two h (fun _=>rfl) (An id) (fun _=>rfl) (Am id)
theorem eX {r:Row} {g l c:Nat} {cur:Array Value} {te:TypeId} {fr:Nat×Nat} (hg:w.heap[g]?=some (.cells cur te fr)) (hS:S g) (cells:List AV) (off:Nat) (hl:off+cells.length≤cur.size)
  (hn:cells.length=r.e*l) (hc:l≤c) (hm:c≤maxLen) (A:Option Addr) (hA:0<cells.length->A=some ⟨g,off,none⟩) (h:∀(j:Nat) u x,cur[off+j]?=some u->cells[j]?=some x->cA S w u x):cA S w (.slice A l c) (.sl r.e cells):=by
 refine .sl A l c r.e ((cur.toList.drop off).take cells.length) cells (by have:cur.toList.length=cur.size:=rfl;rw [List.length_take,List.length_drop];omega) hn hc hm (fun h0=>⟨_,hA h0,hS,fun j u hu=>?_⟩) (fun j u x hu hx=>?_)
 ·have e:(⟨g,off,none⟩:Addr).add j=⟨g,off+j,none⟩:=by unfold Addr.add;split<;>simp_all
  rw [e,cell_of_row w g _ cur te fr hg]
  rw [List.getElem?_take] at hu
  split at hu
  ·rw [List.getElem?_drop] at hu;simpa using hu
  ·cases hu
 ·refine h j u x ?_ hx
  rw [List.getElem?_take] at hu
  split at hu
  ·rw [List.getElem?_drop] at hu;simpa using hu
  ·cases hu
theorem oU {g off:Nat} {cur:Array Value} {te:TypeId} {fr:Nat×Nat} (hg:w.heap[g]?=some (.cells cur te fr)) (hS:S g) (cells:List AV) (hl:cells.length≤cur.size)
  (h:∀(j:Nat) u x,cur[j]?=some u->cells[j]?=some x->cA S w u x):cA S w (.pointer (some ⟨g,off,none⟩)) (.ptr cells off):=by
 have e:∀j,(⟨g,0,none⟩:Addr).add j=⟨g,j,none⟩:=eZ g
 have:=cA.ptr (S:=S) (w:=w) ⟨g,0,none⟩ (cur.toList.take cells.length) cells off (by have:cur.toList.length=cur.size:=rfl;rw [List.length_take];omega) hS (fun j u hu=>?_) (fun j u x hu hx=>?_)
 ·rw [e] at this;exact this
 ·rw [e,cell_of_row w g _ cur te fr hg]
  rw [List.getElem?_take] at hu
  split at hu
  ·simpa using hu
  ·cases hu
 ·refine h j u x ?_ hx
  rw [List.getElem?_take] at hu
  split at hu
  ·simpa using hu
  ·cases hu
end
def erase (φ:Nat->Option Nat) (id:Nat):Nat->Option Nat:=fun i=>if i=id then none else φ i
def fD (φ:Nat->Option Nat) (id g:Nat):Nat->Option Nat:=fun i=>if i=id then some g else φ i
section
variable {S0:bm} {w0 w w':World} {n:Nat} {O:List Nat} {s:AS} {a:Act} {φ:Nat->Option Nat}
theorem aO {H:List (Nat×Row)} {id e m:Nat} {b:Option Nat} (h:az H φ id=some (e,m,b)):∃r,look H id=some r∧r.e=e∧r.cells.length=m∧φ id=b:=by
 unfold az at h
 cases hl:look H id with
 | none=>rw [hl] at h;cases h
 | some r=>rw [hl] at h;simp at h;exact ⟨r,rfl,h⟩
theorem bq {H:List (Nat×Row)} {id:Nat} {r:Row} (h:look H id=some r):az H φ id=some (r.e,r.cells.length,φ id):=by
 unfold az;rw [h];rfl
theorem fL (id:Nat) (r:Row):(dJ id r).e=r.e∧(dJ id r).cells.length=r.cells.length∧(dJ id r).pure=r.pure∧(dJ id r).full=r.full:=by
 unfold dJ
 cases h:r.pure<;>simp [h]
theorem gn (id:Nat) (r q:Row):(gD id r q).e=q.e∧(gD id r q).cells.length=q.cells.length∧(gD id r q).pure=q.pure∧(gD id r q).full=q.full:=by
 unfold gD
 cases h:q.pure<;>simp [h]
theorem np (id i:Nat) (x:Nat×Nat×Option Nat) (cT:i≠id) (h:az s.H φ i=some x):az (cm id s).H (erase φ id) i=some x:=by
 obtain ⟨e,m,b⟩:=x
 obtain ⟨r,hl,he,hm,hb⟩:=aO h
 have:look (cm id s).H i=some (dJ id r):=by
  unfold cm;rw [cw,bH,if_neg (Ne.symm cT),hl];rfl
 rw [bq this,(fL id r).1,(fL id r).2.1,he,hm]
 unfold erase;rw [if_neg cT,hb]
theorem kg (id i:Nat) (q:Row) (x:Nat×Nat×Option Nat) (cT:i≠id) (h:az s.H φ i=some x):az (gp id q s).H (erase φ id) i=some x:=by
 obtain ⟨e,m,b⟩:=x
 obtain ⟨r,hl,he,hm,hb⟩:=aO h
 have:look (gp id q s).H i=some (gD id q r):=by
  unfold gp;rw [cw,bH,if_neg (Ne.symm cT),hl];rfl
 rw [bq this,(gn id q r).1,(gn id q r).2.1,he,hm]
 unfold erase;rw [if_neg cT,hb]
theorem aG.js (h:aG S0 w0 n O s a w φ) (id:Nat) (O':List Nat) (hO:O'=match φ id with|some g=>g::O|none=>O):aG S0 w0 n O' (cm id s) a w (erase φ id):=by
 have hF:∀b,aM S0 w φ O b->aM S0 w (erase φ id) O' b:=by
  intro b ⟨h1,h2,h3,h4⟩
  refine ⟨h1,?_,fun i hi=>?_,h4⟩
  ·rw [hO]
   cases cp:φ id with
   | none=>exact h2
   | some g =>
    simp only [List.mem_cons,not_or]
    exact ⟨fun e=>h3 id (by rw [cp,e]),h2⟩
  ·unfold erase at hi
   split at hi
   ·cases hi
   ·exact h3 i hi
 refine ⟨h.jL,h.jO,h.cV,fun i av hi=>?_,fun i r hr=>?_,fun i hi=>?_,fun i j g hi hj=>?_,fun i g hi=>?_,fun i g hi=>?_,h.new⟩
 ·unfold cm at hi
  rw [cw] at hi
  cases hl:look s.F i with
  | none=>rw [hl] at hi;cases hi
  | some x =>
   rw [hl] at hi;injection hi with hi;subst hi
   exact (h.cB i x hl).kill id (np id) hF
 ·have il:=hr
  unfold cm at il
  rw [cw,bH] at il
  by_cases cT:id=i
  ·rw [if_pos cT] at il;cases il
  ·rw [if_neg cT] at il
   cases hl:look s.H i with
   | none=>rw [hl] at il;cases il
   | some q =>
    rw [hl] at il;injection il with il;subst il
    have hq:=h.rows i q hl
    have Cb:erase φ id i=φ i:=by unfold erase;rw [if_neg (Ne.symm cT)]
    rw [Cb]
    unfold bN at hq ⊢
    cases hb:φ i with
    | none =>
     rw [hb] at hq
     have:=(fL id q).2.1
     simp only at hq ⊢
     rw [hq] at this;exact List.length_eq_zero_iff.1 this
    | some g =>
     rw [hb] at hq
     obtain ⟨cur,te,fr,hg,hf,hlen,mI,hc⟩:=hq
     refine ⟨cur,te,fr,hg,hf,by rw [(fL id q).2.1];exact hlen,by rw [(fL id q).2.1,(fL id q).2.2.2];exact mI,fun j u x hu hx=>?_⟩
     rw [(fL id q).2.2.1]
     unfold bh
     cases hp:q.pure with
     | true =>
      have:dJ id q=q:=by unfold dJ;rw [hp]
      rw [this] at hx
      have:=hc j u x hu hx
      unfold bh at this;rw [hp] at this
      exact this.mono fun b hb=>⟨hF b hb,rfl⟩
     | false =>
      have:(dJ id q).cells=q.cells.map (aR id):=by unfold dJ;rw [hp]
      rw [this,List.getElem?_map] at hx
      cases hj:q.cells[j]? with
      | none=>rw [hj] at hx;cases hx
      | some y =>
       rw [hj] at hx;injection hx with hx;subst hx
       have:=hc j u y hu hj
       unfold bh at this;rw [hp] at this
       exact (uj id (np id) hF).all this
 ·unfold cm at hi
  rw [cw,bH] at hi
  unfold erase
  by_cases cT:id=i
  ·rw [if_pos cT.symm]
  ·rw [if_neg cT] at hi
   rw [if_neg (Ne.symm cT)]
   refine h.only i ?_
   cases hl:look s.H i with
   | none=>rfl
   | some r=>rw [hl] at hi;cases hi
 ·unfold erase at hi hj
  split at hi
  ·cases hi
  ·split at hj
   ·cases hj
   ·exact h.inj i j g hi hj
 ·unfold erase at hi
  split at hi
  ·cases hi
  ·exact h.cU i g hi
 ·unfold erase at hi
  split at hi
  ·cases hi
  ·rename_i cT
   rw [hO]
   cases cp:φ id with
   | none=>exact h.apart i g hi
   | some g' =>
    simp only [List.mem_cons,not_or]
    exact ⟨fun e=>cT (h.inj i id g hi (by rw [cp,e])),h.apart i g hi⟩
theorem aG.vP (h:aG S0 w0 n O s a w φ) (hO:∀g∈O,w0.heap.size≤g∨S0.X g) (HW:w'.os=w.os) (ur:w'.tape=w.tape) (uu:w'.output=w.output) (dq:w.heap.size≤w'.heap.size) (hb:∀b,b<w.heap.size->b ∉ O->w'.heap[b]?=w.heap[b]?):aG S0 w0 n O s a w' φ:=by
 have hF:∀b,aM S0 w φ O b->aM S0 w' φ O b∧w'.heap[b]?=w.heap[b]?:=fun b h=>⟨⟨by have:=h.1;omega,h.2⟩,hb b h.1 h.2.1⟩
 have hL:∀id e m g,az s.H φ id=some (e,m,some g)->aV w' g=aV w g:=by
  intro id e m g hi
  obtain ⟨r,-,-,-,cp⟩:=aO hi
  unfold aV;rw [hb g (h.cU id g cp).2 (h.apart id g cp)]
 refine ⟨h.jL,h.jO,⟨HW.trans h.cV.os,ur.trans h.cV.tape,uu.trans h.cV.output,Nat.le_trans h.cV.size dq,fun k hk hx=>?_,h.cV.g0,h.cV.gx⟩,fun i av hi=>(h.cB i av hi).mono (fun _ _ h=>h) hF hL,fun id r hr=>?_,h.only,h.inj,fun id g hg=>⟨(h.cU id g hg).1,Nat.lt_of_lt_of_le (h.cU id g hg).2 dq⟩,h.apart,h.new⟩
 ·rw [hb k (by have:=h.cV.size;omega) (fun hm=>by rcases hO k hm with h|h;omega;exact hx h)]
  exact h.cV.block k hk hx
 ·have aN:=h.rows id r hr
  unfold bN at aN ⊢
  cases cp:φ id with
  | none=>rw [cp] at aN;exact aN
  | some g =>
   rw [cp] at aN
   obtain ⟨cur,te,fr,hg,hf,hl,mI,hc⟩:=aN
   refine ⟨cur,te,fr,(hb g (h.cU id g cp).2 (h.apart id g cp)).trans hg,hf,hl,mI,fun j u x hu hx=>?_⟩
   have bu:=hc j u x hu hx
   unfold bh at bu ⊢
   cases hp:r.pure with
   | true=>rw [hp] at bu;exact bu.mono hF
   | false=>rw [hp] at bu;exact bu.mono (fun _ _ h=>h) hF hL
theorem aG.await (h:aG S0 w0 n O s a w φ) (g:Nat) (hg:w.heap.size≤g):aG S0 w0 n (g::O) s a w φ:=by
 have hF:∀b,aM S0 w φ O b->aM S0 w φ (g::O) b∧w.heap[b]?=w.heap[b]?:=fun b h=>⟨⟨h.1,by simp only [List.mem_cons,not_or];exact ⟨by have:=h.1;omega,h.2.1⟩,h.2.2⟩,rfl⟩
 have hL:∀id e m g,az s.H φ id=some (e,m,some g)->aV w g=aV w g:=fun _ _ _ _ _=>rfl
 refine ⟨h.jL,h.jO,h.cV,fun i av hi=>(h.cB i av hi).mono (fun _ _ h=>h) hF hL,fun id r hr=>?_,h.only,h.inj,h.cU,fun id g' i6=>?_,h.new⟩
 ·have aN:=h.rows id r hr
  unfold bN at aN ⊢
  cases cp:φ id with
  | none=>rw [cp] at aN;exact aN
  | some g =>
   rw [cp] at aN
   obtain ⟨cur,te,fr,hg,hf,hl,mI,hc⟩:=aN
   refine ⟨cur,te,fr,hg,hf,hl,mI,fun j u x hu hx=>?_⟩
   have bu:=hc j u x hu hx
   unfold bh at bu ⊢
   cases hp:r.pure with
   | true=>rw [hp] at bu;exact bu.mono hF
   | false=>rw [hp] at bu;exact bu.mono (fun _ _ h=>h) hF hL
 ·simp only [List.mem_cons,not_or]
  exact ⟨by have:=(h.cU id g' i6).2;omega,h.apart id g' i6⟩
theorem q_ {id g:Nat} (hid:φ id=none) (b:Nat):aM S0 w φ (g::O) b↔aM S0 w (fD φ id g) O b:=by
 unfold aM fD
 constructor
 ·rintro ⟨h1,h2,h3,h4⟩
  simp only [List.mem_cons,not_or] at h2
  refine ⟨h1,h2.2,fun i hi=>?_,h4⟩
  split at hi
  ·injection hi with hi;exact h2.1 hi.symm
  ·exact h3 i hi
 ·rintro ⟨h1,h2,h3,h4⟩
  refine ⟨h1,?_,fun i hi=>?_,h4⟩
  ·simp only [List.mem_cons,not_or]
   exact ⟨fun e=>h3 id (by rw [if_pos rfl,e]),h2⟩
  ·by_cases e:i=id
   ·subst e;rw [hid] at hi;cases hi
   ·exact h3 i (by rw [if_neg e];exact hi)
theorem aG.wQ {g id:Nat} {r:Row} (h:aG S0 w0 n (g::O) s a w φ) (AA:P7 S0 w0 id g) (N7:g<w.heap.size) (Pt:g ∉ O) (hid:look s.H id=none)
  (hr:bN (az s.H φ) (aM S0 w φ (g::O)) w (some g) r):aG S0 w0 n O ⟨s.F,(id,r)::s.H⟩ a w (fD φ id g):=by
 have cp:=h.only id hid
 have hF:∀b,aM S0 w φ (g::O) b->aM S0 w (fD φ id g) O b∧w.heap[b]?=w.heap[b]?:=fun b hb=>⟨(q_ cp b).1 hb,rfl⟩
 have hI:∀i x,az s.H φ i=some x->az ((id,r)::s.H) (fD φ id g) i=some x:=by
  intro i x hi
  obtain ⟨e,m,b⟩:=x
  obtain ⟨q,hl,he,hm,hb⟩:=aO hi
  have cT:id≠i:=fun e=>by subst e;rw [hid] at hl;cases hl
  rw [bq (r:=q) (by rw [aD,if_neg cT,hl])]
  unfold fD;rw [if_neg (Ne.symm cT),he,hm,hb]
 have hL:∀id e m g,az s.H φ id=some (e,m,some g)->aV w g=aV w g:=fun _ _ _ _ _=>rfl
 have aN:∀b q,bN (az s.H φ) (aM S0 w φ (g::O)) w b q->bN (az ((id,r)::s.H) (fD φ id g)) (aM S0 w (fD φ id g) O) w b q:=by
  intro b q hq
  unfold bN at hq ⊢
  cases b with
  | none=>exact hq
  | some g' =>
   obtain ⟨cur,te,fr,hg,hf,hl,mI,hc⟩:=hq
   refine ⟨cur,te,fr,hg,hf,hl,mI,fun j u x hu hx=>?_⟩
   have bu:=hc j u x hu hx
   unfold bh at bu ⊢
   cases hp:q.pure with
   | true=>rw [hp] at bu;exact bu.mono hF
   | false=>rw [hp] at bu;exact bu.mono hI hF hL
 refine ⟨h.jL,h.jO,h.cV,fun i av hi=>(h.cB i av hi).mono hI hF hL,fun i q hq=>?_,fun i hi=>?_,fun i j g' hi hj=>?_,fun i g' hi=>?_,fun i g' hi=>?_,h.new⟩
 ·rw [aD] at hq
  by_cases e:id=i
  ·rw [if_pos e] at hq;injection hq with hq;subst hq;subst e
   have:fD φ id g id=some g:=by unfold fD;rw [if_pos rfl]
   rw [this];exact aN _ _ hr
  ·rw [if_neg e] at hq
   have:fD φ id g i=φ i:=by unfold fD;rw [if_neg (Ne.symm e)]
   rw [this];exact aN _ _ (h.rows i q hq)
 ·rw [aD] at hi
  by_cases e:id=i
  ·rw [if_pos e] at hi;cases hi
  ·rw [if_neg e] at hi
   unfold fD;rw [if_neg (Ne.symm e)];exact h.only i hi
 ·have cT:∀i,φ i=some g'->g'≠g:=fun i hi e=>h.apart i g' hi (by rw [e];simp)
  unfold fD at hi hj
  split at hi<;>split at hj
  ·omega
  ·injection hi with hi;exact absurd hi.symm (cT j hj)
  ·injection hj with hj;exact absurd hj.symm (cT i hi)
  ·exact h.inj i j g' hi hj
 ·unfold fD at hi
  split at hi
  ·rename_i e;injection hi with hi;subst hi;exact ⟨e ▸ AA,N7⟩
  ·exact h.cU i g' hi
 ·unfold fD at hi
  split at hi
  ·injection hi with hi;subst hi;exact Pt
  ·exact fun hm=>h.apart i g' hi (by simp [hm])
theorem aG.rB (h:aG S0 w0 n O s a w φ) {id:Nat} {r:Row} (hid:look s.H id=none) (hr:r.cells= []):aG S0 w0 n O ⟨s.F,(id,r)::s.H⟩ a w φ:=by
 have cp:=h.only id hid
 have hI:∀i x,az s.H φ i=some x->az ((id,r)::s.H) φ i=some x:=by
  intro i x hi
  obtain ⟨e,m,b⟩:=x
  obtain ⟨q,hl,he,hm,hb⟩:=aO hi
  have cT:id≠i:=fun e=>by subst e;rw [hid] at hl;cases hl
  rw [bq (r:=q) (by rw [aD,if_neg cT,hl]),he,hm,hb]
 have hF:∀b,aM S0 w φ O b->aM S0 w φ O b∧w.heap[b]?=w.heap[b]?:=fun b hb=>⟨hb,rfl⟩
 have hL:∀id e m g,az s.H φ id=some (e,m,some g)->aV w g=aV w g:=fun _ _ _ _ _=>rfl
 refine ⟨h.jL,h.jO,h.cV,fun i av hi=>(h.cB i av hi).mono hI hF hL,fun i q hq=>?_,fun i hi=>?_,h.inj,h.cU,h.apart,h.new⟩
 ·rw [aD] at hq
  by_cases e:id=i
  ·rw [if_pos e] at hq;injection hq with hq;subst hq;subst e
   rw [cp];exact hr
  ·rw [if_neg e] at hq
   have gM:=h.rows i q hq
   unfold bN at gM ⊢
   cases hb:φ i with
   | none=>rw [hb] at gM;exact gM
   | some g' =>
    rw [hb] at gM
    obtain ⟨cur,te,fr,hg,hf,hl,mI,hc⟩:=gM
    refine ⟨cur,te,fr,hg,hf,hl,mI,fun j u x hu hx=>?_⟩
    have bu:=hc j u x hu hx
    unfold bh at bu ⊢
    cases hp:q.pure with
    | true=>rw [hp] at bu;exact bu
    | false=>rw [hp] at bu;exact bu.mono hI hF hL
 ·rw [aD] at hi
  by_cases e:id=i
  ·rw [if_pos e] at hi;cases hi
  ·rw [if_neg e] at hi;exact h.only i hi
theorem aG.uK {g:Nat} (h:aG S0 w0 n (g::O) s a w φ):aG S0 w0 n O s a w φ:=by
 have hF:∀b,aM S0 w φ (g::O) b->aM S0 w φ O b∧w.heap[b]?=w.heap[b]?:=fun b h=>⟨⟨h.1,fun hm=>h.2.1 (by simp [hm]),h.2.2⟩,rfl⟩
 have hL:∀id e m g,az s.H φ id=some (e,m,some g)->aV w g=aV w g:=fun _ _ _ _ _=>rfl
 refine ⟨h.jL,h.jO,h.cV,fun i av hi=>(h.cB i av hi).mono (fun _ _ h=>h) hF hL,fun id r hr=>?_,h.only,h.inj,h.cU,fun id g' i6 hm=>h.apart id g' i6 (by simp [hm]),h.new⟩
 have aN:=h.rows id r hr
 unfold bN at aN ⊢
 cases cp:φ id with
 | none=>rw [cp] at aN;exact aN
 | some g =>
  rw [cp] at aN
  obtain ⟨cur,te,fr,hg,hf,hl,mI,hc⟩:=aN
  refine ⟨cur,te,fr,hg,hf,hl,mI,fun j u x hu hx=>?_⟩
  have bu:=hc j u x hu hx
  unfold bh at bu ⊢
  cases hp:r.pure with
  | true=>rw [hp] at bu;exact bu.mono hF
  | false=>rw [hp] at bu;exact bu.mono (fun _ _ h=>h) hF hL
theorem aG.Lq (h:aG S0 w0 n O s a w φ) {id:Nat} {r:Row} (hr:look s.H id=some r) (hp:r.pure=true):aG S0 w0 n O (gp id r s) a w (erase φ id):=by
 have hF:∀b,aM S0 w φ O b->aM S0 w (erase φ id) O b:=by
  intro b ⟨h1,h2,h3,h4⟩
  refine ⟨h1,h2,fun i hi=>?_,h4⟩
  unfold erase at hi
  split at hi
  ·cases hi
  ·exact h3 i hi
 have M6:∀b,aM S0 w φ O b->aM S0 w (erase φ id) O b∧w.heap[b]?=w.heap[b]?:=fun b hb=>⟨hF b hb,rfl⟩
 have aN:=h.rows id r hr
 have hI:=bq (φ:=φ) hr
 have ok:jQ (az s.H φ) (az (gp id r s).H (erase φ id)) (aM S0 w φ O) (aM S0 w (erase φ id) O) w (kX id r):=by
  refine ⟨fun v x hx h1 h2=>?_,fun _=>rfl,fun _=>rfl⟩
  have Qw:∀g,φ id=some g->aM S0 w (erase φ id) O g:=fun g hg=>⟨(h.cU id g hg).2,h.apart id g hg,fun i hi=>by
   unfold erase at hi
   split at hi
   ·cases hi
   ·rename_i cT;exact cT (h.inj i id g hi hg),h.new g (h.cU id g hg).1.2⟩
  have AD:∀g,φ id=some g-> ∃cur te fr,w.heap[g]?=some (.cells cur te fr)∧r.cells.length≤cur.size∧ ∀(j:Nat) u x,cur[j]?=some u->r.cells[j]?=some x->cA (aM S0 w (erase φ id) O) w u x:=by
   intro g hg
   have HS:=aN
   unfold bN at HS
   rw [hg] at HS
   obtain ⟨cur,te,fr,i6,hf,hl,-,hc⟩:=HS
   refine ⟨cur,te,fr,i6,hl,fun j u x hu hx=>?_⟩
   have:=hc j u x hu hx
   unfold bh at this;rw [hp] at this
   exact this.mono M6
  have DB:∀(l:List AV) (k j:Nat) (x:AV),(l.take k)[j]?=some x->l[j]?=some x:=by
   intro l k j x hx
   rw [List.getElem?_take] at hx
   split at hx
   ·exact hx
   ·cases hx
  cases hx with
  | rep h=>cases h with
   | val v=>exact .rep (.val v)
   | nil=>exact .rep .nil
   | agg vs cs _ _=>exact absurd rfl (h1 cs)
   | br vs cs _ _=>exact absurd rfl (h2 cs)
   | arr vs cs hl h=>exact .rep ((cA.arr vs cs hl h).mono M6)
   | sl A n c e us row hl hn hc hm ha h=>exact .rep ((cA.sl A n c e us row hl hn hc hm ha h).mono M6)
   | pt A n e us row hl hn hm ha h=>exact .rep ((cA.pt A n e us row hl hn hm ha h).mono M6)
   | ptr ad us row off hl hs ha h=>exact .rep ((cA.ptr ad us row off hl hs ha h).mono M6)
   | lB f vs cs hl h=>exact .rep ((cA.lB f vs cs hl h).mono M6)
  | agg vs cs _ _=>exact absurd rfl (h1 cs)
  | br vs cs _ _=>exact absurd rfl (h2 cs)
  | ref i e m g l c hi hm hc hx hs =>
   rcases bI i id with ⟨hb,e'⟩|⟨hb,e'⟩<;>simp only [kX,hb]
   ·subst e'
    rw [hI] at hi;injection hi with hi;injection hi with he hi;injection hi with LD hg
    obtain ⟨cur,te,fr,i6,hl,kU⟩:=AD g hg
    exact .rep (eX (r:=r) i6 (Qw g hg) r.cells 0 aj (by rw [LD,he];exact hm) hc hx _ (fun _=>rfl) (fun j u x hu hx=>kU j u x (by simpa using hu) hx))
   ·exact .ref i _ m g l c (kg id i r _ e' hi) hm hc hx hs
  | cC i e hi =>
   rcases bI i id with ⟨hb,e'⟩|⟨hb,e'⟩<;>simp only [kX,hb]
   ·subst e'
    rw [hI] at hi;injection hi with hi;injection hi with he hi;injection hi with LD hg
    have h0:r.cells= []:=List.length_eq_zero_iff.1 LD
    rw [h0]
    exact .rep (.sl none 0 0 _ [] [] rfl (by simp) (by simp) (by simp) (fun h=>by simp at h) (fun j u x hu=>by simp at hu))
   ·exact .cC i _ (kg id i r _ e' hi)
  | pre i k e m g l c hi hn hm hc hx hs =>
   rcases bI i id with ⟨hb,e'⟩|⟨hb,e'⟩<;>simp only [kX,hb]
   ·subst e'
    rw [hI] at hi;injection hi with hi;injection hi with he hi;injection hi with LD hg
    obtain ⟨cur,te,fr,i6,hl,kU⟩:=AD g hg
    exact .rep (eX (r:=r) i6 (Qw g hg) (r.cells.take k) 0 (by rw [List.length_take];omega) (by rw [List.length_take,he,←hn];omega) hc hx _ (fun _=>rfl) (fun j u x hu hx=>kU j u x (by simpa using hu) (DB _ _ _ _ hx)))
   ·exact .pre i k _ m g l c (kg id i r _ e' hi) hn hm hc hx hs
  | dw i e hi =>
   rcases bI i id with ⟨hb,e'⟩|⟨hb,e'⟩<;>simp only [kX,hb]
   ·simp only [List.take_zero]
    exact .rep (.sl none 0 0 _ [] [] rfl (by simp) (by simp) (by simp) (fun h=>by simp at h) (fun j u x hu=>by simp at hu))
   ·exact .dw i _ (kg id i r _ e' hi)
  | jl i off k e m l c g A hi hn hm hc hx ha =>
   rcases bI i id with ⟨hb,e'⟩|⟨hb,e'⟩<;>simp only [kX,hb]
   ·subst e'
    rw [hI] at hi;injection hi with hi;injection hi with he hi;injection hi with LD hg
    have hlen:((r.cells.drop off).take k).length=k:=by rw [List.length_take,List.length_drop];omega
    by_cases hk:0<k
    ·obtain ⟨b,kF,hA⟩:=ha hk
     rw [kF] at hg
     obtain ⟨cur,te,fr,i6,hl,kU⟩:=AD b hg
     exact .rep (eX (r:=r) i6 (Qw b hg) ((r.cells.drop off).take k) off (by rw [hlen];omega) (by rw [hlen,he,←hn]) hc hx _ (fun _=>hA) (fun j u x hu hx=>kU (off+j) u x hu (by have:=DB _ _ _ _ hx;rw [List.getElem?_drop] at this;exact this)))
    ·have h0:(r.cells.drop off).take k= []:=List.length_eq_zero_iff.1 aj
     rw [h0]
     exact .rep (.sl A l c r.e [] [] rfl (by rw [he];simp;omega) hc hx (fun h=>by simp at h) (fun j u x hu=>by simp at hu))
   ·exact .jl i off k _ m l c g A (kg id i r _ e' hi) hn hm hc hx ha
  | addr i off e m g hi =>
   rcases bI i id with ⟨hb,e'⟩|⟨hb,e'⟩<;>simp only [kX,hb]
   ·subst e'
    rw [hI] at hi;injection hi with hi;injection hi with he hi;injection hi with LD hg
    obtain ⟨cur,te,fr,i6,hl,kU⟩:=AD g hg
    exact .rep (oU i6 (Qw g hg) r.cells hl kU)
   ·exact .addr i off _ m g (kg id i r _ e' hi)
  | dead v=>exact .dead _
 refine ⟨h.jL,h.jO,h.cV,fun i av hi=>?_,fun i q hq=>?_,fun i hi=>?_,fun i j g hi hj=>?_,fun i g hi=>?_,fun i g hi=>?_,h.new⟩
 ·unfold gp at hi
  rw [cw] at hi
  cases hl:look s.F i with
  | none=>rw [hl] at hi;cases hi
  | some x =>
   rw [hl] at hi;injection hi with hi;subst hi
   exact ok.two (h.cB i x hl) (fun _=>rfl) (zg id r) (fun _=>rfl) (zf id r)
 ·have il:=hq
  unfold gp at il
  rw [cw,bH] at il
  by_cases cT:id=i
  ·rw [if_pos cT] at il;cases il
  ·rw [if_neg cT] at il
   cases hl:look s.H i with
   | none=>rw [hl] at il;cases il
   | some p =>
    rw [hl] at il;injection il with il;subst il
    have gM:=h.rows i p hl
    have Cb:erase φ id i=φ i:=by unfold erase;rw [if_neg (Ne.symm cT)]
    rw [Cb]
    unfold bN at gM ⊢
    cases hb:φ i with
    | none =>
     rw [hb] at gM
     have:=(gn id r p).2.1
     simp only at gM ⊢
     rw [gM] at this;exact List.length_eq_zero_iff.1 this
    | some g =>
     rw [hb] at gM
     obtain ⟨cur,te,fr,hg,hf,hlen,mI,hc⟩:=gM
     refine ⟨cur,te,fr,hg,hf,by rw [(gn id r p).2.1];exact hlen,by rw [(gn id r p).2.1,(gn id r p).2.2.2];exact mI,fun j u x hu hx=>?_⟩
     rw [(gn id r p).2.2.1]
     unfold bh
     cases Ea:p.pure with
     | true =>
      have:gD id r p=p:=by unfold gD;rw [Ea]
      rw [this] at hx
      have:=hc j u x hu hx
      unfold bh at this;rw [Ea] at this
      exact this.mono M6
     | false =>
      have:(gD id r p).cells=p.cells.map (kX id r):=by unfold gD;rw [Ea]
      rw [this,List.getElem?_map] at hx
      cases hj:p.cells[j]? with
      | none=>rw [hj] at hx;cases hx
      | some y =>
       rw [hj] at hx;injection hx with hx;subst hx
       have:=hc j u y hu hj
       unfold bh at this;rw [Ea] at this
       exact ok.all this
 ·unfold gp at hi
  rw [cw,bH] at hi
  unfold erase
  by_cases cT:id=i
  ·rw [if_pos cT.symm]
  ·rw [if_neg cT] at hi
   rw [if_neg (Ne.symm cT)]
   refine h.only i ?_
   cases hl:look s.H i with
   | none=>rfl
   | some r=>rw [hl] at hi;cases hi
 ·unfold erase at hi hj
  split at hi
  ·cases hi
  ·split at hj
   ·cases hj
   ·exact h.inj i j g hi hj
 ·unfold erase at hi
  split at hi
  ·cases hi
  ·exact h.cU i g hi
 ·unfold erase at hi
  split at hi
  ·cases hi
  ·exact h.apart i g hi
end
def bx:List Prop->Prop
 | []=>True
 | p::l=>p∧bx l
structure Hint where
 av:Option AV:=none
 k:Nat:=0
 m:Nat:=0
 b:Bool:=true
 g:Bool:=true
 ln:List (Nat×Nat):=[]
 ho:List (Nat×Row):=[]
def jZ {α:Type} (P:Program):Sem α->Option α
 | .pure a=>some a
 | .program k=>jZ P (k P)
 | .mark _ k=>jZ P k
 | _=>none
theorem fJ {α:Type} {P:Program} (w:World):∀ {x:Sem α} {a:α},jZ P x=some a->x.run P w= .ok a w
 | .pure a,_,h=>by injection h with h;subst h;rfl
 | .program k,a,h=>by show (k P).run P w=_;exact fJ w h
 | .mark _ k,a,h=>by show k.run P w=_;exact fJ w h
 | .load ..,_,h| .store ..,_,h| .new ..,_,h| .shape ..,_,h| .freeze ..,_,h| .frozen ..,_,h| .getObj ..,_,h| .setObj ..,_,h| .choose ..,_,h| .sys ..,_,h| .halt ..,_,h=>by cases h
def bB:Value->AV
 | .slice none 0 0=>.nil
 | v=>.val v
def yq:Value->AV
 | .agg cs=>.agg (cs.toList.map bB)
 | v=>bB v
def bp (s:AS):Operand->AV
 | .tmp t=>jN s t
 | .const v=>yq v
 | .global _=>.dead
 | .func f=>.val (.func (.func f) #[] #[])
section
variable {I:Info} {S:Nat->Prop} {w:World}
theorem fP (v:Value):cA S w v (bB v):=by
 unfold bB
 split
 ·exact .nil
 ·exact .val _
theorem EW (v:Value):cA S w v (yq v):=by
 unfold yq
 split
 ·rename_i cs
  have:=cA.agg (S:=S) (w:=w) cs.toList (cs.toList.map bB) (by simp) (fun j v c hv hc=>by
   rw [List.getElem?_map,hv] at hc
   injection hc with hc;subst hc;exact fP v)
  simpa using this
 ·exact fP _
end
section
variable {S0:bm} {w0 w:World} {n:Nat} {O:List Nat} {s:AS} {a:Act} {φ:Nat->Option Nat} {P:Program}
theorem aG.bp (h:aG S0 w0 n O s a w φ) (x:Operand):Den (az s.H φ) (aM S0 w φ O) w (a.eval x) (bp s x):=by
 cases x with
 | tmp t=>exact h.get t
 | const v=>exact .rep (EW v)
 | global g=>exact .dead _
 | func f=>exact .rep (.val _)
end
theorem bJ {I:Info} {S:Nat->Prop} {w:World} {v u:Value} (h:Den I S w v (.val u)):v=u:=by
 cases h with|rep h=>cases h;rfl
def c_ (P:Program) (s:AS) (o:Oper) (x:AV) (C:List Prop):Prop :=
 bx C-> ∀S0 w0 n O a w φ,aG S0 w0 n O s a w φ-> ∃v,(execOp a.eval o).run P w= .ok (.value v) w∧Den (az s.H φ) (aM S0 w φ O) w v x
def fin (h:Hint) (r:AV×List Prop):AV×List Prop:=match h.av with|none=>r|some y=>(y,(r.1=y)::r.2)
theorem gw {P:Program} {s:AS} {o:Oper} {h:Hint} {r:AV×List Prop} (hr:c_ P s o r.1 r.2):c_ P s o (fin h r).1 (fin h r).2:=by
 unfold fin
 split
 ·exact hr
 ·rename_i y _
  intro hC
  obtain ⟨rfl,hC⟩:=hC
  exact hr hC
def ea (P:Program) (t:TypeId):Option Nat:=(P.info? t).map (·.size)
def cD (P:Program) (t:TypeId):Bool:=match P.underlying t with|some (.struct _)|some (.array _ _)=>true|_=>false
def HH (P:Program) (t:TypeId):Bool:=match P.underlying t with|some (.array _ _)=>true|_=>false
def TF (P:Program) (t:TypeId):Option TypeId:=match P.underlying t with|some (.slice e)=>some e|_=>none
section
variable {P:Program} {w:World}
theorem run_sizeOf {t:TypeId} {k:Nat} (h:ea P t=some k):(sizeOf t).run P w= .ok k w:=by
 unfold ea at h
 cases hi:P.info? t with
 | none=>rw [hi] at h;cases h
 | some i=>rw [hi] at h;injection h with h;simp [sizeOf,typeInfo,hi,h]
theorem ix {t:TypeId} (hu:∃d,P.underlying t=some d):(isAgg t).run P w= .ok (cD P t) w:=by
 obtain ⟨d,hd⟩:=hu
 unfold isAgg cD
 simp only [Sem.run_bind,run_underlying hd,Result.andThen_ok,hd]
 cases d<;>rfl
end
def IP (P:Program) (op:BinOp) (t:TypeId) (x y:Operand) (u v:Value):Option (AV×List Prop) :=
 match op,u,v with
 | .quo,.int k a,.int k' b=>if k=k' then some (.val (.int k (k.wrap (a.tdiv b))),[b≠0]) else none
 | .rem,.int k a,.int k' b=>if k=k' then some (.val (.int k (a.tmod b)),[b≠0]) else none
 | .shl,.int k a,.int _ b=>some (.val (.int k (k.wrap (a*2^min b.toNat k.bits))),[0≤b])
 | .shr,.int k a,.int _ b=>some (.val (.int k (a.fdiv (2^min b.toNat k.bits))),[0≤b])
 | .add,.string a,.string b=>some (.val (.string (a++b)),[a.size+b.size≤9223372036854775807])
 | op,u,v=>match jZ P (do eqGuard op t x y u v;binOp op t u v) with|some z=>some (.val z,[])|none=>none
theorem IM {P:Program} {s:AS} {o:Oper} {op:BinOp} {t t':TypeId} {x y:Operand} {u v:Value} {r:AV×List Prop} (ho:o.op= .binOp op t x y t') (hx:bp s x= .val u) (hy:bp s y= .val v) (h:IP P op t x y u v=some r):c_ P s o r.1 r.2:=by
 intro hC S0 w0 n O a w φ hs
 have ex:a.eval x=u:=bJ (hx ▸ hs.bp x)
 have ey:a.eval y=v:=bJ (hy ▸ hs.bp y)
 unfold execOp
 simp only [ho,ex,ey]
 unfold IP at h
 split at h
 ·split at h
  ·rename_i hk
   injection h with h;subst h;subst hk
   have hb:=hC.1
   refine ⟨_,?_,.rep (.val _)⟩
   simp [eqGuard,binOp,Op.intDiv,hb]
  ·cases h
 ·split at h
  ·rename_i hk
   injection h with h;subst h;subst hk
   have hb:=hC.1
   refine ⟨_,?_,.rep (.val _)⟩
   simp [eqGuard,binOp,Op.intDiv,hb]
  ·cases h
 ·injection h with h;subst h
  have hb:¬(_:Int)<0:=Int.not_lt.2 hC.1
  refine ⟨_,?_,.rep (.val _)⟩
  simp [eqGuard,binOp,Op.shift,hb]
 ·injection h with h;subst h
  have hb:¬(_:Int)<0:=Int.not_lt.2 hC.1
  refine ⟨_,?_,.rep (.val _)⟩
  simp [eqGuard,binOp,Op.shift,hb]
 ·injection h with h;subst h
  have hb:¬(IntKind.i64.max<((_:Nat):Int)):=fun q=>by
   have h1:=hC.1
   have h2:IntKind.i64.max=9223372036854775807:=rfl
   rw [h2] at q
   exact absurd (Int.ofNat_le.2 h1) (Int.not_le.2 q)
  refine ⟨_,?_,.rep (.val _)⟩
  simp only [eqGuard,binOp,Op.stringOp,gt_iff_lt,if_neg hb]
  simp
 ·split at h
  ·rename_i z hz
   injection h with h;subst h
   refine ⟨z,?_,.rep (.val _)⟩
   rw [Sem.run_bind,fJ w hz];rfl
  ·cases h
def Na (P:Program) (op:UnOp) (u:Value):Option (AV×List Prop):=match jZ P (Op.unary op u) with|some z=>some (.val z,[])|none=>none
theorem KZ {P:Program} {s:AS} {o:Oper} {op:UnOp} {t:TypeId} {x:Operand} {u:Value} {r:AV×List Prop} (ho:o.op= .unOp op t x) (hx:bp s x= .val u) (h:Na P op u=some r):c_ P s o r.1 r.2:=by
 intro hC S0 w0 n O a w φ hs
 have ex:a.eval x=u:=bJ (hx ▸ hs.bp x)
 unfold execOp
 simp only [ho,ex]
 unfold Na at h
 split at h
 ·rename_i z hz
  injection h with h;subst h
  refine ⟨z,?_,.rep (.val _)⟩
  rw [Sem.run_bind,fJ w hz];rfl
 ·cases h
def jA (s:AS):AV->Option AV
 | .ref id=>match look s.H id with|some r=>(match r.pure with|true=>some (.sl r.e r.cells)|false=>none)|none=>none
 | .pre id n=>match look s.H id with|some r=>(match r.pure with|true=>some (.sl r.e (r.cells.take n))|false=>none)|none=>none
 | .jl id o n=>match look s.H id with|some r=>(match r.pure with|true=>some (.sl r.e ((r.cells.drop o).take n))|false=>none)|none=>none
 | .addr id o=>match look s.H id with|some r=>(match r.pure with|true=>some (.ptr r.cells o)|false=>none)|none=>none
 | .agg _=>none
 | .br _=>none
 | .dead=>none
 | .own _ _=>none
 | .box _=>none
 | x=>some x
def ow (s:AS):List AV->Option (List AV)
 | []=>some []
 | x::l=>match jA s x,ow s l with|some y,some m=>some (y::m)|_,_=>none
def view (s:AS):AV->Option AV
 | .agg cs=>match ow s cs with|some l=>some (.agg l)|none=>none
 | x=>jA s x
section
variable {S0:bm} {w0 w:World} {n:Nat} {O:List Nat} {s:AS} {a:Act} {φ:Nat->Option Nat} {P:Program}
theorem kv (h:aG S0 w0 n O s a w φ) {id:Nat} {r:Row} {g:Nat} (hr:look s.H id=some r) (hp:r.pure=true) (hg:φ id=some g) :
  ∃cur te fr,w.heap[g]?=some (.cells cur te fr)∧(∀j,j<cur.size-> ¬(fr.1≤j∧j<fr.2))∧r.cells.length≤cur.size∧ ∀(j:Nat) u x,cur[j]?=some u->r.cells[j]?=some x->cA (aM S0 w φ O) w u x:=by
 have aN:=h.rows id r hr
 unfold bN at aN
 rw [hg] at aN
 obtain ⟨cur,te,fr,i6,hf,hl,-,hc⟩:=aN
 refine ⟨cur,te,fr,i6,hf,hl,fun j u x hu hx=>?_⟩
 have:=hc j u x hu hx
 unfold bh at this;rw [hp] at this
 exact this
theorem p8 (b:Nat) (h:aM S0 w φ O b):b<w.heap.size∧w.heap[b]?=w.heap[b]?:=⟨h.1,rfl⟩
theorem bY {α:Type} (l:List α) (k j:Nat) (x:α) (hx:(l.take k)[j]?=some x):l[j]?=some x:=by
 rw [List.getElem?_take] at hx
 split at hx
 ·exact hx
 ·cases hx
theorem iL {S:Nat->Prop} (A:Option Addr) (l c e:Nat) (hn:0=e*l) (hc:l≤c) (hm:c≤maxLen):cA S w (.slice A l c) (.sl e []) :=
 .sl A l c e [] [] rfl hn hc hm (fun h=>by simp at h) (fun j u x hu=>by simp at hu)
theorem zc (h:aG S0 w0 n O s a w φ) {v:Value} {x y:AV} (hx:Den (az s.H φ) (aM S0 w φ O) w v x) (hv:jA s x=some y):cA (fun b=>b<w.heap.size) w v y:=by
 cases hx with
 | rep h =>
  have:=h.mono (p8 (w:=w) (φ:=φ) (O:=O))
  cases h<;>simp [jA] at hv<;>subst hv<;>exact this
 | agg vs cs _ _=>simp [jA] at hv
 | br vs cs _ _=>simp [jA] at hv
 | dead v=>simp [jA] at hv
 | ref id e m g l c hi hm hc hx hs =>
  obtain ⟨r,hr,he,l0,cp⟩:=aO hi
  simp only [jA,hr] at hv
  cases hp:r.pure with
  | false=>rw [hp] at hv;cases hv
  | true =>
   rw [hp] at hv;injection hv with hv;subst hv
   obtain ⟨cur,te,fr,hg,hf,hl,kU⟩:=kv h hr hp cp
   exact eX (r:=r) hg (h.cU id g cp).2 r.cells 0 aj (by rw [l0,he];exact hm) hc hx _ (fun _=>rfl) (fun j u x hu hx=>(kU j u x (by simpa using hu) hx).mono p8)
 | cC id e hi =>
  obtain ⟨r,hr,he,l0,cp⟩:=aO hi
  simp only [jA,hr] at hv
  cases hp:r.pure with
  | false=>rw [hp] at hv;cases hv
  | true =>
   rw [hp] at hv;injection hv with hv;subst hv
   rw [List.length_eq_zero_iff.1 l0]
   exact iL _ _ _ _ (by simp) (by simp) (by simp)
 | pre id k e m g l c hi hn hm hc hx hs =>
  obtain ⟨r,hr,he,l0,cp⟩:=aO hi
  simp only [jA,hr] at hv
  cases hp:r.pure with
  | false=>rw [hp] at hv;cases hv
  | true =>
   rw [hp] at hv;injection hv with hv;subst hv
   obtain ⟨cur,te,fr,hg,hf,hl,kU⟩:=kv h hr hp cp
   exact eX (r:=r) hg (h.cU id g cp).2 (r.cells.take k) 0 (by rw [List.length_take];omega) (by rw [List.length_take,he,←hn];omega) hc hx _ (fun _=>rfl) (fun j u x hu hx=>(kU j u x (by simpa using hu) (bY _ _ _ _ hx)).mono p8)
 | dw id e hi =>
  obtain ⟨r,hr,he,l0,cp⟩:=aO hi
  simp only [jA,hr] at hv
  cases hp:r.pure with
  | false=>rw [hp] at hv;cases hv
  | true =>
   rw [hp] at hv;injection hv with hv;subst hv
   simp only [List.take_zero]
   exact iL _ _ _ _ (by simp) (by simp) (by simp)
 | jl id off k e m l c g A hi hn hm hc hx ha =>
  obtain ⟨r,hr,he,l0,cp⟩:=aO hi
  simp only [jA,hr] at hv
  cases hp:r.pure with
  | false=>rw [hp] at hv;cases hv
  | true =>
   rw [hp] at hv;injection hv with hv;subst hv
   have hlen:((r.cells.drop off).take k).length=k:=by rw [List.length_take,List.length_drop];omega
   by_cases hk:0<k
   ·obtain ⟨b,hb,hA⟩:=ha hk
    rw [hb] at cp
    obtain ⟨cur,te,fr,hg,hf,hl,kU⟩:=kv h hr hp cp
    exact eX (r:=r) hg (h.cU id b cp).2 ((r.cells.drop off).take k) off (by rw [hlen];omega) (by rw [hlen,he,←hn]) hc hx _ (fun _=>hA) (fun j u x hu hx=>(kU (off+j) u x hu (by have:=bY _ _ _ _ hx;rw [List.getElem?_drop] at this;exact this)).mono p8)
   ·rw [show (r.cells.drop off).take k= [] from List.length_eq_zero_iff.1 aj]
    exact iL _ _ _ _ (by rw [he];omega) hc hx
 | addr id off e m g hi =>
  obtain ⟨r,hr,he,l0,cp⟩:=aO hi
  simp only [jA,hr] at hv
  cases hp:r.pure with
  | false=>rw [hp] at hv;cases hv
  | true =>
   rw [hp] at hv;injection hv with hv;subst hv
   obtain ⟨cur,te,fr,hg,hf,hl,kU⟩:=kv h hr hp cp
   exact oU hg (h.cU id g cp).2 r.cells hl (fun j u x hu hx=>(kU j u x hu hx).mono p8)
theorem zb (h:aG S0 w0 n O s a w φ):∀(cs l:List AV) (vs:List Value),ow s cs=some l->vs.length=cs.length->(∀(j:Nat) v c,vs[j]?=some v->cs[j]?=some c->Den (az s.H φ) (aM S0 w φ O) w v c) ->
  l.length=cs.length∧ ∀(j:Nat) v c,vs[j]?=some v->l[j]?=some c->cA (fun b=>b<w.heap.size) w v c
 | [],l,vs,hv,hl,hd=>by simp [ow] at hv;subst hv;exact ⟨rfl,fun j v c _ hc=>by simp at hc⟩
 | x::cs,l,[],hv,hl,hd=>by simp at hl
 | x::cs,l,v0::vs,hv,hl,hd=>by
  simp only [ow] at hv
  cases h1:jA s x with
  | none=>rw [h1] at hv;cases hv
  | some y =>
   cases h2:ow s cs with
   | none=>rw [h1,h2] at hv;cases hv
   | some m =>
    rw [h1,h2] at hv;injection hv with hv;subst hv
    obtain ⟨e1,e2⟩:=zb h cs m vs h2 (by simpa using hl) fun j v c hv hc=>hd (j+1) v c (by simpa using hv) (by simpa using hc)
    refine ⟨by simp [e1],fun j v c hv hc=>?_⟩
    cases j with
    | zero=>simp at hv hc;subst hv;subst hc;exact zc h (hd 0 _ _ rfl rfl) h1
    | succ j=>exact e2 j v c (by simpa using hv) (by simpa using hc)
theorem wX (h:aG S0 w0 n O s a w φ) {v:Value} {x y:AV} (hx:Den (az s.H φ) (aM S0 w φ O) w v x) (hv:view s x=some y):cA (fun b=>b<w.heap.size) w v y:=by
 by_cases hc:∃cs,x= .agg cs
 ·obtain ⟨cs,rfl⟩:=hc
  obtain ⟨vs,rfl,hl,hd⟩:=ka hx
  simp only [view] at hv
  cases h1:ow s cs with
  | none=>rw [h1] at hv;cases hv
  | some l =>
   rw [h1] at hv;injection hv with hv;subst hv
   obtain ⟨e1,e2⟩:=zb h cs l vs h1 hl hd
   exact .agg vs l aj e2
 ·have:view s x=jA s x:=by
   cases x with
   | agg cs=>exact absurd ⟨cs,rfl⟩ hc
   | _=>rfl
  rw [this] at hv
  exact zc h hx hv
end
def ag (bs:List UInt8):List AV:=bs.map fun c=>.val (.int .u8 (bv c))
def ah (l:List UInt64):List AV:=l.map fun c=>.val (.int .u64 (wv c))
def ax (l:List Int):List AV:=l.map fun c=>.val (.int .i64 c)
theorem aC (l:List UInt8):(ag l).length=l.length:=by simp [ag]
theorem aB (l:List UInt64):(ah l).length=l.length:=by simp [ah]
theorem kf (l:List Int):(ax l).length=l.length:=by simp [ax]
theorem v_ {S:Nat->Prop} {w:World} {v:Value} {bs:List UInt8} (h:cA S w v (.sl 1 (ag bs))) (hS:∀b,S b->b<w.heap.size):iX w v (sf bs):=by
 cases h with
 | sl A n c e us row hl hn hc hm ha h =>
  have Ff:us=sf bs:=by
   apply List.ext_getElem?
   intro j
   cases hu:us[j]? with
   | none =>
    have:us.length≤j:=List.getElem?_eq_none_iff.1 hu
    rw [List.getElem?_eq_none (by rw [gf];rw [aC] at hl;omega)]
   | some u =>
    have hj:j<bs.length:=by have:=(List.getElem?_eq_some_iff.1 hu).1;rw [hl,aC] at this;exact this
    have hx:(ag bs)[j]?=some (.val (.int .u8 (bv bs[j]))):=by simp [ag,hj]
    have:=h j u _ hu hx
    cases this
    simp [sf,hj]
  subst Ff
  rw [aC] at hn ha
  have sr:bs.length=n:=aj
  subst sr
  refine ⟨A,c,by rw [gf],by rw [gf];exact hc,hm,by rw [gf],fun h0=>?_⟩
  rw [gf] at h0
  obtain ⟨ad,e,hs,bu⟩:=ha h0
  exact ⟨ad,e,hS _ hs,bu⟩
def CO (P:Program) (s:AS) (src dst:TypeId) (x:AV) (h:Hint):Option (AV×List Prop) :=
 match x with
 | .val u=>(match jZ P (convert src dst u) with|some z=>some (fin h (.val z,[]))|none=>none)
 | x =>
  match P.underlying src,P.underlying dst,view s x,h.av with
  | some (.slice e),some .string,some (.sl 1 row),some (.val (.string b)) =>
   (match P.underlying e with|some (.int .u8)=>some (.val (.string b),[row=ag b.data.toList])|_=>none)
  | _,_,_,_=>none
theorem FH {P:Program} {s:AS} {o:Oper} {src dst:TypeId} {x:Operand} {h:Hint} {r:AV×List Prop} (ho:o.op= .convert src dst x) (hr:CO P s src dst (bp s x) h=some r):c_ P s o r.1 r.2:=by
 unfold CO at hr
 split at hr
 ·rename_i u hx
  split at hr
  ·rename_i z hz
   injection hr with hr;subst hr
   apply gw
   intro hC S0 w0 n O a w φ hs
   have ex:a.eval x=u:=bJ (hx ▸ hs.bp x)
   unfold execOp
   simp only [ho,ex]
   refine ⟨z,?_,.rep (.val _)⟩
   rw [Sem.run_bind,fJ w hz];rfl
  ·cases hr
 ·split at hr
  ·rename_i e row b h1 h2 h3 h4
   split at hr
   ·rename_i h5
    injection hr with hr;subst hr
    intro hC S0 w0 n O a w φ hs
    have hv:=wX hs (hs.bp x) h3
    rw [hC.1] at hv
    have ct:=vm (P:=P) (v_ hv (fun _ h=>h)) src dst e h1 h5 h2
    unfold execOp
    simp only [ho]
    refine ⟨.string b,?_,.rep (.val _)⟩
    rw [Sem.run_bind,ct];rfl
   ·cases hr
  ·cases hr
def cS:Nat->Nat->Nat
 | k,1=>k
 | k,e=>k*e
theorem bw (k e:Nat):cS k e=k*e:=by
 unfold cS
 split<;>simp
def o9 (P:Program) (t:TypeId) (pure:Bool) (cells:List AV) (off:Nat) (h:Hint):Option (AV×List Prop) :=
 match ea P t,P.underlying t with
 | some sz,some d =>
  (match d with
  | .struct _=>(match h.av with
   | some (.agg cs)=>some (.agg cs,[(cells.drop off).take sz=cs,cs.length=sz])
   | some _=>none
   | none=>(match Nat.beq ((cells.drop off).take sz).length sz with|true=>some (.agg ((cells.drop off).take sz),[])|false=>none))
  | .array _ _=>(match h.av,pure with
   | some (.arr cs),true=>some (.arr cs,[(cells.drop off).take sz=cs,cs.length=sz])
   | some (.agg cs),_=>some (.agg cs,[(cells.drop off).take sz=cs,cs.length=sz])
   | _,_=>none)
  | _=>(match h.av with
   | some y=>some (y,[cells[off]?=some y])
   | none=>(match cells[off]? with|some y=>some (y,[])|none=>none)))
 | _,_=>none
section
variable {P:Program} {w:World} {I:Info} {S:Nat->Prop}
theorem sk {t:TypeId} {p:Addr} {vs:List Value} {d:TypeDesc} (hd:P.underlying t=some d) (ha:cD P t=true) (hs:ea P t=some vs.length) (h:∀(j:Nat) v,vs[j]?=some v->w.cell? (p.add j)=some v) :
  (loadVar t p).run P w= .ok (.agg vs.toArray) w:=by
 unfold loadVar
 rw [Sem.run_bind,ix ⟨d,hd⟩]
 simp only [Result.andThen_ok,ha,if_true]
 rw [Sem.run_bind,run_sizeOf hs]
 simp only [Result.andThen_ok]
 rw [Sem.run_bind,run_loadCells_list w p vs h]
 rfl
theorem sj {t:TypeId} {p:Addr} {v:Value} {d:TypeDesc} (hd:P.underlying t=some d) (ha:cD P t=false) (h:w.cell? p=some v) :
  (loadVar t p).run P w= .ok v w:=by
 unfold loadVar
 rw [Sem.run_bind,ix ⟨d,hd⟩]
 simp [ha,h]
theorem bS {α:Type} (l:List α) (off k j:Nat) (x:α) (hx:((l.drop off).take k)[j]?=some x):l[off+j]?=some x:=by
 have:=bY _ _ _ _ hx
 rw [List.getElem?_drop] at this;exact this
theorem du (p:Addr):p.add 0=p:=by simp [Addr.add]
theorem rh {t:TypeId} {pure:Bool} {cells:List AV} {off:Nat} {h:Hint} {r:AV×List Prop} (hr:o9 P t pure cells off h=some r) (hC:bx r.2) (p:Addr) (us:List Value) (hl:cells.length≤us.length)
  (bu:∀(j:Nat) u,us[off+j]?=some u->w.cell? (p.add j)=some u) (hd:∀(j:Nat) u x,us[j]?=some u->cells[j]?=some x->bh I S w pure u x) :
  ∃v,(loadVar t p).run P w= .ok v w∧Den I S w v r.1:=by
 have den:∀(j:Nat) u x,us[j]?=some u->cells[j]?=some x->Den I S w u x:=by
  intro j u x hu hx
  have:=hd j u x hu hx
  unfold bh at this
  cases pure with
  | true=>exact .rep this
  | false=>exact this
 unfold o9 at hr
 split at hr
 ·rename_i sz d dq hu
  have agg:∀(cs:List AV),cD P t=true->(cells.drop off).take sz=cs->cs.length=sz-> ∃vs:List Value,vs=(us.drop off).take sz∧(loadVar t p).run P w= .ok (.agg vs.toArray) w∧vs.length=cs.length∧(∀(j:Nat) v c,vs[j]?=some v->cs[j]?=some c->us[off+j]?=some v∧cells[off+j]?=some c):=by
   intro cs ha he hlen
   have Fk:cs.length=min sz (cells.length-off):=by rw [←he,List.length_take,List.length_drop]
   have NU:((us.drop off).take sz).length=sz:=by rw [List.length_take,List.length_drop];omega
   refine ⟨_,rfl,sk hu ha (by rw [NU];exact dq) (fun j v hv=>bu j v (bS _ _ _ _ _ hv)),aj,fun j v c hv hc=>⟨bS _ _ _ _ _ hv,?_⟩⟩
   rw [←he] at hc;exact bS _ _ _ _ _ hc
  have one:∀y,cD P t=false->cells[off]?=some y-> ∃v,(loadVar t p).run P w= .ok v w∧Den I S w v y:=by
   intro y ha hy
   have dd:off<us.length:=by have:=(List.getElem?_eq_some_iff.1 hy).1;omega
   have hv:us[off]?=some us[off]:=List.getElem?_eq_getElem dd
   refine ⟨us[off],sj hu ha ?_,den off _ y hv hy⟩
   have:=bu 0 us[off] (by simp)
   rw [du] at this;exact this
  split at hr
  ·have ha:cD P t=true:=by unfold cD;rw [hu]
   split at hr
   ·rename_i cs _
    injection hr with hr;subst hr
    obtain ⟨vs,-,h1,h2,h3⟩:=agg cs ha hC.1 hC.2.1
    exact ⟨_,h1,.agg vs cs h2 fun j v c hv hc=>den _ _ _ (h3 j v c hv hc).1 (h3 j v c hv hc).2⟩
   ·cases hr
   ·split at hr
    ·rename_i hb
     injection hr with hr;subst hr
     obtain ⟨vs,-,h1,h2,h3⟩:=agg _ ha rfl (Nat.eq_of_beq_eq_true hb)
     exact ⟨_,h1,.agg vs _ h2 fun j v c hv hc=>den _ _ _ (h3 j v c hv hc).1 (h3 j v c hv hc).2⟩
    ·cases hr
  ·have ha:cD P t=true:=by unfold cD;rw [hu]
   split at hr
   ·rename_i cs _
    injection hr with hr;subst hr
    obtain ⟨vs,-,h1,h2,h3⟩:=agg cs ha hC.1 hC.2.1
    exact ⟨_,h1,.rep (.arr vs cs h2 fun j v c hv hc=>by have:=hd _ _ _ (h3 j v c hv hc).1 (h3 j v c hv hc).2;exact this)⟩
   ·rename_i cs _
    injection hr with hr;subst hr
    obtain ⟨vs,-,h1,h2,h3⟩:=agg cs ha hC.1 hC.2.1
    exact ⟨_,h1,.agg vs cs h2 fun j v c hv hc=>den _ _ _ (h3 j v c hv hc).1 (h3 j v c hv hc).2⟩
   ·cases hr
  ·rename_i NT Ru
   have ha:cD P t=false:=by
    unfold cD;rw [hu]
    cases d<;>first|rfl|exact absurd rfl (NT _)|exact absurd rfl (Ru _ _)
   split at hr
   ·injection hr with hr;subst hr
    exact one _ ha hC.1
   ·split at hr
    ·rename_i y hy
     injection hr with hr;subst hr
     exact one _ ha hy
    ·cases hr
 ·cases hr
end
def CB (P:Program) (s:AS) (t:TypeId) (x:AV) (h:Hint):Option (AV×List Prop) :=
 match x with
 | .ptr row off=>o9 P t true row off h
 | .addr id off=>(match look s.H id with|some r=>o9 P t r.pure r.cells off h|none=>none)
 | _=>none
section
variable {P:Program} {s:AS} {o:Oper} {h:Hint} {r:AV×List Prop}
theorem sX {I:Info} {S:Nat->Prop} {w:World} {v:Value} {row:List AV} {off:Nat} (h:Den I S w v (.ptr row off)):∃(ad:Addr) (us:List Value),v= .pointer (some (ad.add off))∧us.length=row.length∧S ad.block∧(∀(j:Nat) u,us[j]?=some u->w.cell? (ad.add j)=some u)∧ ∀(j:Nat) u x,us[j]?=some u->row[j]?=some x->cA S w u x:=by
 cases h with|rep h=>cases h with|ptr ad us _ _ hl hs ha h=>exact ⟨ad,us,rfl,hl,hs,ha,h⟩
theorem jK {I:Info} {S:Nat->Prop} {w:World} {v:Value} {id off:Nat} (h:Den I S w v (.addr id off)):∃e m g,I id=some (e,m,some g)∧v= .pointer (some ⟨g,off,none⟩):=by
 cases h with
 | rep h=>cases h
 | addr id off e m g hi=>exact ⟨e,m,g,hi,rfl⟩
theorem lY (g o j:Nat):(⟨g,o,none⟩:Addr).add j=⟨g,o+j,none⟩:=by unfold Addr.add;split<;>simp_all
theorem FC {t:TypeId} {x:Operand} (ho:o.op= .load t x) (hr:CB P s t (bp s x) h=some r):c_ P s o r.1 r.2:=by
 intro hC S0 w0 n O a w φ hs
 have hx:=hs.bp x
 unfold execOp
 simp only [ho]
 unfold CB at hr
 split at hr
 ·rename_i row off he
  rw [he] at hx
  obtain ⟨ad,us,hv,hl,hS,bu,b7⟩:=sX hx
  obtain ⟨v,h1,h2⟩:=rh (I:=az s.H φ) (S:=aM S0 w φ O) hr hC (ad.add off) us aj (fun j u hu=>by rw [mD];exact bu _ u hu) (fun j u x hu hx=>by show cA _ _ _ _;exact b7 j u x hu hx)
  refine ⟨v,?_,h2⟩
  simp only [Instr.loadAt,hv,Instr.sureAddr,Sem.run_bind,Sem.run_pure,Result.andThen_ok,h1]
 ·rename_i id off he
  rw [he] at hx
  obtain ⟨e,m,g,hi,hv⟩:=jK hx
  obtain ⟨q,hq,-,-,cp⟩:=aO hi
  rw [hq] at hr
  have aN:=hs.rows id q hq
  unfold bN at aN
  rw [cp] at aN
  obtain ⟨cur,te,fr,hg,hf,hl,-,hc⟩:=aN
  obtain ⟨v,h1,h2⟩:=rh (I:=az s.H φ) (S:=aM S0 w φ O) hr hC ⟨g,off,none⟩ cur.toList hl (fun j u hu=>by rw [lY,cell_of_row w g _ cur te fr hg];simpa using hu) (fun j u x hu hx=>hc j u x (by simpa using hu) hx)
  refine ⟨v,?_,h2⟩
  simp only [Instr.loadAt,hv,Instr.sureAddr,Sem.run_bind,Sem.run_pure,Result.andThen_ok,h1]
 ·cases hr
def nB (P:Program) (t:TypeId) (x:AV) (f:Nat):Option (AV×List Prop) :=
 match P.underlying t with
 | some (.struct fields) =>
  (match fields[f]? with
  | some fd=>(match ea P fd.type with
   | some (_+1)=>(match x with
    | .ptr row off=>some (.ptr row (off+fd.offset),[])
    | .addr id off=>some (.addr id (off+fd.offset),[])
    | _=>none)
   | _=>none)
  | none=>none)
 | _=>none
theorem uU {t:TypeId} {x:Operand} {f:Nat} (ho:o.op= .fieldAddr t x f) (hr:nB P t (bp s x) f=some r):c_ P s o r.1 r.2:=by
 intro hC S0 w0 n O a w φ hs
 have hx:=hs.bp x
 unfold execOp
 simp only [ho]
 unfold nB at hr
 split at hr
 ·rename_i fields hu
  split at hr
  ·rename_i fd hf
   split at hr
   ·rename_i k dq
    have hz:(sizeOf fd.type).run P w= .ok (k+1) w:=run_sizeOf dq
    split at hr
    ·rename_i row off he
     injection hr with hr;subst hr
     rw [he] at hx
     obtain ⟨ad,us,hv,hl,hS,bu,b7⟩:=sX hx
     refine ⟨.pointer (some (ad.add (off+fd.offset))),?_,.rep (.ptr ad us row _ hl hS bu b7)⟩
     simp [Instr.fieldAt,run_underlying hu,hf,hv,Instr.sureAddr,fieldPlace,hz,mD]
    ·rename_i id off he
     injection hr with hr;subst hr
     rw [he] at hx
     obtain ⟨e,m,g,hi,hv⟩:=jK hx
     refine ⟨.pointer (some ⟨g,off+fd.offset,none⟩),?_,.addr id _ e m g hi⟩
     simp [Instr.fieldAt,run_underlying hu,hf,hv,Instr.sureAddr,fieldPlace,hz,lY]
    ·cases hr
   ·cases hr
  ·cases hr
 ·cases hr
def IH (P:Program) (s:AS) (t:TypeId) (x:AV) (n:Int) (h:Hint):Option (AV×List Prop) :=
 match P.underlying t with
 | some (.slice el) =>
  (match ea P el with
  | some (z+1)=>(match x with
   | .sl e row=>(match Nat.beq e (z+1) with|true=>some (.ptr row (cS h.k (z+1)),[n=(h.k:Int),cS h.k (z+1)<row.length])|false=>none)
   | .ref id=>(match look s.H id with|some q=>(match Nat.beq q.e (z+1) with|true=>some (.addr id (cS h.k (z+1)),[n=(h.k:Int),cS h.k (z+1)<q.cells.length])|false=>none)|none=>none)
   | .pre id l=>(match look s.H id with|some q=>(match Nat.beq q.e (z+1) with|true=>some (.addr id (cS h.k (z+1)),[n=(h.k:Int),cS h.k (z+1)<l])|false=>none)|none=>none)
   | .jl id off l=>(match look s.H id with|some q=>(match Nat.beq q.e (z+1) with|true=>some (.addr id (cS h.k (z+1)+off),[n=(h.k:Int),cS h.k (z+1)<l])|false=>none)|none=>none)
   | _=>none)
  | _=>none)
 | some (.array len el) =>
  (match ea P el with
  | some (z+1)=>(match x with
   | .ptr row off=>some (.ptr row (cS h.k (z+1)+off),[n=(h.k:Int),h.k<len])
   | .addr id off=>some (.addr id (cS h.k (z+1)+off),[n=(h.k:Int),h.k<len])
   | _=>none)
  | _=>none)
 | _=>none
theorem pa {I:Info} {S:Nat->Prop} {w:World} {v:Value} {e:Nat} {row:List AV} (h:Den I S w v (.sl e row)):cA S w v (.sl e row):=by
 cases h with|rep h=>exact h
theorem nN {k z l e m:Nat} (h:cS k (z+1)<m) (hm:m=e*l) (he:e=z+1):k<l:=by
 rw [bw,hm,he,Nat.mul_comm] at h
 exact Nat.lt_of_mul_lt_mul_left h
theorem IG {t:TypeId} {x i:Operand} {k:IntKind} {n:Int} (ho:o.op= .indexAddr t x i) (hi:bp s i= .val (.int k n)) (hr:IH P s t (bp s x) n h=some r):c_ P s o r.1 r.2:=by
 intro hC S0 w0 n' O a w φ hs
 have hx:=hs.bp x
 have ei:a.eval i= .int k n:=bJ (hi ▸ hs.bp i)
 unfold execOp
 simp only [ho,ei]
 unfold IH at hr
 split at hr
 ·rename_i el hu
  split at hr
  ·rename_i z dq
   have hz:(sizeOf el).run P w= .ok (z+1) w:=run_sizeOf dq
   split at hr
   ·rename_i e row he
    rw [he] at hx
    split at hr
    ·rename_i hb
     have kF:e=z+1:=Nat.eq_of_beq_eq_true hb
     injection hr with hr;subst hr
     obtain ⟨hn,dd,-⟩:=hC
     have b7:=pa hx
     cases jH:a.eval x with
     | slice A l c =>
      rw [jH] at b7
      cases b7 with
      | sl _ _ _ _ us _ hl sr hc hm ha b7 =>
       have iF:h.k<l:=nN dd sr kF
       obtain ⟨ad,rfl,hS,bu⟩:=ha aj
       refine ⟨.pointer (some (ad.add (cS h.k (z+1)))),?_,.rep (.ptr ad us row _ hl hS bu b7)⟩
       have mT:0≤n∧n<(l:Int):=aj
       have hk:n.toNat=h.k:=aj
       simp [Instr.indexAt,run_underlying hu,asIntOf,mT,hz,hk,bw]
     | _=>rw [jH] at b7;cases b7
    ·cases hr
   ·rename_i id he
    rw [he] at hx
    split at hr
    ·rename_i q hq
     split at hr
     ·rename_i hb
      have kF:q.e=z+1:=Nat.eq_of_beq_eq_true hb
      injection hr with hr;subst hr
      obtain ⟨hn,dd,-⟩:=hC
      generalize a.eval x=V at hx
      cases hx with
      | rep h=>cases h
      | ref _ e m g l c hi hm hc hx bZ =>
       rw [bq hq] at hi
       injection hi with hi;injection hi with h1 hi;injection hi with h2 h3
       have iF:h.k<l:=nN dd (by rw [h2];exact hm) (by rw [←h1];exact kF)
       refine ⟨.pointer (some ⟨g,cS h.k (z+1),none⟩),?_,.addr id _ q.e q.cells.length g (by rw [bq hq,h3])⟩
       have mT:0≤n∧n<(l:Int):=aj
       have hk:n.toNat=h.k:=aj
       simp [Instr.indexAt,run_underlying hu,asIntOf,mT,hz,hk,bw,eZ]
      | cC _ e hi =>
       rw [bq hq] at hi
       injection hi with hi;injection hi with h1 hi;injection hi with h2 h3
       omega
     ·cases hr
    ·cases hr
   ·rename_i id l' he
    rw [he] at hx
    split at hr
    ·rename_i q hq
     split at hr
     ·rename_i hb
      have kF:q.e=z+1:=Nat.eq_of_beq_eq_true hb
      injection hr with hr;subst hr
      obtain ⟨hn,dd,-⟩:=hC
      generalize a.eval x=V at hx
      cases hx with
      | rep h=>cases h
      | pre _ _ e m g l c hi sr hm hc hx bZ =>
       rw [bq hq] at hi
       injection hi with hi;injection hi with h1 hi;injection hi with h2 h3
       have iF:h.k<l:=nN dd sr (by rw [←h1];exact kF)
       refine ⟨.pointer (some ⟨g,cS h.k (z+1),none⟩),?_,.addr id _ q.e q.cells.length g (by rw [bq hq,h3])⟩
       have mT:0≤n∧n<(l:Int):=aj
       have hk:n.toNat=h.k:=aj
       simp [Instr.indexAt,run_underlying hu,asIntOf,mT,hz,hk,bw,eZ]
      | dw _ e hi=>omega
     ·cases hr
    ·cases hr
   ·rename_i id off l' he
    rw [he] at hx
    split at hr
    ·rename_i q hq
     split at hr
     ·rename_i hb
      have kF:q.e=z+1:=Nat.eq_of_beq_eq_true hb
      injection hr with hr;subst hr
      obtain ⟨hn,dd,-⟩:=hC
      generalize a.eval x=V at hx
      cases hx with
      | rep h=>cases h
      | jl _ _ _ e m l c g A hi sr hm hc hx ha =>
       rw [bq hq] at hi
       injection hi with hi;injection hi with h1 hi;injection hi with h2 h3
       have iF:h.k<l:=nN dd sr (by rw [←h1];exact kF)
       obtain ⟨b,JE,rfl⟩:=ha aj
       refine ⟨.pointer (some ⟨b,cS h.k (z+1)+off,none⟩),?_,.addr id _ q.e q.cells.length b (by rw [bq hq,h3,JE])⟩
       have mT:0≤n∧n<(l:Int):=aj
       have hk:n.toNat=h.k:=aj
       simp [Instr.indexAt,run_underlying hu,asIntOf,mT,hz,hk,bw,lY,Nat.add_comm]
     ·cases hr
    ·cases hr
   ·cases hr
  ·cases hr
 ·rename_i len el hu
  split at hr
  ·rename_i z dq
   have hz:(sizeOf el).run P w= .ok (z+1) w:=run_sizeOf dq
   split at hr
   ·rename_i row off he
    rw [he] at hx
    injection hr with hr;subst hr
    obtain ⟨hn,dd,-⟩:=hC
    obtain ⟨ad,us,hv,hl,hS,bu,b7⟩:=sX hx
    refine ⟨.pointer (some (ad.add (cS h.k (z+1)+off))),?_,.rep (.ptr ad us row _ hl hS bu b7)⟩
    have mT:0≤n∧n<(len:Int):=aj
    have hk:n.toNat=h.k:=aj
    simp [Instr.indexAt,run_underlying hu,asIntOf,mT,hz,hk,hv,Instr.sureAddr,bw,mD,Nat.add_comm]
   ·rename_i id off he
    rw [he] at hx
    injection hr with hr;subst hr
    obtain ⟨hn,dd,-⟩:=hC
    obtain ⟨e,m,g,hi,hv⟩:=jK hx
    refine ⟨.pointer (some ⟨g,cS h.k (z+1)+off,none⟩),?_,.addr id _ e m g hi⟩
    have mT:0≤n∧n<(len:Int):=aj
    have hk:n.toNat=h.k:=aj
    simp [Instr.indexAt,run_underlying hu,asIntOf,mT,hz,hk,hv,Instr.sureAddr,bw,lY,Nat.add_comm]
   ·cases hr
  ·cases hr
 ·cases hr
end
section
variable {P:Program} {s:AS} {o:Oper} {h:Hint} {r:AV×List Prop}
inductive Cut where
 | all|to (n:Int)|from_ (n:Int)|both (n m:Int)
def um:AV->Option Int
 | .val (.int _ n)=>some n
 | _=>none
def u6 (s:AS) (lo hi mx:Option Operand):Option Cut :=
 match lo,hi,mx with
 | none,none,none=>some .all
 | none,some y,none=>(match um (bp s y) with|some m=>some (.to m)|none=>none)
 | some x,none,none=>(match um (bp s x) with|some n=>some (.from_ n)|none=>none)
 | some x,some y,none=>(match um (bp s x),um (bp s y) with|some n,some m=>some (.both n m)|_,_=>none)
 | _,_,_=>none
def xY (P:Program) (s:AS) (t:TypeId) (x:AV) (c:Cut) (h:Hint):Option (AV×List Prop) :=
 match P.underlying t with
 | some .string =>
  (match x,c with
  | .val (.string b),.all=>some (.val (.string b),[])
  | .val (.string b),.to n=>some (fin h (.val (.string (b.extract 0 h.m)),[n=(h.m:Int),h.m≤b.size]))
  | .val (.string b),.from_ n=>some (fin h (.val (.string (b.extract h.k b.size)),[n=(h.k:Int),h.k≤b.size]))
  | .val (.string b),.both n n'=>some (fin h (.val (.string (b.extract h.k h.m)),[n=(h.k:Int),n'=(h.m:Int),h.k≤h.m,h.m≤b.size]))
  | _,_=>none)
 | some (.slice el) =>
  (match ea P el with
  | some (z+1)=>(match x,c with
   | .sl e row,.all=>some (fin h (.sl e row,[]))
   | .sl e row,.to n=>(match Nat.beq e (z+1) with|true=>some (fin h (.sl e (row.take (cS h.m e)),[n=(h.m:Int),cS h.m e≤row.length]))|false=>none)
   | .sl e row,.from_ n=>(match Nat.beq e (z+1) with|true=>some (fin h (.sl e (row.drop (cS h.k e)),[n=(h.k:Int),cS h.k e≤row.length]))|false=>none)
   | .sl e row,.both n n'=>(match Nat.beq e (z+1) with|true=>some (fin h (.sl e ((row.drop (cS h.k e)).take (cS (h.m-h.k) e)),[n=(h.k:Int),n'=(h.m:Int),h.k≤h.m,cS h.m e≤row.length]))|false=>none)
   | .ref id,.all=>some (.ref id,[])
   | .ref id,.to n=>(match look s.H id with|some q=>(match Nat.beq q.e (z+1) with|true=>some (.pre id (cS h.m q.e),[n=(h.m:Int),cS h.m q.e≤q.cells.length])|false=>none)|none=>none)
   | .ref id,.from_ n=>(match look s.H id with|some q=>(match Nat.beq q.e (z+1) with|true=>some (.jl id (cS h.k q.e) (q.cells.length-cS h.k q.e),[n=(h.k:Int),cS h.k q.e≤q.cells.length])|false=>none)|none=>none)
   | .ref id,.both n n'=>(match look s.H id with|some q=>(match Nat.beq q.e (z+1) with|true=>some (.jl id (cS h.k q.e) (cS (h.m-h.k) q.e),[n=(h.k:Int),n'=(h.m:Int),h.k≤h.m,cS h.m q.e≤q.cells.length])|false=>none)|none=>none)
   | .pre id l,.all=>some (.pre id l,[])
   | .pre id l,.to n=>(match look s.H id with|some q=>(match Nat.beq q.e (z+1) with|true=>some (.pre id (cS h.m q.e),[n=(h.m:Int),cS h.m q.e≤l])|false=>none)|none=>none)
   | _,_=>none)
  | _=>none)
 | some (.array len el) =>
  (match ea P el with
  | some (z+1)=>(match x,c with
   | .addr id 0,.all=>(match look s.H id with|some q=>(match Nat.beq q.e (z+1),q.full with|true,true=>some (.ref id,[q.cells.length=cS len q.e,len≤maxLen])|_,_=>none)|none=>none)
   | .addr id 0,.to n=>(match look s.H id with|some q=>(match Nat.beq q.e (z+1),q.full with|true,true=>some (.pre id (cS h.m q.e),[n=(h.m:Int),h.m≤len,q.cells.length=cS len q.e,len≤maxLen])|_,_=>none)|none=>none)
   | .addr id 0,.from_ n=>(match look s.H id with|some q=>(match Nat.beq q.e (z+1),q.full with|true,true=>some (.jl id (cS h.k q.e) (cS (len-h.k) q.e),[n=(h.k:Int),h.k≤len,q.cells.length=cS len q.e,len≤maxLen])|_,_=>none)|none=>none)
   | .addr id 0,.both n n'=>(match look s.H id with|some q=>(match Nat.beq q.e (z+1),q.full with|true,true=>some (.jl id (cS h.k q.e) (cS (h.m-h.k) q.e),[n=(h.k:Int),n'=(h.m:Int),h.k≤h.m,h.m≤len,q.cells.length=cS len q.e,len≤maxLen])|_,_=>none)|none=>none)
   | _,_=>none)
  | _=>none)
 | _=>none
def Bounds (c:Cut) (len cap:Nat) (l hi:Nat):Prop :=
 match c with
 | .all=>l=0∧hi=len
 | .to n=>l=0∧n=(hi:Int)∧hi≤cap
 | .from_ n=>n=(l:Int)∧l≤len∧hi=len
 | .both n n'=>n=(l:Int)∧n'=(hi:Int)∧l≤hi∧hi≤cap
theorem Ca {x:AV} {n:Int} (h:um x=some n):∃k,x= .val (.int k n):=by
 unfold um at h
 split at h
 ·injection h with h;subst h;exact ⟨_,rfl⟩
 ·cases h
theorem run_sliceBound {w:World} {k:IntKind} {n:Int} {y l:Nat} {code:BoundsCode} (h1:n=(l:Int)) (h2:l≤y):(Instr.sliceBound (.int k n) y code).run P w= .ok l w:=by
 have:0≤n∧n≤(y:Int):=aj
 have e:n.toNat=l:=aj
 simp [Instr.sliceBound,asIntOf,this,e]
theorem oN {S0:bm} {w0 w:World} {n:Nat} {O:List Nat} {a:Act} {φ:Nat->Option Nat} (hs:aG S0 w0 n O s a w φ) {lo hi mx:Option Operand} {c:Cut} (hc:u6 s lo hi mx=some c) (QZ:Bool) {len cap l m:Nat} (hb:Bounds c len cap l m) (hle:len≤cap) :
  mx=none∧(Instr.sliceBounds QZ len cap (lo.map a.eval) (hi.map a.eval) none).run P w= .ok (l,m,cap) w:=by
 have ev:∀x z,um (bp s x)=some z-> ∃k,a.eval x= .int k z:=fun x z hx=>by
  obtain ⟨k,e⟩:=Ca hx
  exact ⟨k,bJ (e ▸ hs.bp x)⟩
 unfold u6 at hc
 split at hc
 ·injection hc with hc;subst hc
  obtain ⟨rfl,rfl⟩:=hb
  exact ⟨rfl,by simp [Instr.sliceBounds]⟩
 ·split at hc
  ·rename_i z hz
   injection hc with hc;subst hc
   obtain ⟨rfl,h1,h2⟩:=hb
   obtain ⟨k,e⟩:=ev _ _ hz
   exact ⟨rfl,by simp [Instr.sliceBounds,e,run_sliceBound h1 h2]⟩
  ·cases hc
 ·split at hc
  ·rename_i z hz
   injection hc with hc;subst hc
   obtain ⟨h1,h2,rfl⟩:=hb
   obtain ⟨k,e⟩:=ev _ _ hz
   exact ⟨rfl,by simp [Instr.sliceBounds,e,run_sliceBound h1 h2]⟩
  ·cases hc
 ·split at hc
  ·rename_i z z' hz Ar
   injection hc with hc;subst hc
   obtain ⟨h1,Ij,h2,h3⟩:=hb
   obtain ⟨k,e⟩:=ev _ _ hz
   obtain ⟨k',e'⟩:=ev _ _ Ar
   exact ⟨rfl,by simp [Instr.sliceBounds,e,e',run_sliceBound Ij h3,run_sliceBound h1 h2]⟩
  ·cases hc
 ·cases hc
theorem bW {S0:bm} {w0 w:World} {n:Nat} {O:List Nat} {a:Act} {φ:Nat->Option Nat} (hs:aG S0 w0 n O s a w φ) {t el:TypeId} {x:Operand} {lo hi mx:Option Operand} {c:Cut} (ho:o.op= .slice t x lo hi mx) (hc:u6 s lo hi mx=some c) (hu:P.underlying t=some (.slice el)) {z:Nat} (hz:ea P el=some z)
  {A:Option Addr} {len cap l m:Nat} (hx:a.eval x= .slice A len cap) (hb:Bounds c len cap l m) (hle:len≤cap) :
  (execOp a.eval o).run P w= .ok (.value (.slice (if cap=l then A else A.map (·.add (l*z))) (m-l) (cap-l))) w:=by
 obtain ⟨rfl,hr⟩:=oN (P:=P) hs hc true hb hle
 unfold execOp
 simp only [ho,hx]
 have Ar:(sizeOf el).run P w= .ok z w:=run_sizeOf hz
 simp [Instr.sliceAt,Instr.slice,run_underlying hu,hr,Ar]
theorem jq {S0:bm} {w0 w:World} {n:Nat} {O:List Nat} {a:Act} {φ:Nat->Option Nat} (hs:aG S0 w0 n O s a w φ) {t el:TypeId} {x:Operand} {lo hi mx:Option Operand} {c:Cut} (ho:o.op= .slice t x lo hi mx) (hc:u6 s lo hi mx=some c) {len:Nat} (hu:P.underlying t=some (.array len el)) {z:Nat} (hz:ea P el=some z)
  {p:Addr} {l m:Nat} (hx:a.eval x= .pointer (some p)) (hb:Bounds c len len l m) :
  (execOp a.eval o).run P w= .ok (.value (.slice (some (if len=l then p else p.add (l*z))) (m-l) (len-l))) w:=by
 obtain ⟨rfl,hr⟩:=oN (P:=P) hs hc false hb (Nat.le_refl _)
 unfold execOp
 simp only [ho,hx]
 have Ar:(sizeOf el).run P w= .ok z w:=run_sizeOf hz
 simp [Instr.sliceAt,Instr.sureAddr,run_underlying hu,hr,Ar]
theorem jo {S0:bm} {w0 w:World} {n:Nat} {O:List Nat} {a:Act} {φ:Nat->Option Nat} (hs:aG S0 w0 n O s a w φ) {t:TypeId} {x:Operand} {lo hi mx:Option Operand} {c:Cut} (ho:o.op= .slice t x lo hi mx) (hc:u6 s lo hi mx=some c) (hu:P.underlying t=some .string)
  {b:ByteArray} {l m:Nat} (hx:a.eval x= .string b) (hb:Bounds c b.size b.size l m) :
  (execOp a.eval o).run P w= .ok (.value (.string (b.extract l m))) w:=by
 obtain ⟨rfl,hr⟩:=oN (P:=P) hs hc false hb (Nat.le_refl _)
 unfold execOp
 simp only [ho,hx]
 simp [Instr.sliceAt,Instr.slice,run_underlying hu,hr]
theorem zx {S:Nat->Prop} {w:World} {A:Option Addr} {len cap e z:Nat} {row:List AV} (b7:cA S w (.slice A len cap) (.sl e row)) (he:e=z+1) (l m:Nat) (Tg:l≤m) (hm:m≤len) :
  cA S w (.slice (if cap=l then A else A.map (·.add (l*(z+1)))) (m-l) (cap-l)) (.sl e ((row.drop (l*e)).take ((m-l)*e))):=by
 cases b7 with
 | sl _ _ _ _ us _ hl hn hc hx ha h =>
  have hle:(m-l)*e≤row.length-l*e:=by
   rw [hn,Nat.sub_mul,Nat.mul_comm e len]
   have:=Nat.mul_le_mul_right e hm
   omega
  have hlen:((row.drop (l*e)).take ((m-l)*e)).length=(m-l)*e:=by rw [List.length_take,List.length_drop];omega
  refine .sl _ _ _ _ ((us.drop (l*e)).take ((m-l)*e)) _ (by rw [hlen,List.length_take,List.length_drop];omega) (by rw [hlen,Nat.mul_comm]) aj aj (fun h0=>?_) (fun j u x hu hx=>h (l*e+j) u x (bS _ _ _ _ _ hu) (bS _ _ _ _ _ hx))
  rw [hlen] at h0
  have cT:cap≠l:=by
   intro e'
   have:m-l=0:=aj
   rw [this,Nat.zero_mul] at h0;omega
  have F9:0<row.length:=aj
  obtain ⟨ad,rfl,hS,bu⟩:=ha F9
  rw [if_neg cT]
  refine ⟨ad.add (l*(z+1)),rfl,by rw [gL];exact hS,fun j u hu=>?_⟩
  rw [mD,←he]
  exact bu _ u (bS _ _ _ _ _ hu)
theorem mf {m len e q:Nat} (h:cS m e≤q) (hq:q=e*len) (he:0<e):m≤len:=by
 rw [bw,hq,Nat.mul_comm] at h
 exact Nat.le_of_mul_le_mul_left h he
theorem sG {m z:Nat} (h:m*(z+1)≤0):m=0:=by
 rcases Nat.eq_zero_or_pos m with h5|h5
 ·exact h5
 ·have:=Nat.mul_pos h5 (aj:0<z+1);omega
theorem Cx {t:TypeId} {x:Operand} {lo hi mx:Option Operand} {c:Cut} (ho:o.op= .slice t x lo hi mx) (hc:u6 s lo hi mx=some c) (hr:xY P s t (bp s x) c h=some r):c_ P s o r.1 r.2:=by
 unfold xY at hr
 split at hr
 ·rename_i hu
  split at hr
  ·rename_i b he
   injection hr with hr;subst hr
   intro hC S0 w0 n O a w φ hs
   have ex:a.eval x= .string b:=bJ (he ▸ hs.bp x)
   refine ⟨_,jo hs ho hc hu ex ⟨rfl,rfl⟩,?_⟩
   have:b.extract 0 b.size=b:=by simp
   rw [this];exact .rep (.val _)
  ·rename_i b n he
   injection hr with hr;subst hr
   refine gw ?_
   intro hC S0 w0 n' O a w φ hs
   have ex:a.eval x= .string b:=bJ (he ▸ hs.bp x)
   exact ⟨_,jo hs ho hc hu ex ⟨rfl,hC.1,hC.2.1⟩,.rep (.val _)⟩
  ·rename_i b n he
   injection hr with hr;subst hr
   refine gw ?_
   intro hC S0 w0 n' O a w φ hs
   have ex:a.eval x= .string b:=bJ (he ▸ hs.bp x)
   exact ⟨_,jo hs ho hc hu ex ⟨hC.1,hC.2.1,rfl⟩,.rep (.val _)⟩
  ·rename_i b n n2 he
   injection hr with hr;subst hr
   refine gw ?_
   intro hC S0 w0 n' O a w φ hs
   have ex:a.eval x= .string b:=bJ (he ▸ hs.bp x)
   exact ⟨_,jo hs ho hc hu ex ⟨hC.1,hC.2.1,hC.2.2.1,hC.2.2.2.1⟩,.rep (.val _)⟩
  ·cases hr
 ·rename_i el hu
  split at hr
  ·rename_i z dq
   have sl:∀(e:Nat) (row:List AV) (X:AV) (C:List Prop),bp s x= .sl e row->e=z+1->(bx C-> ∃l m,(∀len cap,row.length=e*len->len≤cap->Bounds c len cap l m∧m≤len)∧l≤m∧X= .sl e ((row.drop (l*e)).take ((m-l)*e))∨(c= .all∧X= .sl e row))->c_ P s o X C:=by
    intro e row X C he uB hX hC S0 w0 n O a w φ hs
    have hx:=hs.bp x
    rw [he] at hx
    have b7:=pa hx
    cases jH:a.eval x with
    | slice A len cap =>
     rw [jH] at b7
     have Aw:=b7
     cases Aw with
     | sl _ _ _ _ us _ hl hn kU Jz ha h' =>
      obtain ⟨l,m,h1⟩:=hX hC
      rcases h1 with ⟨hb,Tg,rfl⟩|⟨rfl,rfl⟩
      ·obtain ⟨hb,hm⟩:=hb len cap hn kU
       exact ⟨_,bW hs ho hc hu dq jH hb kU,.rep (zx b7 uB l m Tg hm)⟩
      ·refine ⟨_,bW hs ho hc hu dq jH (l:=0) (m:=len) ⟨rfl,rfl⟩ kU,?_⟩
       have:(if cap=0 then A else A.map (·.add (0*(z+1))))=A:=by
        split
        ·rfl
        ·cases A<;>simp [du]
       rw [this];exact .rep b7
    | _=>rw [jH] at b7;cases b7
   split at hr
   ·rename_i e row he
    injection hr with hr;subst hr
    refine gw ?_
    intro hC S0 w0 n O a w φ hs
    have hx:=hs.bp x
    rw [he] at hx
    have b7:=pa hx
    cases jH:a.eval x with
    | slice A len cap =>
     rw [jH] at b7
     have Aw:=b7
     cases Aw with
     | sl _ _ _ _ us _ hl hn kU Jz ha h' =>
      refine ⟨_,bW hs ho hc hu dq jH (l:=0) (m:=len) ⟨rfl,rfl⟩ kU,?_⟩
      have:(if cap=0 then A else A.map (·.add (0*(z+1))))=A:=by
       split
       ·rfl
       ·cases A<;>simp [du]
      rw [this];exact .rep b7
    | _=>rw [jH] at b7;cases b7
   ·rename_i e row n he
    split at hr
    ·rename_i hb
     have uB:e=z+1:=Nat.eq_of_beq_eq_true hb
     injection hr with hr;subst hr
     refine gw (sl e row _ _ he uB fun hC=>⟨0,h.m,.inl ⟨fun len cap hn MX=>?_,Nat.zero_le _,by simp [bw]⟩⟩)
     have:=mf hC.2.1 hn aj
     exact ⟨⟨rfl,hC.1,aj⟩,this⟩
    ·cases hr
   ·rename_i e row n he
    split at hr
    ·rename_i hb
     have uB:e=z+1:=Nat.eq_of_beq_eq_true hb
     injection hr with hr;subst hr
     refine gw ?_
     intro hC S0 w0 n' O a w φ hs
     have hx:=hs.bp x
     rw [he] at hx
     have b7:=pa hx
     cases jH:a.eval x with
     | slice A len cap =>
      rw [jH] at b7
      have Aw:=b7
      cases Aw with
      | sl _ _ _ _ us _ hl hn kU Jz ha h' =>
       have hk:=mf hC.2.1 hn aj
       refine ⟨_,bW hs ho hc hu dq jH (l:=h.k) (m:=len) ⟨hC.1,hk,rfl⟩ kU,?_⟩
       have:=zx b7 uB h.k len hk (Nat.le_refl _)
       have e2:(row.drop (h.k*e)).take ((len-h.k)*e)=row.drop (cS h.k e):=by
        rw [bw,List.take_of_length_le]
        rw [List.length_drop,hn,Nat.sub_mul,Nat.mul_comm e len]
        exact Nat.le_refl _
       rw [e2] at this
       exact .rep this
     | _=>rw [jH] at b7;cases b7
    ·cases hr
   ·rename_i e row n n2 he
    split at hr
    ·rename_i hb
     have uB:e=z+1:=Nat.eq_of_beq_eq_true hb
     injection hr with hr;subst hr
     refine gw (sl e row _ _ he uB fun hC=>⟨h.k,h.m,.inl ⟨fun len cap hn MX=>?_,hC.2.2.1,by simp [bw]⟩⟩)
     have:=mf hC.2.2.2.1 hn aj
     exact ⟨⟨hC.1,hC.2.1,hC.2.2.1,aj⟩,this⟩
    ·cases hr
   ·rename_i id he
    injection hr with hr;subst hr
    intro hC S0 w0 n O a w φ hs
    have hx:=hs.bp x
    rw [he] at hx
    generalize hV:a.eval x=V at hx
    cases hx with
    | rep h=>cases h
    | ref _ e m g l c' hi hm kU hx bZ =>
     refine ⟨_,bW hs ho hc hu dq hV (l:=0) (m:=l) ⟨rfl,rfl⟩ kU,?_⟩
     have:(if c'=0 then (some ⟨g,0,none⟩:Option Addr) else (some ⟨g,0,none⟩:Option Addr).map (·.add (0*(z+1))))=some ⟨g,0,none⟩:=by simp [du]
     rw [this]
     exact .ref id e m g l c' hi hm kU hx bZ
    | cC _ e hi =>
     refine ⟨_,bW hs ho hc hu dq hV (l:=0) (m:=0) ⟨rfl,rfl⟩ (Nat.le_refl _),?_⟩
     simp only [if_true]
     exact .cC id e hi
   ·rename_i id n he
    split at hr
    ·rename_i q hq
     split at hr
     ·rename_i hb
      have uB:q.e=z+1:=Nat.eq_of_beq_eq_true hb
      injection hr with hr;subst hr
      intro hC S0 w0 n' O a w φ hs
      have hx:=hs.bp x
      rw [he] at hx
      generalize hV:a.eval x=V at hx
      cases hx with
      | rep h=>cases h
      | ref _ e m g l c' hi hm kU hx bZ =>
       obtain ⟨q',gM,h1,h2,h3⟩:=aO hi
       rw [hq] at gM;injection gM with gM;subst gM
       subst h1
       have hk:=mf hC.2.1 (by rw [h2];exact hm) aj
       refine ⟨_,bW hs ho hc hu dq hV (l:=0) (m:=h.m) ⟨rfl,hC.1,aj⟩ kU,?_⟩
       have:(if c'=0 then (some ⟨g,0,none⟩:Option Addr) else (some ⟨g,0,none⟩:Option Addr).map (·.add (0*(z+1))))=some ⟨g,0,none⟩:=by simp [du]
       rw [this]
       exact .pre id _ q.e m g h.m c' hi (by rw [bw,Nat.mul_comm]) (by rw [←h2];exact hC.2.1) aj hx bZ
      | cC _ e hi =>
       obtain ⟨q',gM,h1,h2,h3⟩:=aO hi
       rw [hq] at gM;injection gM with gM;subst gM
       have hk:h.m=0:=by
        have h4:=hC.2.1
        rw [bw,h2,uB] at h4
        exact sG h4
       refine ⟨_,bW hs ho hc hu dq hV (l:=0) (m:=h.m) ⟨rfl,hC.1,aj⟩ (Nat.le_refl _),?_⟩
       rw [hk]
       simp only [if_true]
       have e0:cS 0 q.e=0:=by rw [bw];simp
       rw [e0]
       exact .dw id e hi
     ·cases hr
    ·cases hr
   ·rename_i id n he
    split at hr
    ·rename_i q hq
     split at hr
     ·rename_i hb
      have uB:q.e=z+1:=Nat.eq_of_beq_eq_true hb
      injection hr with hr;subst hr
      intro hC S0 w0 n' O a w φ hs
      have hx:=hs.bp x
      rw [he] at hx
      generalize hV:a.eval x=V at hx
      cases hx with
      | rep h=>cases h
      | ref _ e m g l c' hi hm kU hx bZ =>
       obtain ⟨q',gM,h1,h2,h3⟩:=aO hi
       rw [hq] at gM;injection gM with gM;subst gM
       subst h1
       have hk:=mf hC.2.1 (by rw [h2];exact hm) aj
       have hle:=hC.2.1
       rw [bw] at hle
       refine ⟨_,bW hs ho hc hu dq hV (l:=h.k) (m:=l) ⟨hC.1,hk,rfl⟩ kU,?_⟩
       rw [bw]
       refine .jl id _ _ q.e m (l-h.k) (c'-h.k) (some g) _ hi (by rw [h2,hm,Nat.mul_sub,Nat.mul_comm h.k]) aj aj aj (fun h0=>⟨g,rfl,?_⟩)
       have cT:c'≠h.k:=by
        intro e'
        have:l=h.k:=aj
        rw [h2,hm,this,Nat.mul_comm,Nat.sub_self] at h0;omega
       rw [if_neg cT]
       simp [eZ,uB]
      | cC _ e hi =>
       obtain ⟨q',gM,h1,h2,h3⟩:=aO hi
       rw [hq] at gM;injection gM with gM;subst gM
       have hk:h.k=0:=by
        have h4:=hC.2.1
        rw [bw,h2,uB] at h4
        exact sG h4
       refine ⟨_,bW hs ho hc hu dq hV (l:=0) (m:=0) ⟨by rw [hC.1,hk],Nat.le_refl _,rfl⟩ (Nat.le_refl _),?_⟩
       rw [hk,h2]
       have e0:cS 0 q.e=0:=by rw [bw];simp
       rw [e0]
       simp only [if_true]
       exact .jl id 0 _ e 0 0 0 none none hi (by simp) (by simp) (by simp) (by simp) (fun h=>by simp at h)
     ·cases hr
    ·cases hr
   ·rename_i id n n2 he
    split at hr
    ·rename_i q hq
     split at hr
     ·rename_i hb
      have uB:q.e=z+1:=Nat.eq_of_beq_eq_true hb
      injection hr with hr;subst hr
      intro hC S0 w0 n' O a w φ hs
      have hx:=hs.bp x
      rw [he] at hx
      obtain ⟨iH,Ek,Gg,Od,-⟩:=hC
      generalize hV:a.eval x=V at hx
      cases hx with
      | rep h=>cases h
      | ref _ e m g l c' hi hm kU hx bZ =>
       obtain ⟨q',gM,h1,h2,h3⟩:=aO hi
       rw [hq] at gM;injection gM with gM;subst gM
       subst h1
       have hk:=mf Od (by rw [h2];exact hm) aj
       rw [bw] at Od
       refine ⟨_,bW hs ho hc hu dq hV (l:=h.k) (m:=h.m) ⟨iH,Ek,Gg,aj⟩ kU,?_⟩
       rw [bw,bw]
       have hmul:h.k*q.e≤h.m*q.e:=Nat.mul_le_mul_right _ Gg
       refine .jl id _ _ q.e m (h.m-h.k) (c'-h.k) (some g) _ hi (by rw [Nat.mul_comm]) (by rw [Nat.sub_mul];omega) aj aj (fun h0=>⟨g,rfl,?_⟩)
       have cT:c'≠h.k:=by
        intro e'
        have:h.m-h.k=0:=aj
        rw [this,Nat.zero_mul] at h0;omega
       rw [if_neg cT]
       simp [eZ,uB]
      | cC _ e hi =>
       obtain ⟨q',gM,h1,h2,h3⟩:=aO hi
       rw [hq] at gM;injection gM with gM;subst gM
       have hk:h.m=0:=by
        rw [bw,h2,uB] at Od
        exact sG Od
       have xJ:h.k=0:=aj
       refine ⟨_,bW hs ho hc hu dq hV (l:=0) (m:=0) ⟨by rw [iH,xJ],by rw [Ek,hk],Nat.le_refl _,Nat.le_refl _⟩ (Nat.le_refl _),?_⟩
       rw [xJ,hk]
       have e0:cS 0 q.e=0:=by rw [bw];simp
       simp only [Nat.sub_self,e0,if_true]
       exact .jl id 0 0 e 0 0 0 none none hi (by simp) (by simp) (by simp) (by simp) (fun h=>by simp at h)
     ·cases hr
    ·cases hr
   ·rename_i id l' he
    injection hr with hr;subst hr
    intro hC S0 w0 n O a w φ hs
    have hx:=hs.bp x
    rw [he] at hx
    generalize hV:a.eval x=V at hx
    cases hx with
    | rep h=>cases h
    | pre _ _ e m g l c' hi sr hm kU hx bZ =>
     refine ⟨_,bW hs ho hc hu dq hV (l:=0) (m:=l) ⟨rfl,rfl⟩ kU,?_⟩
     have:(if c'=0 then (some ⟨g,0,none⟩:Option Addr) else (some ⟨g,0,none⟩:Option Addr).map (·.add (0*(z+1))))=some ⟨g,0,none⟩:=by simp [du]
     rw [this]
     exact .pre id _ e m g l c' hi sr hm kU hx bZ
    | dw _ e hi =>
     refine ⟨_,bW hs ho hc hu dq hV (l:=0) (m:=0) ⟨rfl,rfl⟩ (Nat.le_refl _),?_⟩
     simp only [if_true]
     exact .dw id e hi
   ·rename_i id l' n he
    split at hr
    ·rename_i q hq
     split at hr
     ·rename_i hb
      have uB:q.e=z+1:=Nat.eq_of_beq_eq_true hb
      injection hr with hr;subst hr
      intro hC S0 w0 n' O a w φ hs
      have hx:=hs.bp x
      rw [he] at hx
      generalize hV:a.eval x=V at hx
      cases hx with
      | rep h=>cases h
      | pre _ _ e m g l c' hi sr hm kU hx bZ =>
       obtain ⟨q',gM,h1,h2,h3⟩:=aO hi
       rw [hq] at gM;injection gM with gM;subst gM
       subst h1
       have hk:=mf hC.2.1 sr aj
       refine ⟨_,bW hs ho hc hu dq hV (l:=0) (m:=h.m) ⟨rfl,hC.1,aj⟩ kU,?_⟩
       have:(if c'=0 then (some ⟨g,0,none⟩:Option Addr) else (some ⟨g,0,none⟩:Option Addr).map (·.add (0*(z+1))))=some ⟨g,0,none⟩:=by simp [du]
       rw [this]
       exact .pre id _ q.e m g h.m c' hi (by rw [bw,Nat.mul_comm]) (by have:=hC.2.1;omega) aj hx bZ
      | dw _ e hi =>
       have hk:h.m=0:=by
        have h4:=hC.2.1
        rw [bw,uB] at h4
        exact sG h4
       refine ⟨_,bW hs ho hc hu dq hV (l:=0) (m:=h.m) ⟨rfl,hC.1,aj⟩ (Nat.le_refl _),?_⟩
       rw [hk]
       simp only [if_true]
       have e0:cS 0 q.e=0:=by rw [bw];simp
       rw [e0]
       exact .dw id e hi
     ·cases hr
    ·cases hr
   ·cases hr
  ·cases hr
 ·rename_i len el hu
  split at hr
  ·rename_i z dq
   have arr:∀(id:Nat) (q:Row),bp s x= .addr id 0->look s.H id=some q->q.full=true-> ∀S0 w0 n O a w φ,aG S0 w0 n O s a w φ-> ∃g,a.eval x= .pointer (some ⟨g,0,none⟩)∧az s.H φ id=some (q.e,q.cells.length,some g)∧aV w g=q.cells.length:=by
    intro id q he hq hf S0 w0 n O a w φ hs
    have hx:=hs.bp x
    rw [he] at hx
    obtain ⟨e,m,g,hi,hv⟩:=jK hx
    obtain ⟨q',gM,h1,h2,h3⟩:=aO hi
    rw [hq] at gM;injection gM with gM;subst gM
    refine ⟨g,hv,by rw [bq hq,h3],?_⟩
    have aN:=hs.rows id q hq
    unfold bN at aN
    rw [h3] at aN
    obtain ⟨cur,te,fr,hg,-,-,mI,-⟩:=aN
    unfold aV;rw [hg]
    exact mI hf
   split at hr
   ·rename_i id he
    split at hr
    ·rename_i q hq
     split at hr
     ·rename_i hb hf
      have uB:q.e=z+1:=Nat.eq_of_beq_eq_true hb
      injection hr with hr;subst hr
      intro hC S0 w0 n O a w φ hs
      obtain ⟨g,hv,hi,gC⟩:=arr id q he hq hf S0 w0 n O a w φ hs
      obtain ⟨iH,Ek,-⟩:=hC
      rw [bw] at iH
      refine ⟨_,jq hs ho hc hu dq hv (l:=0) (m:=len) ⟨rfl,rfl⟩,?_⟩
      have:(if len=0 then (⟨g,0,none⟩:Addr) else (⟨g,0,none⟩:Addr).add (0*(z+1)))=⟨g,0,none⟩:=by simp [du]
      rw [this]
      exact .ref id q.e _ g len len hi (by rw [iH,Nat.mul_comm]) (Nat.le_refl _) Ek (by rw [gC,iH,Nat.mul_comm])
     ·cases hr
    ·cases hr
   ·rename_i id n he
    split at hr
    ·rename_i q hq
     split at hr
     ·rename_i hb hf
      have uB:q.e=z+1:=Nat.eq_of_beq_eq_true hb
      injection hr with hr;subst hr
      intro hC S0 w0 n' O a w φ hs
      obtain ⟨g,hv,hi,gC⟩:=arr id q he hq hf S0 w0 n' O a w φ hs
      obtain ⟨PK,Gg,iH,Ek,-⟩:=hC
      rw [bw] at iH
      refine ⟨_,jq hs ho hc hu dq hv (l:=0) (m:=h.m) ⟨rfl,PK,Gg⟩,?_⟩
      have:(if len=0 then (⟨g,0,none⟩:Addr) else (⟨g,0,none⟩:Addr).add (0*(z+1)))=⟨g,0,none⟩:=by simp [du]
      rw [this,bw]
      exact .pre id _ q.e _ g h.m len hi (by rw [Nat.mul_comm]) (by rw [iH];exact Nat.mul_le_mul_right _ Gg) Gg Ek (by rw [gC,iH,Nat.mul_comm])
     ·cases hr
    ·cases hr
   ·rename_i id n he
    split at hr
    ·rename_i q hq
     split at hr
     ·rename_i hb hf
      have uB:q.e=z+1:=Nat.eq_of_beq_eq_true hb
      injection hr with hr;subst hr
      intro hC S0 w0 n' O a w φ hs
      obtain ⟨g,hv,hi,gC⟩:=arr id q he hq hf S0 w0 n' O a w φ hs
      obtain ⟨PK,Gg,iH,Ek,-⟩:=hC
      rw [bw] at iH
      refine ⟨_,jq hs ho hc hu dq hv (l:=h.k) (m:=len) ⟨PK,Gg,rfl⟩,?_⟩
      rw [bw,bw]
      have hmul:h.k*q.e≤len*q.e:=Nat.mul_le_mul_right _ Gg
      refine .jl id _ _ q.e _ (len-h.k) (len-h.k) (some g) _ hi (by rw [Nat.mul_comm]) (by rw [Nat.sub_mul,iH];omega) aj aj (fun h0=>⟨g,rfl,?_⟩)
      have cT:len≠h.k:=by
       intro e'
       have:len-h.k=0:=aj
       rw [this,Nat.zero_mul] at h0;omega
      rw [if_neg cT]
      simp [eZ,uB]
     ·cases hr
    ·cases hr
   ·rename_i id n n2 he
    split at hr
    ·rename_i q hq
     split at hr
     ·rename_i hb hf
      have uB:q.e=z+1:=Nat.eq_of_beq_eq_true hb
      injection hr with hr;subst hr
      intro hC S0 w0 n' O a w φ hs
      obtain ⟨g,hv,hi,gC⟩:=arr id q he hq hf S0 w0 n' O a w φ hs
      obtain ⟨PK,Od,TC,Gg,iH,Ek,-⟩:=hC
      rw [bw] at iH
      refine ⟨_,jq hs ho hc hu dq hv (l:=h.k) (m:=h.m) ⟨PK,Od,TC,Gg⟩,?_⟩
      rw [bw,bw]
      have hmul:h.k*q.e≤h.m*q.e:=Nat.mul_le_mul_right _ TC
      have Td:h.m*q.e≤len*q.e:=Nat.mul_le_mul_right _ Gg
      refine .jl id _ _ q.e _ (h.m-h.k) (len-h.k) (some g) _ hi (by rw [Nat.mul_comm]) (by rw [Nat.sub_mul,iH];omega) aj aj (fun h0=>⟨g,rfl,?_⟩)
      have cT:len≠h.k:=by
       intro e'
       have:h.m-h.k=0:=aj
       rw [this,Nat.zero_mul] at h0;omega
      rw [if_neg cT]
      simp [eZ,uB]
     ·cases hr
    ·cases hr
   ·cases hr
  ·cases hr
 ·cases hr
end
section
variable {P:Program} {s:AS} {o:Oper} {h:Hint} {r:AV×List Prop}
def ri (P:Program) (t:TypeId) (cs:List AV) (off:Nat) (h:Hint):Option (AV×List Prop) :=
 match ea P t,P.underlying t with
 | some sz,some d =>
  (match d with
  | .struct _| .array _ _=>(match Nat.beq ((cs.drop off).take sz).length sz with|true=>some (.agg ((cs.drop off).take sz),[])|false=>none)
  | _=>(match h.av with
   | some y=>some (y,[cs[off]?=some y])
   | none=>(match cs[off]? with|some y=>some (y,[])|none=>none)))
 | _,_=>none
theorem wK {I:Info} {S:Nat->Prop} {w:World} {t:TypeId} {cs:List AV} {off:Nat} (hr:ri P t cs off h=some r) (hC:bx r.2) (vs:List Value) (hl:vs.length=cs.length) (hd:∀(j:Nat) v c,vs[j]?=some v->cs[j]?=some c->Den I S w v c) :
  ∃v,(part t vs.toArray off).run P w= .ok v w∧Den I S w v r.1:=by
 unfold ri at hr
 split at hr
 ·rename_i sz d dq hu
  have hz:(sizeOf t).run P w= .ok sz w:=run_sizeOf dq
  have agg:cD P t=true->Nat.beq ((cs.drop off).take sz).length sz=true->r=(.agg ((cs.drop off).take sz),[])-> ∃v,(part t vs.toArray off).run P w= .ok v w∧Den I S w v r.1:=by
   intro ha hb hr
   subst hr
   have hlen:=Nat.eq_of_beq_eq_true hb
   rw [List.length_take,List.length_drop] at hlen
   refine ⟨.agg (vs.toArray.extract off (off+sz)),?_,?_⟩
   ·simp [part,ix ⟨d,hu⟩,ha,hz]
   ·have e:vs.toArray.extract off (off+sz)=((vs.drop off).take sz).toArray:=by
     simp [List.extract_eq_take_drop]
    rw [e]
    exact .agg _ _ (by rw [List.length_take,List.length_drop,List.length_take,List.length_drop];omega) fun j v c hv hc=>hd (off+j) v c (bS _ _ _ _ _ hv) (bS _ _ _ _ _ hc)
  have one:∀y,cD P t=false->cs[off]?=some y-> ∃v,(part t vs.toArray off).run P w= .ok v w∧Den I S w v y:=by
   intro y ha hy
   have dd:off<vs.length:=by have:=(List.getElem?_eq_some_iff.1 hy).1;omega
   have hv:vs[off]?=some vs[off]:=List.getElem?_eq_getElem dd
   refine ⟨vs[off],?_,hd off _ y hv hy⟩
   simp [part,ix ⟨d,hu⟩,ha,dd]
  split at hr
  ·have ha:cD P t=true:=by unfold cD;rw [hu]
   split at hr
   ·rename_i hb;injection hr with hr;exact agg ha hb hr.symm
   ·cases hr
  ·have ha:cD P t=true:=by unfold cD;rw [hu]
   split at hr
   ·rename_i hb;injection hr with hr;exact agg ha hb hr.symm
   ·cases hr
  ·rename_i NT Ru
   have ha:cD P t=false:=by
    unfold cD;rw [hu]
    cases d<;>first|rfl|exact absurd rfl (NT _)|exact absurd rfl (Ru _ _)
   split at hr
   ·injection hr with hr;subst hr
    exact one _ ha hC.1
   ·split at hr
    ·rename_i y hy
     injection hr with hr;subst hr
     exact one _ ha hy
    ·cases hr
 ·cases hr
def x8 (P:Program) (t:TypeId) (x:AV) (f:Nat) (h:Hint):Option (AV×List Prop) :=
 match P.underlying t,x with
 | some (.struct fields),.agg cs=>(match fields[f]? with|some fd=>ri P fd.type cs fd.offset h|none=>none)
 | _,_=>none
theorem CF {t:TypeId} {x:Operand} {f:Nat} (ho:o.op= .field t x f) (hr:x8 P t (bp s x) f h=some r):c_ P s o r.1 r.2:=by
 intro hC S0 w0 n O a w φ hs
 have hx:=hs.bp x
 unfold x8 at hr
 split at hr
 ·rename_i fields cs hu he
  split at hr
  ·rename_i fd hf
   rw [he] at hx
   obtain ⟨vs,hv,hl,hd⟩:=ka hx
   obtain ⟨v,h1,h2⟩:=wK hr hC vs hl hd
   refine ⟨v,?_,h2⟩
   unfold execOp
   simp [ho,Instr.field,run_underlying hu,hf,hv,asAgg,h1]
  ·cases hr
 ·cases hr
def rk (x:AV) (i:Nat):Option (AV×List Prop) :=
 match x with
 | .br cs=>(match cs[i]? with|some y=>some (y,[])|none=>none)
 | _=>none
theorem x9 {x:Operand} {i:Nat} (ho:o.op= .extract x i) (hr:rk (bp s x) i=some r):c_ P s o r.1 r.2:=by
 intro hC S0 w0 n O a w φ hs
 have hx:=hs.bp x
 unfold rk at hr
 split at hr
 ·rename_i cs he
  split at hr
  ·rename_i y hy
   injection hr with hr;subst hr
   rw [he] at hx
   obtain ⟨vs,hv,hl,hd⟩:=yp hx
   have dd:i<vs.length:=by have:=(List.getElem?_eq_some_iff.1 hy).1;omega
   have T6:vs[i]?=some vs[i]:=List.getElem?_eq_getElem dd
   refine ⟨vs[i],?_,hd i _ y T6 hy⟩
   unfold execOp
   simp [ho,Instr.extract,hv,dd]
  ·cases hr
 ·cases hr
def x6 (P:Program) (t:TypeId) (x:AV) (n:Int) (h:Hint):Option (AV×List Prop) :=
 match P.underlying t,x with
 | some (.array len el),.agg cs=>(match ea P el with|some z=>(match ri P el cs (cS h.k z) h with|some r=>some (r.1,(n=(h.k:Int))::(h.k<len)::r.2)|none=>none)|none=>none)
 | some (.array len el),.arr cs=>(match ea P el with|some z=>(match ri P el cs (cS h.k z) h with|some r=>some (r.1,(n=(h.k:Int))::(h.k<len)::r.2)|none=>none)|none=>none)
 | some .string,.val (.string b)=>some (fin h (.val (.int .u8 (bv (b.data.toList.getD h.k 0))),[n=(h.k:Int),h.k<b.size]))
 | _,_=>none
theorem qh {I:Info} {S:Nat->Prop} {w:World} {v:Value} {cs:List AV} (h:Den I S w v (.arr cs)):∃vs:List Value,v= .agg vs.toArray∧vs.length=cs.length∧ ∀(j:Nat) v c,vs[j]?=some v->cs[j]?=some c->cA S w v c:=by
 cases h with
 | rep h=>cases h with|arr vs _ hl h=>exact ⟨vs,rfl,hl,h⟩
theorem CD {t:TypeId} {x i:Operand} {k:IntKind} {n:Int} (ho:o.op= .index t x i) (hi:bp s i= .val (.int k n)) (hr:x6 P t (bp s x) n h=some r):c_ P s o r.1 r.2:=by
 unfold x6 at hr
 have arr:∀(len:Nat) (el:TypeId) (z:Nat) (q:AV×List Prop) (cs:List AV),P.underlying t=some (.array len el)->ea P el=some z->ri P el cs (cS h.k z) h=some q->r=(q.1,(n=(h.k:Int))::(h.k<len)::q.2) ->
   (∀S0 w0 n O a w φ,aG S0 w0 n O s a w φ-> ∃vs:List Value,a.eval x= .agg vs.toArray∧vs.length=cs.length∧ ∀(j:Nat) v c,vs[j]?=some v->cs[j]?=some c->Den (az s.H φ) (aM S0 w φ O) w v c)->c_ P s o r.1 r.2:=by
  intro len el z q cs hu hz hq hr hX
  subst hr
  intro hC S0 w0 n' O a w φ hs
  obtain ⟨h1,h2,hC⟩:=hC
  have ei:a.eval i= .int k n:=bJ (hi ▸ hs.bp i)
  obtain ⟨vs,hv,hl,hd⟩:=hX S0 w0 n' O a w φ hs
  obtain ⟨v,h3,h4⟩:=wK hq hC vs hl hd
  refine ⟨v,?_,h4⟩
  have mT:0≤n∧n<(len:Int):=aj
  have hk:n.toNat=h.k:=aj
  have Ar:(sizeOf el).run P w= .ok z w:=run_sizeOf hz
  rw [bw] at h3
  unfold execOp
  simp [ho,Instr.index,run_underlying hu,hv,asIntOf,ei,mT,hk,Ar,h3]
 split at hr
 ·rename_i len el cs hu he
  split at hr
  ·rename_i z hz
   split at hr
   ·rename_i q hq
    injection hr with hr
    refine arr len el z q cs hu hz hq hr.symm fun S0 w0 n O a w φ hs=>?_
    have hx:=hs.bp x
    rw [he] at hx
    exact ka hx
   ·cases hr
  ·cases hr
 ·rename_i len el cs hu he
  split at hr
  ·rename_i z hz
   split at hr
   ·rename_i q hq
    injection hr with hr
    refine arr len el z q cs hu hz hq hr.symm fun S0 w0 n O a w φ hs=>?_
    have hx:=hs.bp x
    rw [he] at hx
    obtain ⟨vs,h1,h2,h3⟩:=qh hx
    exact ⟨vs,h1,h2,fun j v c hv hc=>.rep (h3 j v c hv hc)⟩
   ·cases hr
  ·cases hr
 ·rename_i b hu he
  injection hr with hr;subst hr
  refine gw ?_
  intro hC S0 w0 n' O a w φ hs
  obtain ⟨h1,h2,-⟩:=hC
  have ei:a.eval i= .int k n:=bJ (hi ▸ hs.bp i)
  have ex:a.eval x= .string b:=bJ (he ▸ hs.bp x)
  refine ⟨_,?_,.rep (.val _)⟩
  have h0:0≤n:=aj
  have hk:n.toNat=h.k:=aj
  unfold execOp
  simp [ho,Instr.index,run_underlying hu,ex,asIntOf,ei,h0,hk,h2]
  rfl
 ·cases hr
def ID (x:AV):Option (AV×List Prop) :=
 match x with
 | .ptr row off=>some (.ptr row off,[])
 | .addr id off=>some (.addr id off,[])
 | .val (.func (.func f) l c)=>some (.val (.func (.func f) l c),[])
 | _=>none
theorem IC {x:Operand} (ho:o.op= .nilCheck x) (hr:ID (bp s x)=some r):c_ P s o r.1 r.2:=by
 intro hC S0 w0 n O a w φ hs
 have hx:=hs.bp x
 unfold ID at hr
 split at hr
 ·rename_i row off he
  injection hr with hr;subst hr
  rw [he] at hx
  obtain ⟨ad,us,hv,-⟩:=sX hx
  refine ⟨a.eval x,?_,hx⟩
  unfold execOp
  simp [ho,hv]
 ·rename_i id off he
  injection hr with hr;subst hr
  rw [he] at hx
  obtain ⟨e,m,g,-,hv⟩:=jK hx
  refine ⟨a.eval x,?_,hx⟩
  unfold execOp
  simp [ho,hv]
 ·rename_i f l c he
  injection hr with hr;subst hr
  rw [he] at hx
  have hv:=bJ hx
  refine ⟨a.eval x,?_,hx⟩
  unfold execOp
  simp [ho,hv]
 ·cases hr
def Cy (s:AS) (c x y:Operand) (h:Hint):Option (AV×List Prop) :=
 match bp s c with
 | .val (.bool b)=>(match h.b with|true=>some (bp s x,[b=true])|false=>some (bp s y,[b=false]))
 | _=>none
theorem Fz {c x y:Operand} {h:Hint} (ho:o.op= .pick c x y) (hr:Cy s c x y h=some r):c_ P s o r.1 r.2:=by
 intro hC S0 w0 n O a w φ hs
 unfold Cy at hr
 split at hr
 ·rename_i b he
  split at hr
  ·cases hr
   have ec:a.eval c= .bool true:=by
    have h1:a.eval c= .bool b:=bJ (he ▸ hs.bp c)
    rw [h1,show b=true from hC.1]
   refine ⟨a.eval x,?_,hs.bp x⟩
   unfold execOp
   simp [ho,ec,asBool]
  ·cases hr
   have ec:a.eval c= .bool false:=by
    have h1:a.eval c= .bool b:=bJ (he ▸ hs.bp c)
    rw [h1,show b=false from hC.1]
   refine ⟨a.eval y,?_,hs.bp y⟩
   unfold execOp
   simp [ho,ec,asBool]
 ·cases hr
def IF (P:Program) (s:AS) (ts:Array TypeId) (ty:TypeId) (x:AV) (h:Hint):Option (AV×List Prop) :=
 match x with
 | .val u=>(match jZ P (Builtin.len_ ts ty #[u]) with|some z=>some (fin h (.val z,[]))|none=>none)
 | x=>(match ts[0]? with
  | some t=>(match P.underlying t with
   | some (.slice _)=>(match x with
    | .nil=>some (.val (.int .i64 0),[])
    | .sl (e+1) row=>some (.val (.int .i64 h.k),[row.length=cS h.k (e+1)])
    | .ref id=>(match look s.H id with|some ⟨e+1,_,_,cells⟩=>some (.val (.int .i64 h.k),[cells.length=cS h.k (e+1)])|_=>none)
    | .pre id l=>(match look s.H id with|some ⟨e+1,_,_,_⟩=>some (.val (.int .i64 h.k),[l=cS h.k (e+1)])|_=>none)
    | .jl id _ l=>(match look s.H id with|some ⟨e+1,_,_,_⟩=>some (.val (.int .i64 h.k),[l=cS h.k (e+1)])|_=>none)
    | _=>none)
   | some (.array n _)=>some (.val (.int .i64 n),[])
   | _=>none)
  | none=>none)
theorem qV {q e l k:Nat} (h1:q=cS k (e+1)) (h2:q=(e+1)*l):l=k:=by
 rw [bw,h2,Nat.mul_comm k] at h1
 exact Nat.eq_of_mul_eq_mul_left aj h1
theorem IE {x:Operand} {ts:Array TypeId} (ho:o.op= .call {callee:=.builtin .len,args:= #[x],argTypes:=ts}) (hr:IF P s ts o.type (bp s x) h=some r):c_ P s o r.1 r.2:=by
 unfold IF at hr
 split at hr
 ·rename_i u he
  split at hr
  ·rename_i z hz
   injection hr with hr;subst hr
   refine gw ?_
   intro hC S0 w0 n O a w φ hs
   have ex:a.eval x=u:=bJ (he ▸ hs.bp x)
   refine ⟨z,?_,.rep (.val _)⟩
   unfold execOp
   simp [ho,resolve,invoke,builtin,ex,fJ w hz]
  ·cases hr
 ·split at hr
  ·rename_i t ht
   split at hr
   ·rename_i el hu
    have run:∀(a:Act) (w:World) (A:Option Addr) (l c:Nat),a.eval x= .slice A l c->(execOp a.eval o).run P w= .ok (.value (.int .i64 l)) w:=by
     intro a w A l c hv
     unfold execOp
     simp [ho,resolve,invoke,builtin,hv,Builtin.len_,ht,run_underlying hu,goInt]
    split at hr
    ·rename_i he
     injection hr with hr;subst hr
     intro hC S0 w0 n O a w φ hs
     have hx:=hs.bp x
     rw [he] at hx
     generalize hV:a.eval x=V at hx
     cases hx with|rep h=>cases h with|nil=>exact ⟨_,run a w _ _ _ hV,.rep (.val _)⟩
    ·rename_i e row he
     injection hr with hr;subst hr
     intro hC S0 w0 n O a w φ hs
     have hx:=hs.bp x
     rw [he] at hx
     have b7:=pa hx
     generalize hV:a.eval x=V at b7
     cases b7 with
     | sl A l c _ us _ hl hn hc hm ha h' =>
      have:=qV hC.1 hn
      subst this
      exact ⟨_,run a w _ _ _ hV,.rep (.val _)⟩
    ·rename_i id he
     split at hr
     ·rename_i e pu fu cells hq
      injection hr with hr;subst hr
      intro hC S0 w0 n O a w φ hs
      have hx:=hs.bp x
      rw [he] at hx
      generalize hV:a.eval x=V at hx
      cases hx with
      | rep h=>cases h
      | ref _ e m g l c hi hm hc hx bZ =>
       rw [bq hq] at hi
       injection hi with hi;injection hi with h1 hi;injection hi with h2 h3
       have:=qV hC.1 (by rw [show cells.length=m from h2,hm,←h1])
       subst this
       exact ⟨_,run a w _ _ _ hV,.rep (.val _)⟩
      | cC _ e hi =>
       rw [bq hq] at hi
       injection hi with hi;injection hi with h1 hi;injection hi with h2 h3
       have:=qV (l:=0) hC.1 (by rw [show cells.length=0 from h2];simp)
       rw [←this]
       exact ⟨_,run a w _ _ _ hV,.rep (.val _)⟩
     ·cases hr
    ·rename_i id l' he
     split at hr
     ·rename_i e pu fu cells hq
      injection hr with hr;subst hr
      intro hC S0 w0 n O a w φ hs
      have hx:=hs.bp x
      rw [he] at hx
      generalize hV:a.eval x=V at hx
      cases hx with
      | rep h=>cases h
      | pre _ _ e m g l c hi hn hm hc hx bZ =>
       rw [bq hq] at hi
       injection hi with hi;injection hi with h1 hi;injection hi with h2 h3
       have:=qV hC.1 (by rw [hn,←h1])
       subst this
       exact ⟨_,run a w _ _ _ hV,.rep (.val _)⟩
      | dw _ e hi =>
       have:=qV (l:=0) hC.1 (by simp)
       rw [←this]
       exact ⟨_,run a w _ _ _ hV,.rep (.val _)⟩
     ·cases hr
    ·rename_i id off l' he
     split at hr
     ·rename_i e pu fu cells hq
      injection hr with hr;subst hr
      intro hC S0 w0 n O a w φ hs
      have hx:=hs.bp x
      rw [he] at hx
      generalize hV:a.eval x=V at hx
      cases hx with
      | rep h=>cases h
      | jl _ _ _ e m l c g A hi hn hm hc hx ha =>
       rw [bq hq] at hi
       injection hi with hi;injection hi with h1 hi;injection hi with h2 h3
       have:=qV hC.1 (by rw [hn,←h1])
       subst this
       exact ⟨_,run a w _ _ _ hV,.rep (.val _)⟩
     ·cases hr
    ·cases hr
   ·rename_i n' el hu
    injection hr with hr;subst hr
    intro hC S0 w0 n O a w φ hs
    refine ⟨.int .i64 n',?_,.rep (.val _)⟩
    unfold execOp
    simp [ho,resolve,invoke,builtin,Builtin.len_,ht,run_underlying hu,goInt]
   ·cases hr
  ·cases hr
def tq (s:AS):List Operand->Option (List Value)
 | []=>some []
 | x::l=>match bp s x,tq s l with| .val u,some m=>some (u::m)|_,_=>none
theorem vM {S0:bm} {w0 w:World} {n:Nat} {O:List Nat} {a:Act} {φ:Nat->Option Nat} (hs:aG S0 w0 n O s a w φ):∀(xs:List Operand) (us:List Value),tq s xs=some us->xs.map a.eval=us
 | [],us,h=>by cases h;rfl
 | x::l,us,h=>by
  simp only [tq] at h
  split at h
  ·rename_i u m hu hm
   injection h with h;subst h
   rw [List.map_cons,vM hs l m hm,show a.eval x=u from bJ (hu ▸ hs.bp x)]
  ·cases h
def Nc (P:Program) (b:Builtin) (ts:Array TypeId) (ty:TypeId) (us:List Value):Option (AV×List Prop) :=
 match b with
 | .min=>(match jZ P (Builtin.min_ ts ty us.toArray) with|some z=>some (.val z,[])|none=>none)
 | .max=>(match jZ P (Builtin.max_ ts ty us.toArray) with|some z=>some (.val z,[])|none=>none)
 | _=>none
theorem K0 {b:Builtin} {xs:Array Operand} {ts:Array TypeId} {us:List Value} (ho:o.op= .call {callee:=.builtin b,args:=xs,argTypes:=ts}) (hu:tq s xs.toList=some us) (hr:Nc P b ts o.type us=some r):c_ P s o r.1 r.2:=by
 intro hC S0 w0 n O a w φ hs
 have e:=vM hs _ _ hu
 have e2:xs.map a.eval=us.toArray:=Array.toList_inj.1 (by rw [Array.toList_map,e])
 unfold Nc at hr
 split at hr
 ·split at hr
  ·rename_i z hz
   injection hr with hr;subst hr
   refine ⟨z,?_,.rep (.val _)⟩
   unfold execOp
   simp [ho,resolve,invoke,builtin,e2,fJ w hz]
  ·cases hr
 ·split at hr
  ·rename_i z hz
   injection hr with hr;subst hr
   refine ⟨z,?_,.rep (.val _)⟩
   unfold execOp
   simp [ho,resolve,invoke,builtin,e2,fJ w hz]
  ·cases hr
 ·cases hr
end
end Go.Proofs.YtjgbhhnghedgdaaGreatDoor
