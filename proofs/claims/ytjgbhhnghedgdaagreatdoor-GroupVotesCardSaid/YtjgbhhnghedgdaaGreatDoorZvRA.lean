import Derived.Test.YtjgbhhnghedgdaaGreatDoorZvRW
import Derived.Shelf.Unicode.DecodeSlow
import Derived.Calls
import Derived.Laws.Cells
set_option linter.all false
namespace Go.Proofs.YtjgbhhnghedgdaaGreatDoor
open Go.RowKit
inductive AV where
 | val (v:Value)
 | nil
 | agg (cs:List AV)
 | cw (cs:List AV)
 | arr (cs:List AV)
 | sl (e:Nat) (row:List AV)
 | ptr (row:List AV) (off:Nat)
 | own (e:Nat) (row:List AV)
 | box (row:List AV)
 | ref (id:Nat)
 | pre (id n:Nat)
 | jE (id off n:Nat)
 | addr (id off:Nat)
 | mI (f:Nat) (cs:List AV)
 | sg (e:Nat) (row:List AV)
 | dead
 deriving Inhabited
inductive cz (S:Nat->Prop) (w:World):Value->AV->Prop
 | val (v:Value):cz S w v (.val v)
 | nil:cz S w (.slice none 0 0) .nil
 | agg (vs:List Value) (cs:List AV) (hl:vs.length=cs.length) (h:∀(j:Nat) v c,vs[j]?=some v->cs[j]?=some c->cz S w v c):cz S w (.agg vs.toArray) (.agg cs)
 | cw (vs:List Value) (cs:List AV) (hl:vs.length=cs.length) (h:∀(j:Nat) v c,vs[j]?=some v->cs[j]?=some c->cz S w v c):cz S w (.tuple vs.toArray) (.cw cs)
 | arr (vs:List Value) (cs:List AV) (hl:vs.length=cs.length) (h:∀(j:Nat) v c,vs[j]?=some v->cs[j]?=some c->cz S w v c):cz S w (.agg vs.toArray) (.arr cs)
 | sl (A:Option Addr) (n c e:Nat) (us:List Value) (row:List AV) (hl:us.length=row.length) (hn:row.length=e*n) (hc:n≤c) (hm:c≤maxLen)
   (ha:0<row.length-> ∃ad,A=some ad∧S ad.block∧ ∀(j:Nat) u,us[j]?=some u->w.cell? (ad.add j)=some u)
   (h:∀(j:Nat) u x,us[j]?=some u->row[j]?=some x->cz S w u x):cz S w (.slice A n c) (.sl e row)
 | sg (A:Option Addr) (n e:Nat) (us:List Value) (row:List AV) (hl:us.length=row.length) (hn:row.length=e*n) (hm:n≤maxLen)
   (ha:0<row.length-> ∃ad,A=some ad∧S ad.block∧ ∀(j:Nat) u,us[j]?=some u->w.cell? (ad.add j)=some u)
   (h:∀(j:Nat) u x,us[j]?=some u->row[j]?=some x->cz S w u x):cz S w (.slice A n n) (.sg e row)
 | ptr (ad:Addr) (us:List Value) (row:List AV) (off:Nat) (hl:us.length=row.length) (hs:S ad.block) (ha:∀(j:Nat) u,us[j]?=some u->w.cell? (ad.add j)=some u)
   (h:∀(j:Nat) u x,us[j]?=some u->row[j]?=some x->cz S w u x):cz S w (.pointer (some (ad.add off))) (.ptr row off)
 | mI (f:Nat) (vs:List Value) (cs:List AV) (hl:vs.length=cs.length) (h:∀(j:Nat) v c,vs[j]?=some v->cs[j]?=some c->cz S w v c):cz S w (.func (.func f) #[] vs.toArray) (.mI f cs)
theorem kN {w w':World} {p:Addr} (h:w'.heap[p.block]?=w.heap[p.block]?):w'.cell? p=w.cell? p:=World.cell?_of_block (w:=w) h
theorem cz.mono {S S':Nat->Prop} {w w':World} (hS:∀b,S b->S' b∧w'.heap[b]?=w.heap[b]?) {v:Value} {av:AV} (h:cz S w v av):cz S' w' v av:=by
 induction h with
 | val v=>exact .val v
 | nil=>exact .nil
 | agg vs cs hl _ ih=>exact .agg vs cs hl ih
 | cw vs cs hl _ ih=>exact .cw vs cs hl ih
 | arr vs cs hl _ ih=>exact .arr vs cs hl ih
 | sl A n c e us row hl hn hc hm ha _ ih =>
  refine .sl A n c e us row hl hn hc hm (fun h0=>?_) ih
  obtain ⟨ad,rfl,hb,bw⟩:=ha h0
  exact ⟨ad,rfl,(hS _ hb).1,fun j u hu=>(kN (by rw [gX];exact (hS _ hb).2)).trans (bw j u hu)⟩
 | sg A n e us row hl hn hm ha _ ih =>
  refine .sg A n e us row hl hn hm (fun h0=>?_) ih
  obtain ⟨ad,rfl,hb,bw⟩:=ha h0
  exact ⟨ad,rfl,(hS _ hb).1,fun j u hu=>(kN (by rw [gX];exact (hS _ hb).2)).trans (bw j u hu)⟩
 | ptr ad us row off hl hs ha _ ih =>
  exact .ptr ad us row off hl (hS _ hs).1 (fun j u hu=>(kN (by rw [gX];exact (hS _ hs).2)).trans (ha j u hu)) ih
 | mI f vs cs hl _ ih=>exact .mI f vs cs hl ih
abbrev Info:=Nat->Option (Nat×Nat×Option Nat)
def aW (w:World) (g:Nat):Nat:=match w.heap[g]? with|some (.cells c _ _)=>c.size|_=>0
inductive Den (I:Info) (S:Nat->Prop) (w:World):Value->AV->Prop
 | rep {v:Value} {av:AV} (h:cz S w v av):Den I S w v av
 | agg (vs:List Value) (cs:List AV) (hl:vs.length=cs.length) (h:∀(j:Nat) v c,vs[j]?=some v->cs[j]?=some c->Den I S w v c):Den I S w (.agg vs.toArray) (.agg cs)
 | cw (vs:List Value) (cs:List AV) (hl:vs.length=cs.length) (h:∀(j:Nat) v c,vs[j]?=some v->cs[j]?=some c->Den I S w v c):Den I S w (.tuple vs.toArray) (.cw cs)
 | ref (id e m g l c:Nat) (hi:I id=some (e,m,some g)) (hm:m=e*l) (hc:l≤c) (hx:c≤maxLen) (hs:aW w g=e*c):Den I S w (.slice (some ⟨g,0,none⟩) l c) (.ref id)
 | cm (id e:Nat) (hi:I id=some (e,0,none)):Den I S w (.slice none 0 0) (.ref id)
 | pre (id n e m g l c:Nat) (hi:I id=some (e,m,some g)) (hn:n=e*l) (hm:n≤m) (hc:l≤c) (hx:c≤maxLen) (hs:aW w g=e*c):Den I S w (.slice (some ⟨g,0,none⟩) l c) (.pre id n)
 | dP (id e:Nat) (hi:I id=some (e,0,none)):Den I S w (.slice none 0 0) (.pre id 0)
 | jE (id off n e m l c:Nat) (g:Option Nat) (A:Option Addr) (hi:I id=some (e,m,g)) (hn:n=e*l) (hm:off+n≤m) (hc:l≤c) (hx:c≤maxLen) (ha:0<n-> ∃b,g=some b∧A=some ⟨b,off,none⟩):Den I S w (.slice A l c) (.jE id off n)
 | addr (id off e m g:Nat) (hi:I id=some (e,m,some g)):Den I S w (.pointer (some ⟨g,off,none⟩)) (.addr id off)
 | dead (v:Value):Den I S w v .dead
theorem Den.mono {I I':Info} {S S':Nat->Prop} {w w':World} (hI:∀id x,I id=some x->I' id=some x) (hS:∀b,S b->S' b∧w'.heap[b]?=w.heap[b]?)
  (hL:∀id e m g,I id=some (e,m,some g)->aW w' g=aW w g) {v:Value} {av:AV} (h:Den I S w v av):Den I' S' w' v av:=by
 induction h with
 | rep h=>exact .rep (h.mono hS)
 | agg vs cs hl _ ih=>exact .agg vs cs hl ih
 | cw vs cs hl _ ih=>exact .cw vs cs hl ih
 | ref id e m g l c hi hm hc hx hs=>exact .ref id e m g l c (hI _ _ hi) hm hc hx ((hL _ _ _ _ hi).trans hs)
 | cm id e hi=>exact .cm id e (hI _ _ hi)
 | pre id n e m g l c hi hn hm hc hx hs=>exact .pre id n e m g l c (hI _ _ hi) hn hm hc hx ((hL _ _ _ _ hi).trans hs)
 | dP id e hi=>exact .dP id e (hI _ _ hi)
 | jE id off n e m l c g A hi hn hm hc hx ha=>exact .jE id off n e m l c g A (hI _ _ hi) hn hm hc hx ha
 | addr id off e m g hi=>exact .addr id off e m g (hI _ _ hi)
 | dead v=>exact .dead v
structure Row where
 e:Nat
 pure:Bool
 full:Bool
 cells:List AV
def bh (I:Info) (S:Nat->Prop) (w:World) (p:Bool) (u:Value) (x:AV):Prop:=match p with|true=>cz S w u x|false=>Den I S w u x
def bJ (I:Info) (S:Nat->Prop) (w:World) (b:Option Nat) (r:Row):Prop :=
 match b with
 | none=>r.cells= []
 | some g=>∃cur te fr,w.heap[g]?=some (.cells cur te fr)∧(∀j,j<cur.size-> ¬(fr.1≤j∧j<fr.2))∧r.cells.length≤cur.size∧(r.full=true->cur.size=r.cells.length) ∧
   ∀(j:Nat) u x,cur[j]?=some u->r.cells[j]?=some x->bh I S w r.pure u x
def look {α:Type}:List (Nat×α)->Nat->Option α
 | [],_=>none
 | (k,x)::l,i=>match Nat.beq k i with|true=>some x|false=>look l i
def cR {α:Type}:List (Nat×α)->Nat->List (Nat×α)
 | [],_=>[]
 | (k,x)::l,i=>match Nat.beq k i with|true=>cR l i|false=>(k,x)::cR l i
def eD {α:Type} (f:α->α):List (Nat×α)->List (Nat×α)
 | []=>[]
 | (k,x)::l=>(k,f x)::eD f l
theorem bI (k i:Nat):(Nat.beq k i=true∧k=i)∨(Nat.beq k i=false∧k≠i):=by
 cases h:Nat.beq k i with
 | true=>exact .inl ⟨rfl,Nat.eq_of_beq_eq_true h⟩
 | false=>exact .inr ⟨rfl,Nat.ne_of_beq_eq_false h⟩
theorem aD {α:Type} (k:Nat) (x:α) (l:List (Nat×α)) (i:Nat):look ((k,x)::l) i=if k=i then some x else look l i:=by
 rcases bI k i with ⟨h,e⟩|⟨h,e⟩<;>simp [look,h,e]
theorem bH {α:Type} (l:List (Nat×α)) (i j:Nat):look (cR l i) j=if i=j then none else look l j:=by
 induction l with
 | nil=>simp [cR,look]
 | cons p l ih =>
  obtain ⟨k,x⟩:=p
  rcases bI k i with ⟨h,e⟩|⟨h,e⟩
  ·simp only [cR,h];rw [ih,aD,e]
   by_cases hj:i=j<;>simp [hj]
  ·simp only [cR,h,aD,ih]
   by_cases hk:k=j
   ·subst hk;simp [Ne.symm e]
   ·simp [hk]
theorem cy {α:Type} (f:α->α) (l:List (Nat×α)) (i:Nat):look (eD f l) i=(look l i).map f:=by
 induction l with
 | nil=>rfl
 | cons p l ih =>
  obtain ⟨k,x⟩:=p
  simp only [eD,aD,ih]
  by_cases hk:k=i<;>simp [hk]
theorem bL {α:Type} (l m:List (Nat×α)) (i:Nat):look (l++m) i=(look l i).or (look m i):=by
 induction l with
 | nil=>simp [look]
 | cons p l ih =>
  obtain ⟨k,x⟩:=p
  simp only [List.cons_append,aD,ih]
  by_cases hk:k=i<;>simp [hk]
structure AS where
 F:List (Nat×AV)
 H:List (Nat×Row)
def az (H:List (Nat×Row)) (φ:Nat->Option Nat):Info:=fun id=>(look H id).map fun r=>(r.e,r.cells.length,φ id)
def TB (b:Nat):Prop:=b=0∨b=1
def Good (w:World):Prop:=Lib.Utf8Tabs 0 1 w
theorem Good.aa {w w':World} (h:Good w) (hk:∀b,TB b->w'.heap[b]?=w.heap[b]?):Good w' :=
 ⟨fun c hc=>(World.cell?_of_block (hk _ (.inl rfl))).trans (h.1 c hc),fun i hi=>⟨(World.cell?_of_block (hk _ (.inr rfl))).trans (h.2 i hi).1,(World.cell?_of_block (hk _ (.inr rfl))).trans (h.2 i hi).2⟩⟩
theorem Good.lt {w:World} (h:Good w) {b:Nat} (hb:TB b):b<w.heap.size:=by
 have lt:∀ {a:Addr} {v:Value},w.cell? a=some v->a.block<w.heap.size:=fun {a v} hc=>by
  rcases Nat.lt_or_ge a.block w.heap.size with h'|h'
  ·exact h'
  ·simp [World.cell?,Array.getElem?_eq_none h'] at hc
 rcases hb with rfl|rfl
 ·exact lt (h.1 0 (by decide))
 ·exact lt (h.2 0 (by decide)).1
structure bn where
 S:Nat->Prop
 X:Nat->Prop
 fix:Nat->Option Nat
 tq:List Deferred:=[]
instance:CoeFun bn fun _=>Nat->Prop:=⟨bn.S⟩
def Rn (S0:bn) (w0:World) (id g:Nat):Prop:=(id<1000000000000∨S0.fix id=some g)∧(w0.heap.size≤g∨S0.X g)
structure Kept (S0:bn) (w0 w:World):Prop where
 os:w.os=w0.os
 tape:w.tape=w0.tape
 output:w.output=w0.output
 size:w0.heap.size≤w.heap.size
 block:∀k,k<w0.heap.size-> ¬S0.X k->w.heap[k]?=w0.heap[k]?
 g0:Good w0
 gx:∀b,TB b-> ¬S0.X b
theorem Kept.ng {S0:bn} {w0 w:World} (h:Kept S0 w0 w):Good w:=h.g0.aa fun b hb=>h.block b (h.g0.lt hb) (h.gx b hb)
theorem Kept.qh {S0:bn} {w0 w w':World} (h:Kept S0 w0 w) (hb:Below w.heap.size w w'):Kept S0 w0 w' :=
 ⟨hb.os.trans h.os,hb.tape.trans h.tape,hb.output.trans h.output,Nat.le_trans h.size hb.size,fun k hk hx=>(hb.block k (Nat.lt_of_lt_of_le hk h.size)).trans (h.block k hk hx),h.g0,h.gx⟩
theorem Kept.below {S0:bn} {w0 w:World} (h:Kept S0 w0 w) (hX:∀b,¬S0.X b):Below w0.heap.size w0 w :=
 ⟨h.os,h.tape,h.output,h.size,fun k hk=>h.block k hk (hX k)⟩
def aP (S0:bn) (w:World) (φ:Nat->Option Nat) (O:List Nat):Nat->Prop:=fun b=>b<w.heap.size∧b ∉ O∧(∀id,φ id≠some b)∧S0 b
structure aI (S0:bn) (w0:World) (n:Nat) (O:List Nat) (s:AS) (a:Act) (w:World) (φ:Nat->Option Nat):Prop where
 j8:a.tmps.size=n
 ke:a.defers=S0.tq
 da:Kept S0 w0 w
 cC:∀i av,look s.F i=some av->Den (az s.H φ) (aP S0 w φ O) w (a.tmps.getD i undef) av
 rows:∀id r,look s.H id=some r->bJ (az s.H φ) (aP S0 w φ O) w (φ id) r
 only:∀id,look s.H id=none->φ id=none
 inj:∀id pe g,φ id=some g->φ pe=some g->id=pe
 cY:∀id g,φ id=some g->Rn S0 w0 id g∧g<w.heap.size
 apart:∀id g,φ id=some g->g ∉ O
 new:∀b,(w0.heap.size≤b∨S0.X b)->S0 b
def ie (S0:bn) (w0:World) (n:Nat) (s:AS) (a:Act) (w:World):Prop:=∃ φ,aI S0 w0 n [] s a w φ
theorem Kept.tD {S0:bn} {w0 w:World} (h:Kept S0 w0 w) {g:Nat} (hg:w0.heap.size≤g∨S0.X g):¬TB g:=fun hb=>hg.elim (fun h1=>by have:=h.g0.lt hb;omega) (h.gx g hb)
theorem aI.tD {S0:bn} {w0 w:World} {n:Nat} {O:List Nat} {s:AS} {a:Act} {φ:Nat->Option Nat} (h:aI S0 w0 n O s a w φ) {b:Nat} (hb:TB b):¬ ∃id,φ id=some b:=fun ⟨id,hid⟩=>h.da.tD (h.cY id b hid).1.2 hb
def ka (s:AS) (i:Nat):AV:=match look s.F i with|some x=>x|none=>.dead
def lT (s:AS) (i:Nat) (x:AV):AS:=⟨(i,x)::cR s.F i,s.H⟩
theorem rW (s:AS) (i j:Nat) (x:AV):look (lT s i x).F j=if i=j then some x else look s.F j:=by
 simp only [lT,aD,bH]
 by_cases h:i=j<;>simp [h]
section
variable {S0:bn} {w0 w w':World} {n:Nat} {O:List Nat} {s:AS} {a:Act} {φ:Nat->Option Nat}
theorem aI.get (h:aI S0 w0 n O s a w φ) (i:Nat):Den (az s.H φ) (aP S0 w φ O) w (a.tmps.getD i undef) (ka s i):=by
 unfold ka
 cases hl:look s.F i with
 | none=>exact .dead _
 | some x=>exact h.cC i x hl
theorem qu (a:Act) (d i:Nat) (v:Value) (hd:d<a.tmps.size):(a.put (some d) v).tmps.getD i undef=if d=i then v else a.tmps.getD i undef:=by
 simp only [Act.put]
 by_cases h:d=i
 ·subst h;simp [hd]
 ·simp [h,Array.getElem?_setIfInBounds_ne h]
theorem uG (a:Act) (d:Option Nat) (v:Value):(a.put d v).tmps.size=a.tmps.size:=by cases d<;>simp [Act.put]
theorem pY (a:Act) (d:Option Nat) (v:Value):(a.put d v).defers=a.defers:=by cases d<;>simp [Act.put]
theorem aI.put (h:aI S0 w0 n O s a w φ) {d:Nat} (hd:d<n) {v:Value} {x:AV} (hx:Den (az s.H φ) (aP S0 w φ O) w v x):aI S0 w0 n O (lT s d x) (a.put (some d) v) w φ where
 j8:=(uG ..).trans h.j8
 ke:=(pY ..).trans h.ke
 da:=h.da
 cC:=fun i av hi=>by
  rw [qu a d i v (by rw [h.j8];exact hd)]
  rw [rW] at hi
  by_cases e:d=i
  ·rw [if_pos e] at hi ⊢
   injection hi with hi
   subst hi;exact hx
  ·rw [if_neg e] at hi ⊢
   exact h.cC i av hi
 rows:=h.rows
 only:=h.only
 inj:=h.inj
 cY:=h.cY
 apart:=h.apart
 new:=h.new
theorem aI.grow (h:aI S0 w0 n O s a w φ) (hb:Below w.heap.size w w'):aI S0 w0 n O s a w' φ where
 j8:=h.j8
 ke:=h.ke
 da:=h.da.qh hb
 cC:=fun i av hi=>(h.cC i av hi).mono (fun _ _ h=>h) (fun b hS=>⟨⟨Nat.lt_of_lt_of_le hS.1 hb.size,hS.2⟩,hb.block b hS.1⟩) (fun id e m g hi=>by
  have hg:φ id=some g:=by
   unfold az at hi
   cases hl:look s.H id with
   | none=>rw [hl] at hi;cases hi
   | some r=>rw [hl] at hi;simp at hi;exact hi.2.2
  unfold aW;rw [hb.block g (h.cY id g hg).2])
 rows:=fun id r hr=>by
  have aQ:=h.rows id r hr
  unfold bJ at aQ ⊢
  cases bW:φ id with
  | none=>rw [bW] at aQ;exact aQ
  | some g =>
   rw [bW] at aQ
   obtain ⟨cur,te,fr,hg,hf,hl,nr,hc⟩:=aQ
   refine ⟨cur,te,fr,(hb.block g (h.cY id g bW).2).trans hg,hf,hl,nr,fun j u x hu hx=>?_⟩
   have bw:=hc j u x hu hx
   have hS:∀b,aP S0 w φ O b->aP S0 w' φ O b∧w'.heap[b]?=w.heap[b]?:=fun b hS=>⟨⟨Nat.lt_of_lt_of_le hS.1 hb.size,hS.2⟩,hb.block b hS.1⟩
   unfold bh at bw ⊢
   cases hp:r.pure with
   | true=>rw [hp] at bw;exact bw.mono hS
   | false =>
    rw [hp] at bw
    exact bw.mono (fun _ _ h=>h) hS (fun id e m g hi=>by
     have hg:φ id=some g:=by
      unfold az at hi
      cases hl:look s.H id with
      | none=>rw [hl] at hi;cases hi
      | some r=>rw [hl] at hi;simp at hi;exact hi.2.2
     unfold aW;rw [hb.block g (h.cY id g hg).2])
 only:=h.only
 inj:=h.inj
 cY:=fun id g hg=>⟨(h.cY id g hg).1,Nat.lt_of_lt_of_le (h.cY id g hg).2 hb.size⟩
 apart:=h.apart
 new:=h.new
end
def aF (id:Nat):AV->AV
 | .ref i=>match Nat.beq i id with|true=>.dead|false=>.ref i
 | .pre i n=>match Nat.beq i id with|true=>.dead|false=>.pre i n
 | .jE i o n=>match Nat.beq i id with|true=>.dead|false=>.jE i o n
 | .addr i o=>match Nat.beq i id with|true=>.dead|false=>.addr i o
 | .agg _=>.dead
 | .cw _=>.dead
 | x=>x
def E1 (id:Nat):AV->AV
 | .agg cs=>.agg (cs.map (aF id))
 | x=>aF id x
def jY (id:Nat):AV->AV
 | .cw cs=>.cw (cs.map (E1 id))
 | x=>E1 id x
def bE (id:Nat) (r:Row):Row:=match r.pure with|true=>r|false=>⟨r.e,false,r.full,r.cells.map (aF id)⟩
def ck (id:Nat) (s:AS):AS:=⟨eD (jY id) s.F,eD (bE id) (cR s.H id)⟩
def me (id:Nat) (r:Row):AV->AV
 | .ref i=>match Nat.beq i id with|true=>.sl r.e r.cells|false=>.ref i
 | .pre i n=>match Nat.beq i id with|true=>.sl r.e (r.cells.take n)|false=>.pre i n
 | .jE i o n=>match Nat.beq i id with|true=>.sl r.e ((r.cells.drop o).take n)|false=>.jE i o n
 | .addr i o=>match Nat.beq i id with|true=>.ptr r.cells o|false=>.addr i o
 | .agg _=>.dead
 | .cw _=>.dead
 | x=>x
def Ey (id:Nat) (r:Row):AV->AV
 | .agg cs=>.agg (cs.map (me id r))
 | x=>me id r x
def Mo (id:Nat) (r:Row):AV->AV
 | .cw cs=>.cw (cs.map (Ey id r))
 | x=>Ey id r x
def fN (id:Nat) (r:Row) (q:Row):Row:=match q.pure with|true=>q|false=>⟨q.e,false,q.full,q.cells.map (me id r)⟩
def gR (id:Nat) (r:Row) (s:AS):AS:=⟨eD (Mo id r) s.F,eD (fN id r) (cR s.H id)⟩
section
variable {I I':Info} {S S':Nat->Prop} {w w':World}
structure kg (I I':Info) (S S':Nat->Prop) (w:World) (f:AV->AV):Prop where
 leaf:∀v x,Den I S w v x->(∀cs,x≠ .agg cs)->(∀cs,x≠ .cw cs)->Den I' S' w v (f x)
 agg:∀cs,f (.agg cs)= .dead
 cw:∀cs,f (.cw cs)= .dead
theorem kg.all {f:AV->AV} (h:kg I I' S S' w f) {v:Value} {x:AV} (hx:Den I S w v x):Den I' S' w v (f x):=by
 cases x with
 | agg cs=>rw [h.agg];exact .dead _
 | cw cs=>rw [h.cw];exact .dead _
 | _=>exact h.leaf v _ hx (by intro cs e;cases e) (by intro cs e;cases e)
theorem kD {v:Value} {cs:List AV} (h:Den I S w v (.agg cs)):∃vs:List Value,v= .agg vs.toArray∧vs.length=cs.length∧ ∀(j:Nat) v c,vs[j]?=some v->cs[j]?=some c->Den I S w v c:=by
 cases h with
 | rep h=>cases h with|agg vs _ hl h=>exact ⟨vs,rfl,hl,fun j v c hv hc=>.rep (h j v c hv hc)⟩
 | agg vs _ hl h=>exact ⟨vs,rfl,hl,h⟩
theorem Af {v:Value} {cs:List AV} (h:Den I S w v (.cw cs)):∃vs:List Value,v= .tuple vs.toArray∧vs.length=cs.length∧ ∀(j:Nat) v c,vs[j]?=some v->cs[j]?=some c->Den I S w v c:=by
 cases h with
 | rep h=>cases h with|cw vs _ hl h=>exact ⟨vs,rfl,hl,fun j v c hv hc=>.rep (h j v c hv hc)⟩
 | cw vs _ hl h=>exact ⟨vs,rfl,hl,h⟩
theorem kg.one {f:AV->AV} (h:kg I I' S S' w f) {v:Value} {x:AV} (hx:Den I S w v x) {g:AV->AV} (hg:∀cs,g (.agg cs)= .agg (cs.map f)) (jq:∀y,(∀cs,y≠ .agg cs)->g y=f y):Den I' S' w v (g x):=by
 by_cases hc:∃cs,x= .agg cs
 ·obtain ⟨cs,rfl⟩:=hc
  obtain ⟨vs,rfl,hl,hd⟩:=kD hx
  rw [hg]
  refine .agg vs _ (by simpa using hl) fun j v c hv hc=>?_
  rw [List.getElem?_map] at hc
  cases hj:cs[j]? with
  | none=>rw [hj] at hc;cases hc
  | some y=>rw [hj] at hc;injection hc with hc;subst hc;exact h.all (hd j v y hv hj)
 ·rw [jq x fun cs e=>hc ⟨cs,e⟩]
  exact h.all hx
theorem kg.two {f:AV->AV} (h:kg I I' S S' w f) {v:Value} {x:AV} (hx:Den I S w v x) {g k:AV->AV} (hg:∀cs,g (.agg cs)= .agg (cs.map f)) (jq:∀y,(∀cs,y≠ .agg cs)->g y=f y)
  (hk:∀cs,k (.cw cs)= .cw (cs.map g)) (pf:∀y,(∀cs,y≠ .cw cs)->k y=g y):Den I' S' w v (k x):=by
 by_cases hc:∃cs,x= .cw cs
 ·obtain ⟨cs,rfl⟩:=hc
  obtain ⟨vs,rfl,hl,hd⟩:=Af hx
  rw [hk]
  refine .cw vs _ (by simpa using hl) fun j v c hv hc=>?_
  rw [List.getElem?_map] at hc
  cases hj:cs[j]? with
  | none=>rw [hj] at hc;cases hc
  | some y=>rw [hj] at hc;injection hc with hc;subst hc;exact h.one (hd j v y hv hj) hg jq
 ·rw [pf x fun cs e=>hc ⟨cs,e⟩]
  exact h.one hx hg jq
theorem Bw (id:Nat) (y:AV) (h:∀cs,y≠ .agg cs):E1 id y=aF id y:=by
 cases y with
 | agg cs=>exact absurd rfl (h cs)
 | _=>rfl
theorem Bv (id:Nat) (y:AV) (h:∀cs,y≠ .cw cs):jY id y=E1 id y:=by
 cases y with
 | cw cs=>exact absurd rfl (h cs)
 | _=>rfl
theorem AO (id:Nat) (r:Row) (y:AV) (h:∀cs,y≠ .agg cs):Ey id r y=me id r y:=by
 cases y with
 | agg cs=>exact absurd rfl (h cs)
 | _=>rfl
theorem AM (id:Nat) (r:Row) (y:AV) (h:∀cs,y≠ .cw cs):Mo id r y=Ey id r y:=by
 cases y with
 | cw cs=>exact absurd rfl (h cs)
 | _=>rfl
theorem vx (id:Nat) (hI:∀i x,i≠id->I i=some x->I' i=some x) (hS:∀b,S b->S' b):kg I I' S S' w (aF id) where
 agg:=fun _=>rfl
 cw:=fun _=>rfl
 leaf:=fun v x hx h1 h2=>by
  have tM:∀b,S b->S' b∧w.heap[b]?=w.heap[b]?:=fun b h=>⟨hS b h,rfl⟩
  cases hx with
  | rep h=>cases h with
   | val v=>exact .rep (.val v)
   | nil=>exact .rep .nil
   | agg vs cs _ _=>exact absurd rfl (h1 cs)
   | cw vs cs _ _=>exact absurd rfl (h2 cs)
   | arr vs cs hl h=>exact .rep ((cz.arr vs cs hl h).mono tM)
   | sl A n c e us row hl hn hc hm ha h=>exact .rep ((cz.sl A n c e us row hl hn hc hm ha h).mono tM)
   | sg A n e us row hl hn hm ha h=>exact .rep ((cz.sg A n e us row hl hn hm ha h).mono tM)
   | ptr ad us row off hl hs ha h=>exact .rep ((cz.ptr ad us row off hl hs ha h).mono tM)
   | mI f vs cs hl h=>exact .rep ((cz.mI f vs cs hl h).mono tM)
  | agg vs cs _ _=>exact absurd rfl (h1 cs)
  | cw vs cs _ _=>exact absurd rfl (h2 cs)
  | ref i e m g l c hi hm hc hx hs =>
   rcases bI i id with ⟨h,e⟩|⟨h,e⟩<;>simp only [aF,h]
   ·exact .dead _
   ·exact .ref i _ m g l c (hI _ _ e hi) hm hc hx hs
  | cm i e hi =>
   rcases bI i id with ⟨h,e⟩|⟨h,e⟩<;>simp only [aF,h]
   ·exact .dead _
   ·exact .cm i _ (hI _ _ e hi)
  | pre i n e m g l c hi hn hm hc hx hs =>
   rcases bI i id with ⟨h,e⟩|⟨h,e⟩<;>simp only [aF,h]
   ·exact .dead _
   ·exact .pre i n _ m g l c (hI _ _ e hi) hn hm hc hx hs
  | dP i e hi =>
   rcases bI i id with ⟨h,e⟩|⟨h,e⟩<;>simp only [aF,h]
   ·exact .dead _
   ·exact .dP i _ (hI _ _ e hi)
  | jE i off n e m l c g A hi hn hm hc hx ha =>
   rcases bI i id with ⟨h,e⟩|⟨h,e⟩<;>simp only [aF,h]
   ·exact .dead _
   ·exact .jE i off n _ m l c g A (hI _ _ e hi) hn hm hc hx ha
  | addr i off e m g hi =>
   rcases bI i id with ⟨h,e⟩|⟨h,e⟩<;>simp only [aF,h]
   ·exact .dead _
   ·exact .addr i off _ m g (hI _ _ e hi)
  | dead v=>exact .dead _
theorem Den.kill (id:Nat) (hI:∀i x,i≠id->I i=some x->I' i=some x) (hS:∀b,S b->S' b) {v:Value} {x:AV} (h:Den I S w v x):Den I' S' w v (jY id x) :=
 (vx id hI hS).two h (fun _=>rfl) (Bw id) (fun _=>rfl) (Bv id)
theorem fq {r:Row} {g l c:Nat} {cur:Array Value} {te:TypeId} {fr:Nat×Nat} (hg:w.heap[g]?=some (.cells cur te fr)) (hS:S g) (cells:List AV) (off:Nat) (hl:off+cells.length≤cur.size)
  (hn:cells.length=r.e*l) (hc:l≤c) (hm:c≤maxLen) (A:Option Addr) (hA:0<cells.length->A=some ⟨g,off,none⟩) (h:∀(j:Nat) u x,cur[off+j]?=some u->cells[j]?=some x->cz S w u x):cz S w (.slice A l c) (.sl r.e cells):=by
 refine .sl A l c r.e ((cur.toList.drop off).take cells.length) cells (by have:cur.toList.length=cur.size:=rfl;rw [List.length_take,List.length_drop];omega) hn hc hm (fun h0=>⟨_,hA h0,hS,fun j u hu=>?_⟩) (fun j u x hu hx=>?_)
 ·have e:(⟨g,off,none⟩:Addr).add j=⟨g,off+j,none⟩:=by unfold Addr.add;split<;>simp_all
  rw [e,cell_of_row w g _ cur te fr hg]
  rw [List.getElem?_take] at hu
  split at hu
  ·rw [List.getElem?_drop] at hu;simpa using hu
  ·cases hu
 ·refine h j u x ?_ hx
  rw [List.getElem?_take] at hu
  split at hu
  ·rw [List.getElem?_drop] at hu;simpa using hu
  ·cases hu
theorem pN {g off:Nat} {cur:Array Value} {te:TypeId} {fr:Nat×Nat} (hg:w.heap[g]?=some (.cells cur te fr)) (hS:S g) (cells:List AV) (hl:cells.length≤cur.size)
  (h:∀(j:Nat) u x,cur[j]?=some u->cells[j]?=some x->cz S w u x):cz S w (.pointer (some ⟨g,off,none⟩)) (.ptr cells off):=by
 have e:∀j,(⟨g,0,none⟩:Addr).add j=⟨g,j,none⟩:=fv g
 have:=cz.ptr (S:=S) (w:=w) ⟨g,0,none⟩ (cur.toList.take cells.length) cells off (by have:cur.toList.length=cur.size:=rfl;rw [List.length_take];omega) hS (fun j u hu=>?_) (fun j u x hu hx=>?_)
 ·rw [e] at this;exact this
 ·rw [e,cell_of_row w g _ cur te fr hg]
  rw [List.getElem?_take] at hu
  split at hu
  ·simpa using hu
  ·cases hu
 ·refine h j u x ?_ hx
  rw [List.getElem?_take] at hu
  split at hu
  ·simpa using hu
  ·cases hu
end
def erase (φ:Nat->Option Nat) (id:Nat):Nat->Option Nat:=fun i=>if i=id then none else φ i
def fM (φ:Nat->Option Nat) (id g:Nat):Nat->Option Nat:=fun i=>if i=id then some g else φ i
section
variable {S0:bn} {w0 w w':World} {n:Nat} {O:List Nat} {s:AS} {a:Act} {φ:Nat->Option Nat}
theorem aS {H:List (Nat×Row)} {id e m:Nat} {b:Option Nat} (h:az H φ id=some (e,m,b)):∃r,look H id=some r∧r.e=e∧r.cells.length=m∧φ id=b:=by
 unfold az at h
 cases hl:look H id with
 | none=>rw [hl] at h;cases h
 | some r=>rw [hl] at h;simp at h;exact ⟨r,rfl,h⟩
theorem bt {H:List (Nat×Row)} {id:Nat} {r:Row} (h:look H id=some r):az H φ id=some (r.e,r.cells.length,φ id):=by
 unfold az;rw [h];rfl
theorem ga (id:Nat) (r:Row):(bE id r).e=r.e∧(bE id r).cells.length=r.cells.length∧(bE id r).pure=r.pure∧(bE id r).full=r.full:=by
 unfold bE
 cases h:r.pure<;>simp [h]
theorem gH (id:Nat) (r q:Row):(fN id r q).e=q.e∧(fN id r q).cells.length=q.cells.length∧(fN id r q).pure=q.pure∧(fN id r q).full=q.full:=by
 unfold fN
 cases h:q.pure<;>simp [h]
theorem oc (id i:Nat) (x:Nat×Nat×Option Nat) (cS:i≠id) (h:az s.H φ i=some x):az (ck id s).H (erase φ id) i=some x:=by
 obtain ⟨e,m,b⟩:=x
 obtain ⟨r,hl,he,hm,hb⟩:=aS h
 have:look (ck id s).H i=some (bE id r):=by
  unfold ck;rw [cy,bH,if_neg (Ne.symm cS),hl];rfl
 rw [bt this,(ga id r).1,(ga id r).2.1,he,hm]
 unfold erase;rw [if_neg cS,hb]
theorem kI (id i:Nat) (q:Row) (x:Nat×Nat×Option Nat) (cS:i≠id) (h:az s.H φ i=some x):az (gR id q s).H (erase φ id) i=some x:=by
 obtain ⟨e,m,b⟩:=x
 obtain ⟨r,hl,he,hm,hb⟩:=aS h
 have:look (gR id q s).H i=some (fN id q r):=by
  unfold gR;rw [cy,bH,if_neg (Ne.symm cS),hl];rfl
 rw [bt this,(gH id q r).1,(gH id q r).2.1,he,hm]
 unfold erase;rw [if_neg cS,hb]
theorem aI.jJ (h:aI S0 w0 n O s a w φ) (id:Nat) (O':List Nat) (hO:O'=match φ id with|some g=>g::O|none=>O):aI S0 w0 n O' (ck id s) a w (erase φ id):=by
 have hF:∀b,aP S0 w φ O b->aP S0 w (erase φ id) O' b:=by
  intro b ⟨h1,h2,h3,h4⟩
  refine ⟨h1,?_,fun i hi=>?_,h4⟩
  ·rw [hO]
   cases bW:φ id with
   | none=>exact h2
   | some g =>
    simp only [List.mem_cons,not_or]
    exact ⟨fun e=>h3 id (by rw [bW,e]),h2⟩
  ·unfold erase at hi
   split at hi
   ·cases hi
   ·exact h3 i hi
 refine ⟨h.j8,h.ke,h.da,fun i av hi=>?_,fun i r hr=>?_,fun i hi=>?_,fun i j g hi hj=>?_,fun i g hi=>?_,fun i g hi=>?_,h.new⟩
 ·unfold ck at hi
  rw [cy] at hi
  cases hl:look s.F i with
  | none=>rw [hl] at hi;cases hi
  | some x =>
   rw [hl] at hi;injection hi with hi;subst hi
   exact (h.cC i x hl).kill id (oc id) hF
 ·have iH:=hr
  unfold ck at iH
  rw [cy,bH] at iH
  by_cases cS:id=i
  ·rw [if_pos cS] at iH;cases iH
  ·rw [if_neg cS] at iH
   cases hl:look s.H i with
   | none=>rw [hl] at iH;cases iH
   | some q =>
    rw [hl] at iH;injection iH with iH;subst iH
    have hq:=h.rows i q hl
    have Dc:erase φ id i=φ i:=by unfold erase;rw [if_neg (Ne.symm cS)]
    rw [Dc]
    unfold bJ at hq ⊢
    cases hb:φ i with
    | none =>
     rw [hb] at hq
     have:=(ga id q).2.1
     simp only at hq ⊢
     rw [hq] at this;exact List.length_eq_zero_iff.1 this
    | some g =>
     rw [hb] at hq
     obtain ⟨cur,te,fr,hg,hf,hlen,nr,hc⟩:=hq
     refine ⟨cur,te,fr,hg,hf,by rw [(ga id q).2.1];exact hlen,by rw [(ga id q).2.1,(ga id q).2.2.2];exact nr,fun j u x hu hx=>?_⟩
     rw [(ga id q).2.2.1]
     unfold bh
     cases hp:q.pure with
     | true =>
      have:bE id q=q:=by unfold bE;rw [hp]
      rw [this] at hx
      have:=hc j u x hu hx
      unfold bh at this;rw [hp] at this
      exact this.mono fun b hb=>⟨hF b hb,rfl⟩
     | false =>
      have:(bE id q).cells=q.cells.map (aF id):=by unfold bE;rw [hp]
      rw [this,List.getElem?_map] at hx
      cases hj:q.cells[j]? with
      | none=>rw [hj] at hx;cases hx
      | some y =>
       rw [hj] at hx;injection hx with hx;subst hx
       have:=hc j u y hu hj
       unfold bh at this;rw [hp] at this
       exact (vx id (oc id) hF).all this
 ·unfold ck at hi
  rw [cy,bH] at hi
  unfold erase
  by_cases cS:id=i
  ·rw [if_pos cS.symm]
  ·rw [if_neg cS] at hi
   rw [if_neg (Ne.symm cS)]
   refine h.only i ?_
   cases hl:look s.H i with
   | none=>rfl
   | some r=>rw [hl] at hi;cases hi
 ·unfold erase at hi hj
  split at hi
  ·cases hi
  ·split at hj
   ·cases hj
   ·exact h.inj i j g hi hj
 ·unfold erase at hi
  split at hi
  ·cases hi
  ·exact h.cY i g hi
 ·unfold erase at hi
  split at hi
  ·cases hi
  ·rename_i cS
   rw [hO]
   cases bW:φ id with
   | none=>exact h.apart i g hi
   | some g' =>
    simp only [List.mem_cons,not_or]
    exact ⟨fun e=>cS (h.inj i id g hi (by rw [bW,e])),h.apart i g hi⟩
theorem aI.xn (h:aI S0 w0 n O s a w φ) (hO:∀g∈O,w0.heap.size≤g∨S0.X g) (I7:w'.os=w.os) (vB:w'.tape=w.tape) (vC:w'.output=w.output) (dv:w.heap.size≤w'.heap.size) (hb:∀b,b<w.heap.size->b ∉ O->w'.heap[b]?=w.heap[b]?):aI S0 w0 n O s a w' φ:=by
 have hF:∀b,aP S0 w φ O b->aP S0 w' φ O b∧w'.heap[b]?=w.heap[b]?:=fun b h=>⟨⟨by have:=h.1;omega,h.2⟩,hb b h.1 h.2.1⟩
 have hL:∀id e m g,az s.H φ id=some (e,m,some g)->aW w' g=aW w g:=by
  intro id e m g hi
  obtain ⟨r,-,-,-,bW⟩:=aS hi
  unfold aW;rw [hb g (h.cY id g bW).2 (h.apart id g bW)]
 refine ⟨h.j8,h.ke,⟨I7.trans h.da.os,vB.trans h.da.tape,vC.trans h.da.output,Nat.le_trans h.da.size dv,fun k hk hx=>?_,h.da.g0,h.da.gx⟩,fun i av hi=>(h.cC i av hi).mono (fun _ _ h=>h) hF hL,fun id r hr=>?_,h.only,h.inj,fun id g hg=>⟨(h.cY id g hg).1,Nat.lt_of_lt_of_le (h.cY id g hg).2 dv⟩,h.apart,h.new⟩
 ·rw [hb k (by have:=h.da.size;omega) (fun hm=>by rcases hO k hm with h|h;omega;exact hx h)]
  exact h.da.block k hk hx
 ·have aQ:=h.rows id r hr
  unfold bJ at aQ ⊢
  cases bW:φ id with
  | none=>rw [bW] at aQ;exact aQ
  | some g =>
   rw [bW] at aQ
   obtain ⟨cur,te,fr,hg,hf,hl,nr,hc⟩:=aQ
   refine ⟨cur,te,fr,(hb g (h.cY id g bW).2 (h.apart id g bW)).trans hg,hf,hl,nr,fun j u x hu hx=>?_⟩
   have bw:=hc j u x hu hx
   unfold bh at bw ⊢
   cases hp:r.pure with
   | true=>rw [hp] at bw;exact bw.mono hF
   | false=>rw [hp] at bw;exact bw.mono (fun _ _ h=>h) hF hL
theorem aI.await (h:aI S0 w0 n O s a w φ) (g:Nat) (hg:w.heap.size≤g):aI S0 w0 n (g::O) s a w φ:=by
 have hF:∀b,aP S0 w φ O b->aP S0 w φ (g::O) b∧w.heap[b]?=w.heap[b]?:=fun b h=>⟨⟨h.1,by simp only [List.mem_cons,not_or];exact ⟨by have:=h.1;omega,h.2.1⟩,h.2.2⟩,rfl⟩
 have hL:∀id e m g,az s.H φ id=some (e,m,some g)->aW w g=aW w g:=fun _ _ _ _ _=>rfl
 refine ⟨h.j8,h.ke,h.da,fun i av hi=>(h.cC i av hi).mono (fun _ _ h=>h) hF hL,fun id r hr=>?_,h.only,h.inj,h.cY,fun id g' jq=>?_,h.new⟩
 ·have aQ:=h.rows id r hr
  unfold bJ at aQ ⊢
  cases bW:φ id with
  | none=>rw [bW] at aQ;exact aQ
  | some g =>
   rw [bW] at aQ
   obtain ⟨cur,te,fr,hg,hf,hl,nr,hc⟩:=aQ
   refine ⟨cur,te,fr,hg,hf,hl,nr,fun j u x hu hx=>?_⟩
   have bw:=hc j u x hu hx
   unfold bh at bw ⊢
   cases hp:r.pure with
   | true=>rw [hp] at bw;exact bw.mono hF
   | false=>rw [hp] at bw;exact bw.mono (fun _ _ h=>h) hF hL
 ·simp only [List.mem_cons,not_or]
  exact ⟨by have:=(h.cY id g' jq).2;omega,h.apart id g' jq⟩
theorem si {id g:Nat} (hid:φ id=none) (b:Nat):aP S0 w φ (g::O) b↔aP S0 w (fM φ id g) O b:=by
 unfold aP fM
 constructor
 ·rintro ⟨h1,h2,h3,h4⟩
  simp only [List.mem_cons,not_or] at h2
  refine ⟨h1,h2.2,fun i hi=>?_,h4⟩
  split at hi
  ·injection hi with hi;exact h2.1 hi.symm
  ·exact h3 i hi
 ·rintro ⟨h1,h2,h3,h4⟩
  refine ⟨h1,?_,fun i hi=>?_,h4⟩
  ·simp only [List.mem_cons,not_or]
   exact ⟨fun e=>h3 id (by rw [if_pos rfl,e]),h2⟩
  ·by_cases e:i=id
   ·subst e;rw [hid] at hi;cases hi
   ·exact h3 i (by rw [if_neg e];exact hi)
theorem aI.x_ {g id:Nat} {r:Row} (h:aI S0 w0 n (g::O) s a w φ) (BL:Rn S0 w0 id g) (Cw:g<w.heap.size) (QF:g ∉ O) (hid:look s.H id=none)
  (hr:bJ (az s.H φ) (aP S0 w φ (g::O)) w (some g) r):aI S0 w0 n O ⟨s.F,(id,r)::s.H⟩ a w (fM φ id g):=by
 have bW:=h.only id hid
 have hF:∀b,aP S0 w φ (g::O) b->aP S0 w (fM φ id g) O b∧w.heap[b]?=w.heap[b]?:=fun b hb=>⟨(si bW b).1 hb,rfl⟩
 have hI:∀i x,az s.H φ i=some x->az ((id,r)::s.H) (fM φ id g) i=some x:=by
  intro i x hi
  obtain ⟨e,m,b⟩:=x
  obtain ⟨q,hl,he,hm,hb⟩:=aS hi
  have cS:id≠i:=fun e=>by subst e;rw [hid] at hl;cases hl
  rw [bt (r:=q) (by rw [aD,if_neg cS,hl])]
  unfold fM;rw [if_neg (Ne.symm cS),he,hm,hb]
 have hL:∀id e m g,az s.H φ id=some (e,m,some g)->aW w g=aW w g:=fun _ _ _ _ _=>rfl
 have aQ:∀b q,bJ (az s.H φ) (aP S0 w φ (g::O)) w b q->bJ (az ((id,r)::s.H) (fM φ id g)) (aP S0 w (fM φ id g) O) w b q:=by
  intro b q hq
  unfold bJ at hq ⊢
  cases b with
  | none=>exact hq
  | some g' =>
   obtain ⟨cur,te,fr,hg,hf,hl,nr,hc⟩:=hq
   refine ⟨cur,te,fr,hg,hf,hl,nr,fun j u x hu hx=>?_⟩
   have bw:=hc j u x hu hx
   unfold bh at bw ⊢
   cases hp:q.pure with
   | true=>rw [hp] at bw;exact bw.mono hF
   | false=>rw [hp] at bw;exact bw.mono hI hF hL
 refine ⟨h.j8,h.ke,h.da,fun i av hi=>(h.cC i av hi).mono hI hF hL,fun i q hq=>?_,fun i hi=>?_,fun i j g' hi hj=>?_,fun i g' hi=>?_,fun i g' hi=>?_,h.new⟩
 ·rw [aD] at hq
  by_cases e:id=i
  ·rw [if_pos e] at hq;injection hq with hq;subst hq;subst e
   have:fM φ id g id=some g:=by unfold fM;rw [if_pos rfl]
   rw [this];exact aQ _ _ hr
  ·rw [if_neg e] at hq
   have:fM φ id g i=φ i:=by unfold fM;rw [if_neg (Ne.symm e)]
   rw [this];exact aQ _ _ (h.rows i q hq)
 ·rw [aD] at hi
  by_cases e:id=i
  ·rw [if_pos e] at hi;cases hi
  ·rw [if_neg e] at hi
   unfold fM;rw [if_neg (Ne.symm e)];exact h.only i hi
 ·have cS:∀i,φ i=some g'->g'≠g:=fun i hi e=>h.apart i g' hi (by rw [e];simp)
  unfold fM at hi hj
  split at hi<;>split at hj
  ·omega
  ·injection hi with hi;exact absurd hi.symm (cS j hj)
  ·injection hj with hj;exact absurd hj.symm (cS i hi)
  ·exact h.inj i j g' hi hj
 ·unfold fM at hi
  split at hi
  ·rename_i e;injection hi with hi;subst hi;exact ⟨e ▸ BL,Cw⟩
  ·exact h.cY i g' hi
 ·unfold fM at hi
  split at hi
  ·injection hi with hi;subst hi;exact QF
  ·exact fun hm=>h.apart i g' hi (by simp [hm])
theorem aI.sI (h:aI S0 w0 n O s a w φ) {id:Nat} {r:Row} (hid:look s.H id=none) (hr:r.cells= []):aI S0 w0 n O ⟨s.F,(id,r)::s.H⟩ a w φ:=by
 have bW:=h.only id hid
 have hI:∀i x,az s.H φ i=some x->az ((id,r)::s.H) φ i=some x:=by
  intro i x hi
  obtain ⟨e,m,b⟩:=x
  obtain ⟨q,hl,he,hm,hb⟩:=aS hi
  have cS:id≠i:=fun e=>by subst e;rw [hid] at hl;cases hl
  rw [bt (r:=q) (by rw [aD,if_neg cS,hl]),he,hm,hb]
 have hF:∀b,aP S0 w φ O b->aP S0 w φ O b∧w.heap[b]?=w.heap[b]?:=fun b hb=>⟨hb,rfl⟩
 have hL:∀id e m g,az s.H φ id=some (e,m,some g)->aW w g=aW w g:=fun _ _ _ _ _=>rfl
 refine ⟨h.j8,h.ke,h.da,fun i av hi=>(h.cC i av hi).mono hI hF hL,fun i q hq=>?_,fun i hi=>?_,h.inj,h.cY,h.apart,h.new⟩
 ·rw [aD] at hq
  by_cases e:id=i
  ·rw [if_pos e] at hq;injection hq with hq;subst hq;subst e
   rw [bW];exact hr
  ·rw [if_neg e] at hq
   have gY:=h.rows i q hq
   unfold bJ at gY ⊢
   cases hb:φ i with
   | none=>rw [hb] at gY;exact gY
   | some g' =>
    rw [hb] at gY
    obtain ⟨cur,te,fr,hg,hf,hl,nr,hc⟩:=gY
    refine ⟨cur,te,fr,hg,hf,hl,nr,fun j u x hu hx=>?_⟩
    have bw:=hc j u x hu hx
    unfold bh at bw ⊢
    cases hp:q.pure with
    | true=>rw [hp] at bw;exact bw
    | false=>rw [hp] at bw;exact bw.mono hI hF hL
 ·rw [aD] at hi
  by_cases e:id=i
  ·rw [if_pos e] at hi;cases hi
  ·rw [if_neg e] at hi;exact h.only i hi
theorem aI.vV {g:Nat} (h:aI S0 w0 n (g::O) s a w φ):aI S0 w0 n O s a w φ:=by
 have hF:∀b,aP S0 w φ (g::O) b->aP S0 w φ O b∧w.heap[b]?=w.heap[b]?:=fun b h=>⟨⟨h.1,fun hm=>h.2.1 (by simp [hm]),h.2.2⟩,rfl⟩
 have hL:∀id e m g,az s.H φ id=some (e,m,some g)->aW w g=aW w g:=fun _ _ _ _ _=>rfl
 refine ⟨h.j8,h.ke,h.da,fun i av hi=>(h.cC i av hi).mono (fun _ _ h=>h) hF hL,fun id r hr=>?_,h.only,h.inj,h.cY,fun id g' jq hm=>h.apart id g' jq (by simp [hm]),h.new⟩
 have aQ:=h.rows id r hr
 unfold bJ at aQ ⊢
 cases bW:φ id with
 | none=>rw [bW] at aQ;exact aQ
 | some g =>
  rw [bW] at aQ
  obtain ⟨cur,te,fr,hg,hf,hl,nr,hc⟩:=aQ
  refine ⟨cur,te,fr,hg,hf,hl,nr,fun j u x hu hx=>?_⟩
  have bw:=hc j u x hu hx
  unfold bh at bw ⊢
  cases hp:r.pure with
  | true=>rw [hp] at bw;exact bw.mono hF
  | false=>rw [hp] at bw;exact bw.mono (fun _ _ h=>h) hF hL
theorem aI.Mn (h:aI S0 w0 n O s a w φ) {id:Nat} {r:Row} (hr:look s.H id=some r) (hp:r.pure=true):aI S0 w0 n O (gR id r s) a w (erase φ id):=by
 have hF:∀b,aP S0 w φ O b->aP S0 w (erase φ id) O b:=by
  intro b ⟨h1,h2,h3,h4⟩
  refine ⟨h1,h2,fun i hi=>?_,h4⟩
  unfold erase at hi
  split at hi
  ·cases hi
  ·exact h3 i hi
 have Om:∀b,aP S0 w φ O b->aP S0 w (erase φ id) O b∧w.heap[b]?=w.heap[b]?:=fun b hb=>⟨hF b hb,rfl⟩
 have aQ:=h.rows id r hr
 have hI:=bt (φ:=φ) hr
 have ok:kg (az s.H φ) (az (gR id r s).H (erase φ id)) (aP S0 w φ O) (aP S0 w (erase φ id) O) w (me id r):=by
  refine ⟨fun v x hx h1 h2=>?_,fun _=>rfl,fun _=>rfl⟩
  have RN:∀g,φ id=some g->aP S0 w (erase φ id) O g:=fun g hg=>⟨(h.cY id g hg).2,h.apart id g hg,fun i hi=>by
   unfold erase at hi
   split at hi
   ·cases hi
   ·rename_i cS;exact cS (h.inj i id g hi hg),h.new g (h.cY id g hg).1.2⟩
  have BO:∀g,φ id=some g-> ∃cur te fr,w.heap[g]?=some (.cells cur te fr)∧r.cells.length≤cur.size∧ ∀(j:Nat) u x,cur[j]?=some u->r.cells[j]?=some x->cz (aP S0 w (erase φ id) O) w u x:=by
   intro g hg
   have I3:=aQ
   unfold bJ at I3
   rw [hg] at I3
   obtain ⟨cur,te,fr,jq,hf,hl,-,hc⟩:=I3
   refine ⟨cur,te,fr,jq,hl,fun j u x hu hx=>?_⟩
   have:=hc j u x hu hx
   unfold bh at this;rw [hp] at this
   exact this.mono Om
  have Ez:∀(l:List AV) (k j:Nat) (x:AV),(l.take k)[j]?=some x->l[j]?=some x:=by
   intro l k j x hx
   rw [List.getElem?_take] at hx
   split at hx
   ·exact hx
   ·cases hx
  cases hx with
  | rep h=>cases h with
   | val v=>exact .rep (.val v)
   | nil=>exact .rep .nil
   | agg vs cs _ _=>exact absurd rfl (h1 cs)
   | cw vs cs _ _=>exact absurd rfl (h2 cs)
   | arr vs cs hl h=>exact .rep ((cz.arr vs cs hl h).mono Om)
   | sl A n c e us row hl hn hc hm ha h=>exact .rep ((cz.sl A n c e us row hl hn hc hm ha h).mono Om)
   | sg A n e us row hl hn hm ha h=>exact .rep ((cz.sg A n e us row hl hn hm ha h).mono Om)
   | ptr ad us row off hl hs ha h=>exact .rep ((cz.ptr ad us row off hl hs ha h).mono Om)
   | mI f vs cs hl h=>exact .rep ((cz.mI f vs cs hl h).mono Om)
  | agg vs cs _ _=>exact absurd rfl (h1 cs)
  | cw vs cs _ _=>exact absurd rfl (h2 cs)
  | ref i e m g l c hi hm hc hx hs =>
   rcases bI i id with ⟨hb,e'⟩|⟨hb,e'⟩<;>simp only [me,hb]
   ·subst e'
    rw [hI] at hi;injection hi with hi;injection hi with he hi;injection hi with MF hg
    obtain ⟨cur,te,fr,jq,hl,lB⟩:=BO g hg
    exact .rep (fq (r:=r) jq (RN g hg) r.cells 0 ag (by rw [MF,he];exact hm) hc hx _ (fun _=>rfl) (fun j u x hu hx=>lB j u x (by simpa using hu) hx))
   ·exact .ref i _ m g l c (kI id i r _ e' hi) hm hc hx hs
  | cm i e hi =>
   rcases bI i id with ⟨hb,e'⟩|⟨hb,e'⟩<;>simp only [me,hb]
   ·subst e'
    rw [hI] at hi;injection hi with hi;injection hi with he hi;injection hi with MF hg
    have h0:r.cells= []:=List.length_eq_zero_iff.1 MF
    rw [h0]
    exact .rep (.sl none 0 0 _ [] [] rfl (by simp) (by simp) (by simp) (fun h=>by simp at h) (fun j u x hu=>by simp at hu))
   ·exact .cm i _ (kI id i r _ e' hi)
  | pre i k e m g l c hi hn hm hc hx hs =>
   rcases bI i id with ⟨hb,e'⟩|⟨hb,e'⟩<;>simp only [me,hb]
   ·subst e'
    rw [hI] at hi;injection hi with hi;injection hi with he hi;injection hi with MF hg
    obtain ⟨cur,te,fr,jq,hl,lB⟩:=BO g hg
    exact .rep (fq (r:=r) jq (RN g hg) (r.cells.take k) 0 (by rw [List.length_take];omega) (by rw [List.length_take,he,←hn];omega) hc hx _ (fun _=>rfl) (fun j u x hu hx=>lB j u x (by simpa using hu) (Ez _ _ _ _ hx)))
   ·exact .pre i k _ m g l c (kI id i r _ e' hi) hn hm hc hx hs
  | dP i e hi =>
   rcases bI i id with ⟨hb,e'⟩|⟨hb,e'⟩<;>simp only [me,hb]
   ·simp only [List.take_zero]
    exact .rep (.sl none 0 0 _ [] [] rfl (by simp) (by simp) (by simp) (fun h=>by simp at h) (fun j u x hu=>by simp at hu))
   ·exact .dP i _ (kI id i r _ e' hi)
  | jE i off k e m l c g A hi hn hm hc hx ha =>
   rcases bI i id with ⟨hb,e'⟩|⟨hb,e'⟩<;>simp only [me,hb]
   ·subst e'
    rw [hI] at hi;injection hi with hi;injection hi with he hi;injection hi with MF hg
    have hlen:((r.cells.drop off).take k).length=k:=by rw [List.length_take,List.length_drop];omega
    by_cases hk:0<k
    ·obtain ⟨b,ld,hA⟩:=ha hk
     rw [ld] at hg
     obtain ⟨cur,te,fr,jq,hl,lB⟩:=BO b hg
     exact .rep (fq (r:=r) jq (RN b hg) ((r.cells.drop off).take k) off (by rw [hlen];omega) (by rw [hlen,he,←hn]) hc hx _ (fun _=>hA) (fun j u x hu hx=>lB (off+j) u x hu (by have:=Ez _ _ _ _ hx;rw [List.getElem?_drop] at this;exact this)))
    ·have h0:(r.cells.drop off).take k= []:=List.length_eq_zero_iff.1 ag
     rw [h0]
     exact .rep (.sl A l c r.e [] [] rfl (by rw [he];simp;omega) hc hx (fun h=>by simp at h) (fun j u x hu=>by simp at hu))
   ·exact .jE i off k _ m l c g A (kI id i r _ e' hi) hn hm hc hx ha
  | addr i off e m g hi =>
   rcases bI i id with ⟨hb,e'⟩|⟨hb,e'⟩<;>simp only [me,hb]
   ·subst e'
    rw [hI] at hi;injection hi with hi;injection hi with he hi;injection hi with MF hg
    obtain ⟨cur,te,fr,jq,hl,lB⟩:=BO g hg
    exact .rep (pN jq (RN g hg) r.cells hl lB)
   ·exact .addr i off _ m g (kI id i r _ e' hi)
  | dead v=>exact .dead _
 refine ⟨h.j8,h.ke,h.da,fun i av hi=>?_,fun i q hq=>?_,fun i hi=>?_,fun i j g hi hj=>?_,fun i g hi=>?_,fun i g hi=>?_,h.new⟩
 ·unfold gR at hi
  rw [cy] at hi
  cases hl:look s.F i with
  | none=>rw [hl] at hi;cases hi
  | some x =>
   rw [hl] at hi;injection hi with hi;subst hi
   exact ok.two (h.cC i x hl) (fun _=>rfl) (AO id r) (fun _=>rfl) (AM id r)
 ·have iH:=hq
  unfold gR at iH
  rw [cy,bH] at iH
  by_cases cS:id=i
  ·rw [if_pos cS] at iH;cases iH
  ·rw [if_neg cS] at iH
   cases hl:look s.H i with
   | none=>rw [hl] at iH;cases iH
   | some p =>
    rw [hl] at iH;injection iH with iH;subst iH
    have gY:=h.rows i p hl
    have Dc:erase φ id i=φ i:=by unfold erase;rw [if_neg (Ne.symm cS)]
    rw [Dc]
    unfold bJ at gY ⊢
    cases hb:φ i with
    | none =>
     rw [hb] at gY
     have:=(gH id r p).2.1
     simp only at gY ⊢
     rw [gY] at this;exact List.length_eq_zero_iff.1 this
    | some g =>
     rw [hb] at gY
     obtain ⟨cur,te,fr,hg,hf,hlen,nr,hc⟩:=gY
     refine ⟨cur,te,fr,hg,hf,by rw [(gH id r p).2.1];exact hlen,by rw [(gH id r p).2.1,(gH id r p).2.2.2];exact nr,fun j u x hu hx=>?_⟩
     rw [(gH id r p).2.2.1]
     unfold bh
     cases E_:p.pure with
     | true =>
      have:fN id r p=p:=by unfold fN;rw [E_]
      rw [this] at hx
      have:=hc j u x hu hx
      unfold bh at this;rw [E_] at this
      exact this.mono Om
     | false =>
      have:(fN id r p).cells=p.cells.map (me id r):=by unfold fN;rw [E_]
      rw [this,List.getElem?_map] at hx
      cases hj:p.cells[j]? with
      | none=>rw [hj] at hx;cases hx
      | some y =>
       rw [hj] at hx;injection hx with hx;subst hx
       have:=hc j u y hu hj
       unfold bh at this;rw [E_] at this
       exact ok.all this
 ·unfold gR at hi
  rw [cy,bH] at hi
  unfold erase
  by_cases cS:id=i
  ·rw [if_pos cS.symm]
  ·rw [if_neg cS] at hi
   rw [if_neg (Ne.symm cS)]
   refine h.only i ?_
   cases hl:look s.H i with
   | none=>rfl
   | some r=>rw [hl] at hi;cases hi
 ·unfold erase at hi hj
  split at hi
  ·cases hi
  ·split at hj
   ·cases hj
   ·exact h.inj i j g hi hj
 ·unfold erase at hi
  split at hi
  ·cases hi
  ·exact h.cY i g hi
 ·unfold erase at hi
  split at hi
  ·cases hi
  ·exact h.apart i g hi
end
def bx:List Prop->Prop
 | []=>True
 | p::l=>p∧bx l
structure Hint where
 av:Option AV:=none
 k:Nat:=0
 m:Nat:=0
 b:Bool:=true
 g:Bool:=true
 ln:List (Nat×Nat):=[]
 ho:List (Nat×Row):=[]
def ku {α:Type} (P:Program):Sem α->Option α
 | .pure a=>some a
 | .program k=>ku P (k P)
 | .mark _ k=>ku P k
 | _=>none
theorem fZ {α:Type} {P:Program} (w:World):∀ {x:Sem α} {a:α},ku P x=some a->x.run P w= .ok a w
 | .pure a,_,h=>by injection h with h;subst h;rfl
 | .program k,a,h=>by show (k P).run P w=_;exact fZ w h
 | .mark _ k,a,h=>by show k.run P w=_;exact fZ w h
 | .load ..,_,h| .store ..,_,h| .new ..,_,h| .shape ..,_,h| .freeze ..,_,h| .frozen ..,_,h| .getObj ..,_,h| .setObj ..,_,h| .choose ..,_,h| .sys ..,_,h| .halt ..,_,h=>by cases h
def bC:Value->AV
 | .slice none 0 0=>.nil
 | v=>.val v
def Ah:Value->AV
 | .agg cs=>.agg (cs.toList.map bC)
 | v=>bC v
def bq (s:AS):Operand->AV
 | .tmp t=>ka s t
 | .const v=>Ah v
 | .global _=>.dead
 | .func f=>.val (.func (.func f) #[] #[])
section
variable {I:Info} {S:Nat->Prop} {w:World}
theorem gh (v:Value):cz S w v (bC v):=by
 unfold bC
 split
 ·exact .nil
 ·exact .val _
theorem F1 (v:Value):cz S w v (Ah v):=by
 unfold Ah
 split
 ·rename_i cs
  have:=cz.agg (S:=S) (w:=w) cs.toList (cs.toList.map bC) (by simp) (fun j v c hv hc=>by
   rw [List.getElem?_map,hv] at hc
   injection hc with hc;subst hc;exact gh v)
  simpa using this
 ·exact gh _
end
section
variable {S0:bn} {w0 w:World} {n:Nat} {O:List Nat} {s:AS} {a:Act} {φ:Nat->Option Nat} {P:Program}
theorem aI.bq (h:aI S0 w0 n O s a w φ) (x:Operand):Den (az s.H φ) (aP S0 w φ O) w (a.eval x) (bq s x):=by
 cases x with
 | tmp t=>exact h.get t
 | const v=>exact .rep (F1 v)
 | global g=>exact .dead _
 | func f=>exact .rep (.val _)
end
theorem bF {I:Info} {S:Nat->Prop} {w:World} {v u:Value} (h:Den I S w v (.val u)):v=u:=by
 cases h with|rep h=>cases h;rfl
def de (P:Program) (s:AS) (o:Oper) (x:AV) (C:List Prop):Prop :=
 bx C-> ∀S0 w0 n O a w φ,aI S0 w0 n O s a w φ-> ∃v,(execOp a.eval o).run P w= .ok (.value v) w∧Den (az s.H φ) (aP S0 w φ O) w v x
def fin (h:Hint) (r:AV×List Prop):AV×List Prop:=match h.av with|none=>r|some y=>(y,(r.1=y)::r.2)
theorem gN {P:Program} {s:AS} {o:Oper} {h:Hint} {r:AV×List Prop} (hr:de P s o r.1 r.2):de P s o (fin h r).1 (fin h r).2:=by
 unfold fin
 split
 ·exact hr
 ·rename_i y _
  intro hC
  obtain ⟨rfl,hC⟩:=hC
  exact hr hC
def eH (P:Program) (t:TypeId):Option Nat:=(P.info? t).map (·.size)
def cD (P:Program) (t:TypeId):Bool:=match P.underlying t with|some (.struct _)|some (.array _ _)=>true|_=>false
def IP (P:Program) (t:TypeId):Bool:=match P.underlying t with|some (.array _ _)=>true|_=>false
def Vf (P:Program) (t:TypeId):Option TypeId:=match P.underlying t with|some (.slice e)=>some e|_=>none
section
variable {P:Program} {w:World}
theorem run_sizeOf {t:TypeId} {k:Nat} (h:eH P t=some k):(sizeOf t).run P w= .ok k w:=by
 unfold eH at h
 cases hi:P.info? t with
 | none=>rw [hi] at h;cases h
 | some i=>rw [hi] at h;injection h with h;simp [sizeOf,typeInfo,hi,h]
theorem iO {t:TypeId} (hu:∃d,P.underlying t=some d):(isAgg t).run P w= .ok (cD P t) w:=by
 obtain ⟨d,hd⟩:=hu
 unfold isAgg cD
 simp only [Sem.run_bind,run_underlying hd,Result.andThen_ok,hd]
 cases d<;>rfl
end
def JS (P:Program) (op:BinOp) (t:TypeId) (x y:Operand) (u v:Value):Option (AV×List Prop) :=
 match op,u,v with
 | .quo,.int k a,.int k' b=>if k=k' then some (.val (.int k (k.wrap (a.tdiv b))),[b≠0]) else none
 | .rem,.int k a,.int k' b=>if k=k' then some (.val (.int k (a.tmod b)),[b≠0]) else none
 | .shl,.int k a,.int _ b=>some (.val (.int k (k.wrap (a*2^min b.toNat k.bits))),[0≤b])
 | .shr,.int k a,.int _ b=>some (.val (.int k (a.fdiv (2^min b.toNat k.bits))),[0≤b])
 | .add,.string a,.string b=>some (.val (.string (a++b)),[a.size+b.size≤9223372036854775807])
 | op,u,v=>match ku P (do eqGuard op t x y u v;binOp op t u v) with|some z=>some (.val z,[])|none=>none
theorem JR {P:Program} {s:AS} {o:Oper} {op:BinOp} {t t':TypeId} {x y:Operand} {u v:Value} {r:AV×List Prop} (ho:o.op= .binOp op t x y t') (hx:bq s x= .val u) (hy:bq s y= .val v) (h:JS P op t x y u v=some r):de P s o r.1 r.2:=by
 intro hC S0 w0 n O a w φ hs
 have ex:a.eval x=u:=bF (hx ▸ hs.bq x)
 have ey:a.eval y=v:=bF (hy ▸ hs.bq y)
 unfold execOp
 simp only [ho,ex,ey]
 unfold JS at h
 split at h
 ·split at h
  ·rename_i hk
   injection h with h;subst h;subst hk
   have hb:=hC.1
   refine ⟨_,?_,.rep (.val _)⟩
   simp [eqGuard,binOp,Op.intDiv,hb]
  ·cases h
 ·split at h
  ·rename_i hk
   injection h with h;subst h;subst hk
   have hb:=hC.1
   refine ⟨_,?_,.rep (.val _)⟩
   simp [eqGuard,binOp,Op.intDiv,hb]
  ·cases h
 ·injection h with h;subst h
  have hb:¬(_:Int)<0:=Int.not_lt.2 hC.1
  refine ⟨_,?_,.rep (.val _)⟩
  simp [eqGuard,binOp,Op.shift,hb]
 ·injection h with h;subst h
  have hb:¬(_:Int)<0:=Int.not_lt.2 hC.1
  refine ⟨_,?_,.rep (.val _)⟩
  simp [eqGuard,binOp,Op.shift,hb]
 ·injection h with h;subst h
  have hb:¬(IntKind.i64.max<((_:Nat):Int)):=fun q=>by
   have h1:=hC.1
   have h2:IntKind.i64.max=9223372036854775807:=rfl
   rw [h2] at q
   exact absurd (Int.ofNat_le.2 h1) (Int.not_le.2 q)
  refine ⟨_,?_,.rep (.val _)⟩
  simp only [eqGuard,binOp,Op.stringOp,gt_iff_lt,if_neg hb]
  simp
 ·split at h
  ·rename_i z hz
   injection h with h;subst h
   refine ⟨z,?_,.rep (.val _)⟩
   rw [Sem.run_bind,fZ w hz];rfl
  ·cases h
def Ow (P:Program) (op:UnOp) (u:Value):Option (AV×List Prop):=match ku P (Op.unary op u) with|some z=>some (.val z,[])|none=>none
theorem L0 {P:Program} {s:AS} {o:Oper} {op:UnOp} {t:TypeId} {x:Operand} {u:Value} {r:AV×List Prop} (ho:o.op= .unOp op t x) (hx:bq s x= .val u) (h:Ow P op u=some r):de P s o r.1 r.2:=by
 intro hC S0 w0 n O a w φ hs
 have ex:a.eval x=u:=bF (hx ▸ hs.bq x)
 unfold execOp
 simp only [ho,ex]
 unfold Ow at h
 split at h
 ·rename_i z hz
  injection h with h;subst h
  refine ⟨z,?_,.rep (.val _)⟩
  rw [Sem.run_bind,fZ w hz];rfl
 ·cases h
def jS (s:AS):AV->Option AV
 | .ref id=>match look s.H id with|some r=>(match r.pure with|true=>some (.sl r.e r.cells)|false=>none)|none=>none
 | .pre id n=>match look s.H id with|some r=>(match r.pure with|true=>some (.sl r.e (r.cells.take n))|false=>none)|none=>none
 | .jE id o n=>match look s.H id with|some r=>(match r.pure with|true=>some (.sl r.e ((r.cells.drop o).take n))|false=>none)|none=>none
 | .addr id o=>match look s.H id with|some r=>(match r.pure with|true=>some (.ptr r.cells o)|false=>none)|none=>none
 | .agg _=>none
 | .cw _=>none
 | .dead=>none
 | .own _ _=>none
 | .box _=>none
 | x=>some x
def pj (s:AS):List AV->Option (List AV)
 | []=>some []
 | x::l=>match jS s x,pj s l with|some y,some m=>some (y::m)|_,_=>none
def view (s:AS):AV->Option AV
 | .agg cs=>match pj s cs with|some l=>some (.agg l)|none=>none
 | x=>jS s x
section
variable {S0:bn} {w0 w:World} {n:Nat} {O:List Nat} {s:AS} {a:Act} {φ:Nat->Option Nat} {P:Program}
theorem kU (h:aI S0 w0 n O s a w φ) {id:Nat} {r:Row} {g:Nat} (hr:look s.H id=some r) (hp:r.pure=true) (hg:φ id=some g) :
  ∃cur te fr,w.heap[g]?=some (.cells cur te fr)∧(∀j,j<cur.size-> ¬(fr.1≤j∧j<fr.2))∧r.cells.length≤cur.size∧ ∀(j:Nat) u x,cur[j]?=some u->r.cells[j]?=some x->cz (aP S0 w φ O) w u x:=by
 have aQ:=h.rows id r hr
 unfold bJ at aQ
 rw [hg] at aQ
 obtain ⟨cur,te,fr,jq,hf,hl,-,hc⟩:=aQ
 refine ⟨cur,te,fr,jq,hf,hl,fun j u x hu hx=>?_⟩
 have:=hc j u x hu hx
 unfold bh at this;rw [hp] at this
 exact this
theorem qQ (b:Nat) (h:aP S0 w φ O b):b<w.heap.size∧w.heap[b]?=w.heap[b]?:=⟨h.1,rfl⟩
theorem bZ {α:Type} (l:List α) (k j:Nat) (x:α) (hx:(l.take k)[j]?=some x):l[j]?=some x:=by
 rw [List.getElem?_take] at hx
 split at hx
 ·exact hx
 ·cases hx
theorem i9 {S:Nat->Prop} (A:Option Addr) (l c e:Nat) (hn:0=e*l) (hc:l≤c) (hm:c≤maxLen):cz S w (.slice A l c) (.sl e []) :=
 .sl A l c e [] [] rfl hn hc hm (fun h=>by simp at h) (fun j u x hu=>by simp at hu)
theorem AJ (h:aI S0 w0 n O s a w φ) {v:Value} {x y:AV} (hx:Den (az s.H φ) (aP S0 w φ O) w v x) (hv:jS s x=some y):cz (fun b=>b<w.heap.size) w v y:=by
 cases hx with
 | rep h =>
  have:=h.mono (qQ (w:=w) (φ:=φ) (O:=O))
  cases h<;>simp [jS] at hv<;>subst hv<;>exact this
 | agg vs cs _ _=>simp [jS] at hv
 | cw vs cs _ _=>simp [jS] at hv
 | dead v=>simp [jS] at hv
 | ref id e m g l c hi hm hc hx hs =>
  obtain ⟨r,hr,he,nG,bW⟩:=aS hi
  simp only [jS,hr] at hv
  cases hp:r.pure with
  | false=>rw [hp] at hv;cases hv
  | true =>
   rw [hp] at hv;injection hv with hv;subst hv
   obtain ⟨cur,te,fr,hg,hf,hl,lB⟩:=kU h hr hp bW
   exact fq (r:=r) hg (h.cY id g bW).2 r.cells 0 ag (by rw [nG,he];exact hm) hc hx _ (fun _=>rfl) (fun j u x hu hx=>(lB j u x (by simpa using hu) hx).mono qQ)
 | cm id e hi =>
  obtain ⟨r,hr,he,nG,bW⟩:=aS hi
  simp only [jS,hr] at hv
  cases hp:r.pure with
  | false=>rw [hp] at hv;cases hv
  | true =>
   rw [hp] at hv;injection hv with hv;subst hv
   rw [List.length_eq_zero_iff.1 nG]
   exact i9 _ _ _ _ (by simp) (by simp) (by simp)
 | pre id k e m g l c hi hn hm hc hx hs =>
  obtain ⟨r,hr,he,nG,bW⟩:=aS hi
  simp only [jS,hr] at hv
  cases hp:r.pure with
  | false=>rw [hp] at hv;cases hv
  | true =>
   rw [hp] at hv;injection hv with hv;subst hv
   obtain ⟨cur,te,fr,hg,hf,hl,lB⟩:=kU h hr hp bW
   exact fq (r:=r) hg (h.cY id g bW).2 (r.cells.take k) 0 (by rw [List.length_take];omega) (by rw [List.length_take,he,←hn];omega) hc hx _ (fun _=>rfl) (fun j u x hu hx=>(lB j u x (by simpa using hu) (bZ _ _ _ _ hx)).mono qQ)
 | dP id e hi =>
  obtain ⟨r,hr,he,nG,bW⟩:=aS hi
  simp only [jS,hr] at hv
  cases hp:r.pure with
  | false=>rw [hp] at hv;cases hv
  | true =>
   rw [hp] at hv;injection hv with hv;subst hv
   simp only [List.take_zero]
   exact i9 _ _ _ _ (by simp) (by simp) (by simp)
 | jE id off k e m l c g A hi hn hm hc hx ha =>
  obtain ⟨r,hr,he,nG,bW⟩:=aS hi
  simp only [jS,hr] at hv
  cases hp:r.pure with
  | false=>rw [hp] at hv;cases hv
  | true =>
   rw [hp] at hv;injection hv with hv;subst hv
   have hlen:((r.cells.drop off).take k).length=k:=by rw [List.length_take,List.length_drop];omega
   by_cases hk:0<k
   ·obtain ⟨b,hb,hA⟩:=ha hk
    rw [hb] at bW
    obtain ⟨cur,te,fr,hg,hf,hl,lB⟩:=kU h hr hp bW
    exact fq (r:=r) hg (h.cY id b bW).2 ((r.cells.drop off).take k) off (by rw [hlen];omega) (by rw [hlen,he,←hn]) hc hx _ (fun _=>hA) (fun j u x hu hx=>(lB (off+j) u x hu (by have:=bZ _ _ _ _ hx;rw [List.getElem?_drop] at this;exact this)).mono qQ)
   ·rw [show (r.cells.drop off).take k= [] from List.length_eq_zero_iff.1 ag]
    exact i9 _ _ _ _ (by rw [he];omega) hc hx
 | addr id off e m g hi =>
  obtain ⟨r,hr,he,nG,bW⟩:=aS hi
  simp only [jS,hr] at hv
  cases hp:r.pure with
  | false=>rw [hp] at hv;cases hv
  | true =>
   rw [hp] at hv;injection hv with hv;subst hv
   obtain ⟨cur,te,fr,hg,hf,hl,lB⟩:=kU h hr hp bW
   exact pN hg (h.cY id g bW).2 r.cells hl (fun j u x hu hx=>(lB j u x hu hx).mono qQ)
theorem AH (h:aI S0 w0 n O s a w φ):∀(cs l:List AV) (vs:List Value),pj s cs=some l->vs.length=cs.length->(∀(j:Nat) v c,vs[j]?=some v->cs[j]?=some c->Den (az s.H φ) (aP S0 w φ O) w v c) ->
  l.length=cs.length∧ ∀(j:Nat) v c,vs[j]?=some v->l[j]?=some c->cz (fun b=>b<w.heap.size) w v c
 | [],l,vs,hv,hl,hd=>by simp [pj] at hv;subst hv;exact ⟨rfl,fun j v c _ hc=>by simp at hc⟩
 | x::cs,l,[],hv,hl,hd=>by simp at hl
 | x::cs,l,v0::vs,hv,hl,hd=>by
  simp only [pj] at hv
  cases h1:jS s x with
  | none=>rw [h1] at hv;cases hv
  | some y =>
   cases h2:pj s cs with
   | none=>rw [h1,h2] at hv;cases hv
   | some m =>
    rw [h1,h2] at hv;injection hv with hv;subst hv
    obtain ⟨e1,e2⟩:=AH h cs m vs h2 (by simpa using hl) fun j v c hv hc=>hd (j+1) v c (by simpa using hv) (by simpa using hc)
    refine ⟨by simp [e1],fun j v c hv hc=>?_⟩
    cases j with
    | zero=>simp at hv hc;subst hv;subst hc;exact AJ h (hd 0 _ _ rfl rfl) h1
    | succ j=>exact e2 j v c (by simpa using hv) (by simpa using hc)
theorem yj (h:aI S0 w0 n O s a w φ) {v:Value} {x y:AV} (hx:Den (az s.H φ) (aP S0 w φ O) w v x) (hv:view s x=some y):cz (fun b=>b<w.heap.size) w v y:=by
 by_cases hc:∃cs,x= .agg cs
 ·obtain ⟨cs,rfl⟩:=hc
  obtain ⟨vs,rfl,hl,hd⟩:=kD hx
  simp only [view] at hv
  cases h1:pj s cs with
  | none=>rw [h1] at hv;cases hv
  | some l =>
   rw [h1] at hv;injection hv with hv;subst hv
   obtain ⟨e1,e2⟩:=AH h cs l vs h1 hl hd
   exact .agg vs l ag e2
 ·have:view s x=jS s x:=by
   cases x with
   | agg cs=>exact absurd ⟨cs,rfl⟩ hc
   | _=>rfl
  rw [this] at hv
  exact AJ h hx hv
end
def aj (bs:List UInt8):List AV:=bs.map fun c=>.val (.int .u8 (bv c))
def ah (l:List UInt64):List AV:=l.map fun c=>.val (.int .u64 (wv c))
def au (l:List Int):List AV:=l.map fun c=>.val (.int .i64 c)
theorem aB (l:List UInt8):(aj l).length=l.length:=by simp [aj]
theorem aA (l:List UInt64):(ah l).length=l.length:=by simp [ah]
theorem iT (l:List Int):(au l).length=l.length:=by simp [au]
theorem xB {S:Nat->Prop} {w:World} {v:Value} {bs:List UInt8} (h:cz S w v (.sl 1 (aj bs))) (hS:∀b,S b->b<w.heap.size):jj w v (tw bs):=by
 cases h with
 | sl A n c e us row hl hn hc hm ha h =>
  have BC:us=tw bs:=by
   apply List.ext_getElem?
   intro j
   cases hu:us[j]? with
   | none =>
    have:us.length≤j:=List.getElem?_eq_none_iff.1 hu
    rw [List.getElem?_eq_none (by rw [gA];rw [aB] at hl;omega)]
   | some u =>
    have hj:j<bs.length:=by have:=(List.getElem?_eq_some_iff.1 hu).1;rw [hl,aB] at this;exact this
    have hx:(aj bs)[j]?=some (.val (.int .u8 (bv bs[j]))):=by simp [aj,hj]
    have:=h j u _ hu hx
    cases this
    simp [tw,hj]
  subst BC
  rw [aB] at hn ha
  have tG:bs.length=n:=ag
  subst tG
  refine ⟨A,c,by rw [gA],by rw [gA];exact hc,hm,by rw [gA],fun h0=>?_⟩
  rw [gA] at h0
  obtain ⟨ad,e,hs,bw⟩:=ha h0
  exact ⟨ad,e,hS _ hs,bw⟩
def DP (P:Program) (s:AS) (src dst:TypeId) (x:AV) (h:Hint):Option (AV×List Prop) :=
 match x with
 | .val u=>(match ku P (convert src dst u) with|some z=>some (fin h (.val z,[]))|none=>none)
 | x =>
  match P.underlying src,P.underlying dst,view s x,h.av with
  | some (.slice e),some .string,some (.sl 1 row),some (.val (.string b)) =>
   (match P.underlying e with|some (.int .u8)=>some (.val (.string b),[row=aj b.data.toList])|_=>none)
  | _,_,_,_=>none
theorem GO {P:Program} {s:AS} {o:Oper} {src dst:TypeId} {x:Operand} {h:Hint} {r:AV×List Prop} (ho:o.op= .convert src dst x) (hr:DP P s src dst (bq s x) h=some r):de P s o r.1 r.2:=by
 unfold DP at hr
 split at hr
 ·rename_i u hx
  split at hr
  ·rename_i z hz
   injection hr with hr;subst hr
   apply gN
   intro hC S0 w0 n O a w φ hs
   have ex:a.eval x=u:=bF (hx ▸ hs.bq x)
   unfold execOp
   simp only [ho,ex]
   refine ⟨z,?_,.rep (.val _)⟩
   rw [Sem.run_bind,fZ w hz];rfl
  ·cases hr
 ·split at hr
  ·rename_i e row b h1 h2 h3 h4
   split at hr
   ·rename_i h5
    injection hr with hr;subst hr
    intro hC S0 w0 n O a w φ hs
    have hv:=yj hs (hs.bq x) h3
    rw [hC.1] at hv
    have bT:=wT (P:=P) (xB hv (fun _ h=>h)) src dst e h1 h5 h2
    unfold execOp
    simp only [ho]
    refine ⟨.string b,?_,.rep (.val _)⟩
    rw [Sem.run_bind,bT];rfl
   ·cases hr
  ·cases hr
def cZ:Nat->Nat->Nat
 | k,1=>k
 | k,e=>k*e
theorem bz (k e:Nat):cZ k e=k*e:=by
 unfold cZ
 split<;>simp
def pV (P:Program) (t:TypeId) (pure:Bool) (cells:List AV) (off:Nat) (h:Hint):Option (AV×List Prop) :=
 match eH P t,P.underlying t with
 | some sz,some d =>
  (match d with
  | .struct _=>(match h.av with
   | some (.agg cs)=>some (.agg cs,[(cells.drop off).take sz=cs,cs.length=sz])
   | some _=>none
   | none=>(match Nat.beq ((cells.drop off).take sz).length sz with|true=>some (.agg ((cells.drop off).take sz),[])|false=>none))
  | .array _ _=>(match h.av,pure with
   | some (.arr cs),true=>some (.arr cs,[(cells.drop off).take sz=cs,cs.length=sz])
   | some (.agg cs),_=>some (.agg cs,[(cells.drop off).take sz=cs,cs.length=sz])
   | _,_=>none)
  | _=>(match h.av with
   | some y=>some (y,[cells[off]?=some y])
   | none=>(match cells[off]? with|some y=>some (y,[])|none=>none)))
 | _,_=>none
section
variable {P:Program} {w:World} {I:Info} {S:Nat->Prop}
theorem tB {t:TypeId} {p:Addr} {vs:List Value} {d:TypeDesc} (hd:P.underlying t=some d) (ha:cD P t=true) (hs:eH P t=some vs.length) (h:∀(j:Nat) v,vs[j]?=some v->w.cell? (p.add j)=some v) :
  (loadVar t p).run P w= .ok (.agg vs.toArray) w:=by
 unfold loadVar
 rw [Sem.run_bind,iO ⟨d,hd⟩]
 simp only [Result.andThen_ok,ha,if_true]
 rw [Sem.run_bind,run_sizeOf hs]
 simp only [Result.andThen_ok]
 rw [Sem.run_bind,run_loadCells_list w p vs h]
 rfl
theorem tA {t:TypeId} {p:Addr} {v:Value} {d:TypeDesc} (hd:P.underlying t=some d) (ha:cD P t=false) (h:w.cell? p=some v) :
  (loadVar t p).run P w= .ok v w:=by
 unfold loadVar
 rw [Sem.run_bind,iO ⟨d,hd⟩]
 simp [ha,h]
theorem bR {α:Type} (l:List α) (off k j:Nat) (x:α) (hx:((l.drop off).take k)[j]?=some x):l[off+j]?=some x:=by
 have:=bZ _ _ _ _ hx
 rw [List.getElem?_drop] at this;exact this
theorem dL (p:Addr):p.add 0=p:=by simp [Addr.add]
theorem sm {t:TypeId} {pure:Bool} {cells:List AV} {off:Nat} {h:Hint} {r:AV×List Prop} (hr:pV P t pure cells off h=some r) (hC:bx r.2) (p:Addr) (us:List Value) (hl:cells.length≤us.length)
  (bw:∀(j:Nat) u,us[off+j]?=some u->w.cell? (p.add j)=some u) (hd:∀(j:Nat) u x,us[j]?=some u->cells[j]?=some x->bh I S w pure u x) :
  ∃v,(loadVar t p).run P w= .ok v w∧Den I S w v r.1:=by
 have den:∀(j:Nat) u x,us[j]?=some u->cells[j]?=some x->Den I S w u x:=by
  intro j u x hu hx
  have:=hd j u x hu hx
  unfold bh at this
  cases pure with
  | true=>exact .rep this
  | false=>exact this
 unfold pV at hr
 split at hr
 ·rename_i sz d dv hu
  have agg:∀(cs:List AV),cD P t=true->(cells.drop off).take sz=cs->cs.length=sz-> ∃vs:List Value,vs=(us.drop off).take sz∧(loadVar t p).run P w= .ok (.agg vs.toArray) w∧vs.length=cs.length∧(∀(j:Nat) v c,vs[j]?=some v->cs[j]?=some c->us[off+j]?=some v∧cells[off+j]?=some c):=by
   intro cs ha he hlen
   have Gr:cs.length=min sz (cells.length-off):=by rw [←he,List.length_take,List.length_drop]
   have Pa:((us.drop off).take sz).length=sz:=by rw [List.length_take,List.length_drop];omega
   refine ⟨_,rfl,tB hu ha (by rw [Pa];exact dv) (fun j v hv=>bw j v (bR _ _ _ _ _ hv)),ag,fun j v c hv hc=>⟨bR _ _ _ _ _ hv,?_⟩⟩
   rw [←he] at hc;exact bR _ _ _ _ _ hc
  have one:∀y,cD P t=false->cells[off]?=some y-> ∃v,(loadVar t p).run P w= .ok v w∧Den I S w v y:=by
   intro y ha hy
   have cW:off<us.length:=by have:=(List.getElem?_eq_some_iff.1 hy).1;omega
   have hv:us[off]?=some us[off]:=List.getElem?_eq_getElem cW
   refine ⟨us[off],tA hu ha ?_,den off _ y hv hy⟩
   have:=bw 0 us[off] (by simp)
   rw [dL] at this;exact this
  split at hr
  ·have ha:cD P t=true:=by unfold cD;rw [hu]
   split at hr
   ·rename_i cs _
    injection hr with hr;subst hr
    obtain ⟨vs,-,h1,h2,h3⟩:=agg cs ha hC.1 hC.2.1
    exact ⟨_,h1,.agg vs cs h2 fun j v c hv hc=>den _ _ _ (h3 j v c hv hc).1 (h3 j v c hv hc).2⟩
   ·cases hr
   ·split at hr
    ·rename_i hb
     injection hr with hr;subst hr
     obtain ⟨vs,-,h1,h2,h3⟩:=agg _ ha rfl (Nat.eq_of_beq_eq_true hb)
     exact ⟨_,h1,.agg vs _ h2 fun j v c hv hc=>den _ _ _ (h3 j v c hv hc).1 (h3 j v c hv hc).2⟩
    ·cases hr
  ·have ha:cD P t=true:=by unfold cD;rw [hu]
   split at hr
   ·rename_i cs _
    injection hr with hr;subst hr
    obtain ⟨vs,-,h1,h2,h3⟩:=agg cs ha hC.1 hC.2.1
    exact ⟨_,h1,.rep (.arr vs cs h2 fun j v c hv hc=>by have:=hd _ _ _ (h3 j v c hv hc).1 (h3 j v c hv hc).2;exact this)⟩
   ·rename_i cs _
    injection hr with hr;subst hr
    obtain ⟨vs,-,h1,h2,h3⟩:=agg cs ha hC.1 hC.2.1
    exact ⟨_,h1,.agg vs cs h2 fun j v c hv hc=>den _ _ _ (h3 j v c hv hc).1 (h3 j v c hv hc).2⟩
   ·cases hr
  ·rename_i O_ SZ
   have ha:cD P t=false:=by
    unfold cD;rw [hu]
    cases d<;>first|rfl|exact absurd rfl (O_ _)|exact absurd rfl (SZ _ _)
   split at hr
   ·injection hr with hr;subst hr
    exact one _ ha hC.1
   ·split at hr
    ·rename_i y hy
     injection hr with hr;subst hr
     exact one _ ha hy
    ·cases hr
 ·cases hr
end
def DD (P:Program) (s:AS) (t:TypeId) (x:AV) (h:Hint):Option (AV×List Prop) :=
 match x with
 | .ptr row off=>pV P t true row off h
 | .addr id off=>(match look s.H id with|some r=>pV P t r.pure r.cells off h|none=>none)
 | _=>none
section
variable {P:Program} {s:AS} {o:Oper} {h:Hint} {r:AV×List Prop}
theorem um {I:Info} {S:Nat->Prop} {w:World} {v:Value} {row:List AV} {off:Nat} (h:Den I S w v (.ptr row off)):∃(ad:Addr) (us:List Value),v= .pointer (some (ad.add off))∧us.length=row.length∧S ad.block∧(∀(j:Nat) u,us[j]?=some u->w.cell? (ad.add j)=some u)∧ ∀(j:Nat) u x,us[j]?=some u->row[j]?=some x->cz S w u x:=by
 cases h with|rep h=>cases h with|ptr ad us _ _ hl hs ha h=>exact ⟨ad,us,rfl,hl,hs,ha,h⟩
theorem j6 {I:Info} {S:Nat->Prop} {w:World} {v:Value} {id off:Nat} (h:Den I S w v (.addr id off)):∃e m g,I id=some (e,m,some g)∧v= .pointer (some ⟨g,off,none⟩):=by
 cases h with
 | rep h=>cases h
 | addr id off e m g hi=>exact ⟨e,m,g,hi,rfl⟩
theorem mJ (g o j:Nat):(⟨g,o,none⟩:Addr).add j=⟨g,o+j,none⟩:=by unfold Addr.add;split<;>simp_all
theorem GJ {t:TypeId} {x:Operand} (ho:o.op= .load t x) (hr:DD P s t (bq s x) h=some r):de P s o r.1 r.2:=by
 intro hC S0 w0 n O a w φ hs
 have hx:=hs.bq x
 unfold execOp
 simp only [ho]
 unfold DD at hr
 split at hr
 ·rename_i row off he
  rw [he] at hx
  obtain ⟨ad,us,hv,hl,hS,bw,bU⟩:=um hx
  obtain ⟨v,h1,h2⟩:=sm (I:=az s.H φ) (S:=aP S0 w φ O) hr hC (ad.add off) us ag (fun j u hu=>by rw [nn];exact bw _ u hu) (fun j u x hu hx=>by show cz _ _ _ _;exact bU j u x hu hx)
  refine ⟨v,?_,h2⟩
  simp only [Instr.loadAt,hv,Instr.sureAddr,Sem.run_bind,Sem.run_pure,Result.andThen_ok,h1]
 ·rename_i id off he
  rw [he] at hx
  obtain ⟨e,m,g,hi,hv⟩:=j6 hx
  obtain ⟨q,hq,-,-,bW⟩:=aS hi
  rw [hq] at hr
  have aQ:=hs.rows id q hq
  unfold bJ at aQ
  rw [bW] at aQ
  obtain ⟨cur,te,fr,hg,hf,hl,-,hc⟩:=aQ
  obtain ⟨v,h1,h2⟩:=sm (I:=az s.H φ) (S:=aP S0 w φ O) hr hC ⟨g,off,none⟩ cur.toList hl (fun j u hu=>by rw [mJ,cell_of_row w g _ cur te fr hg];simpa using hu) (fun j u x hu hx=>hc j u x (by simpa using hu) hx)
  refine ⟨v,?_,h2⟩
  simp only [Instr.loadAt,hv,Instr.sureAddr,Sem.run_bind,Sem.run_pure,Result.andThen_ok,h1]
 ·cases hr
def ow (P:Program) (t:TypeId) (x:AV) (f:Nat):Option (AV×List Prop) :=
 match P.underlying t with
 | some (.struct fields) =>
  (match fields[f]? with
  | some fd=>(match eH P fd.type with
   | some (_+1)=>(match x with
    | .ptr row off=>some (.ptr row (off+fd.offset),[])
    | .addr id off=>some (.addr id (off+fd.offset),[])
    | _=>none)
   | _=>none)
  | none=>none)
 | _=>none
theorem wj {t:TypeId} {x:Operand} {f:Nat} (ho:o.op= .fieldAddr t x f) (hr:ow P t (bq s x) f=some r):de P s o r.1 r.2:=by
 intro hC S0 w0 n O a w φ hs
 have hx:=hs.bq x
 unfold execOp
 simp only [ho]
 unfold ow at hr
 split at hr
 ·rename_i fields hu
  split at hr
  ·rename_i fd hf
   split at hr
   ·rename_i k dv
    have hz:(sizeOf fd.type).run P w= .ok (k+1) w:=run_sizeOf dv
    split at hr
    ·rename_i row off he
     injection hr with hr;subst hr
     rw [he] at hx
     obtain ⟨ad,us,hv,hl,hS,bw,bU⟩:=um hx
     refine ⟨.pointer (some (ad.add (off+fd.offset))),?_,.rep (.ptr ad us row _ hl hS bw bU)⟩
     simp [Instr.fieldAt,run_underlying hu,hf,hv,Instr.sureAddr,fieldPlace,hz,nn]
    ·rename_i id off he
     injection hr with hr;subst hr
     rw [he] at hx
     obtain ⟨e,m,g,hi,hv⟩:=j6 hx
     refine ⟨.pointer (some ⟨g,off+fd.offset,none⟩),?_,.addr id _ e m g hi⟩
     simp [Instr.fieldAt,run_underlying hu,hf,hv,Instr.sureAddr,fieldPlace,hz,mJ]
    ·cases hr
   ·cases hr
  ·cases hr
 ·cases hr
def JM (P:Program) (s:AS) (t:TypeId) (x:AV) (n:Int) (h:Hint):Option (AV×List Prop) :=
 match P.underlying t with
 | some (.slice el) =>
  (match eH P el with
  | some (z+1)=>(match x with
   | .sl e row=>(match Nat.beq e (z+1) with|true=>some (.ptr row (cZ h.k (z+1)),[n=(h.k:Int),cZ h.k (z+1)<row.length])|false=>none)
   | .ref id=>(match look s.H id with|some q=>(match Nat.beq q.e (z+1) with|true=>some (.addr id (cZ h.k (z+1)),[n=(h.k:Int),cZ h.k (z+1)<q.cells.length])|false=>none)|none=>none)
   | .pre id l=>(match look s.H id with|some q=>(match Nat.beq q.e (z+1) with|true=>some (.addr id (cZ h.k (z+1)),[n=(h.k:Int),cZ h.k (z+1)<l])|false=>none)|none=>none)
   | .jE id off l=>(match look s.H id with|some q=>(match Nat.beq q.e (z+1) with|true=>some (.addr id (cZ h.k (z+1)+off),[n=(h.k:Int),cZ h.k (z+1)<l])|false=>none)|none=>none)
   | _=>none)
  | _=>none)
 | some (.array len el) =>
  (match eH P el with
  | some (z+1)=>(match x with
   | .ptr row off=>some (.ptr row (cZ h.k (z+1)+off),[n=(h.k:Int),h.k<len])
   | .addr id off=>some (.addr id (cZ h.k (z+1)+off),[n=(h.k:Int),h.k<len])
   | _=>none)
  | _=>none)
 | _=>none
theorem pX {I:Info} {S:Nat->Prop} {w:World} {v:Value} {e:Nat} {row:List AV} (h:Den I S w v (.sl e row)):cz S w v (.sl e row):=by
 cases h with|rep h=>exact h
theorem oP {k z l e m:Nat} (h:cZ k (z+1)<m) (hm:m=e*l) (he:e=z+1):k<l:=by
 rw [bz,hm,he,Nat.mul_comm] at h
 exact Nat.lt_of_mul_lt_mul_left h
theorem JL {t:TypeId} {x i:Operand} {k:IntKind} {n:Int} (ho:o.op= .indexAddr t x i) (hi:bq s i= .val (.int k n)) (hr:JM P s t (bq s x) n h=some r):de P s o r.1 r.2:=by
 intro hC S0 w0 n' O a w φ hs
 have hx:=hs.bq x
 have ei:a.eval i= .int k n:=bF (hi ▸ hs.bq i)
 unfold execOp
 simp only [ho,ei]
 unfold JM at hr
 split at hr
 ·rename_i el hu
  split at hr
  ·rename_i z dv
   have hz:(sizeOf el).run P w= .ok (z+1) w:=run_sizeOf dv
   split at hr
   ·rename_i e row he
    rw [he] at hx
    split at hr
    ·rename_i hb
     have ld:e=z+1:=Nat.eq_of_beq_eq_true hb
     injection hr with hr;subst hr
     obtain ⟨hn,cW,-⟩:=hC
     have bU:=pX hx
     cases iG:a.eval x with
     | slice A l c =>
      rw [iG] at bU
      cases bU with
      | sl _ _ _ _ us _ hl tG hc hm ha bU =>
       have iY:h.k<l:=oP cW tG ld
       obtain ⟨ad,rfl,hS,bw⟩:=ha ag
       refine ⟨.pointer (some (ad.add (cZ h.k (z+1)))),?_,.rep (.ptr ad us row _ hl hS bw bU)⟩
       have lL:0≤n∧n<(l:Int):=ag
       have hk:n.toNat=h.k:=ag
       simp [Instr.indexAt,run_underlying hu,asIntOf,lL,hz,hk,bz]
     | _=>rw [iG] at bU;cases bU
    ·cases hr
   ·rename_i id he
    rw [he] at hx
    split at hr
    ·rename_i q hq
     split at hr
     ·rename_i hb
      have ld:q.e=z+1:=Nat.eq_of_beq_eq_true hb
      injection hr with hr;subst hr
      obtain ⟨hn,cW,-⟩:=hC
      generalize a.eval x=V at hx
      cases hx with
      | rep h=>cases h
      | ref _ e m g l c hi hm hc hx bY =>
       rw [bt hq] at hi
       injection hi with hi;injection hi with h1 hi;injection hi with h2 h3
       have iY:h.k<l:=oP cW (by rw [h2];exact hm) (by rw [←h1];exact ld)
       refine ⟨.pointer (some ⟨g,cZ h.k (z+1),none⟩),?_,.addr id _ q.e q.cells.length g (by rw [bt hq,h3])⟩
       have lL:0≤n∧n<(l:Int):=ag
       have hk:n.toNat=h.k:=ag
       simp [Instr.indexAt,run_underlying hu,asIntOf,lL,hz,hk,bz,fv]
      | cm _ e hi =>
       rw [bt hq] at hi
       injection hi with hi;injection hi with h1 hi;injection hi with h2 h3
       omega
     ·cases hr
    ·cases hr
   ·rename_i id l' he
    rw [he] at hx
    split at hr
    ·rename_i q hq
     split at hr
     ·rename_i hb
      have ld:q.e=z+1:=Nat.eq_of_beq_eq_true hb
      injection hr with hr;subst hr
      obtain ⟨hn,cW,-⟩:=hC
      generalize a.eval x=V at hx
      cases hx with
      | rep h=>cases h
      | pre _ _ e m g l c hi tG hm hc hx bY =>
       rw [bt hq] at hi
       injection hi with hi;injection hi with h1 hi;injection hi with h2 h3
       have iY:h.k<l:=oP cW tG (by rw [←h1];exact ld)
       refine ⟨.pointer (some ⟨g,cZ h.k (z+1),none⟩),?_,.addr id _ q.e q.cells.length g (by rw [bt hq,h3])⟩
       have lL:0≤n∧n<(l:Int):=ag
       have hk:n.toNat=h.k:=ag
       simp [Instr.indexAt,run_underlying hu,asIntOf,lL,hz,hk,bz,fv]
      | dP _ e hi=>omega
     ·cases hr
    ·cases hr
   ·rename_i id off l' he
    rw [he] at hx
    split at hr
    ·rename_i q hq
     split at hr
     ·rename_i hb
      have ld:q.e=z+1:=Nat.eq_of_beq_eq_true hb
      injection hr with hr;subst hr
      obtain ⟨hn,cW,-⟩:=hC
      generalize a.eval x=V at hx
      cases hx with
      | rep h=>cases h
      | jE _ _ _ e m l c g A hi tG hm hc hx ha =>
       rw [bt hq] at hi
       injection hi with hi;injection hi with h1 hi;injection hi with h2 h3
       have iY:h.k<l:=oP cW tG (by rw [←h1];exact ld)
       obtain ⟨b,Hp,rfl⟩:=ha ag
       refine ⟨.pointer (some ⟨b,cZ h.k (z+1)+off,none⟩),?_,.addr id _ q.e q.cells.length b (by rw [bt hq,h3,Hp])⟩
       have lL:0≤n∧n<(l:Int):=ag
       have hk:n.toNat=h.k:=ag
       simp [Instr.indexAt,run_underlying hu,asIntOf,lL,hz,hk,bz,mJ,Nat.add_comm]
     ·cases hr
    ·cases hr
   ·cases hr
  ·cases hr
 ·rename_i len el hu
  split at hr
  ·rename_i z dv
   have hz:(sizeOf el).run P w= .ok (z+1) w:=run_sizeOf dv
   split at hr
   ·rename_i row off he
    rw [he] at hx
    injection hr with hr;subst hr
    obtain ⟨hn,cW,-⟩:=hC
    obtain ⟨ad,us,hv,hl,hS,bw,bU⟩:=um hx
    refine ⟨.pointer (some (ad.add (cZ h.k (z+1)+off))),?_,.rep (.ptr ad us row _ hl hS bw bU)⟩
    have lL:0≤n∧n<(len:Int):=ag
    have hk:n.toNat=h.k:=ag
    simp [Instr.indexAt,run_underlying hu,asIntOf,lL,hz,hk,hv,Instr.sureAddr,bz,nn,Nat.add_comm]
   ·rename_i id off he
    rw [he] at hx
    injection hr with hr;subst hr
    obtain ⟨hn,cW,-⟩:=hC
    obtain ⟨e,m,g,hi,hv⟩:=j6 hx
    refine ⟨.pointer (some ⟨g,cZ h.k (z+1)+off,none⟩),?_,.addr id _ e m g hi⟩
    have lL:0≤n∧n<(len:Int):=ag
    have hk:n.toNat=h.k:=ag
    simp [Instr.indexAt,run_underlying hu,asIntOf,lL,hz,hk,hv,Instr.sureAddr,bz,mJ,Nat.add_comm]
   ·cases hr
  ·cases hr
 ·cases hr
end
section
variable {P:Program} {s:AS} {o:Oper} {h:Hint} {r:AV×List Prop}
inductive Cut where
 | all|to (n:Int)|from_ (n:Int)|both (n m:Int)
def vz:AV->Option Int
 | .val (.int _ n)=>some n
 | _=>none
def wz (s:AS) (lo hi mx:Option Operand):Option Cut :=
 match lo,hi,mx with
 | none,none,none=>some .all
 | none,some y,none=>(match vz (bq s y) with|some m=>some (.to m)|none=>none)
 | some x,none,none=>(match vz (bq s x) with|some n=>some (.from_ n)|none=>none)
 | some x,some y,none=>(match vz (bq s x),vz (bq s y) with|some n,some m=>some (.both n m)|_,_=>none)
 | _,_,_=>none
def zz (P:Program) (s:AS) (t:TypeId) (x:AV) (c:Cut) (h:Hint):Option (AV×List Prop) :=
 match P.underlying t with
 | some .string =>
  (match x,c with
  | .val (.string b),.all=>some (.val (.string b),[])
  | .val (.string b),.to n=>some (fin h (.val (.string (b.extract 0 h.m)),[n=(h.m:Int),h.m≤b.size]))
  | .val (.string b),.from_ n=>some (fin h (.val (.string (b.extract h.k b.size)),[n=(h.k:Int),h.k≤b.size]))
  | .val (.string b),.both n n'=>some (fin h (.val (.string (b.extract h.k h.m)),[n=(h.k:Int),n'=(h.m:Int),h.k≤h.m,h.m≤b.size]))
  | _,_=>none)
 | some (.slice el) =>
  (match eH P el with
  | some (z+1)=>(match x,c with
   | .sl e row,.all=>some (fin h (.sl e row,[]))
   | .sl e row,.to n=>(match Nat.beq e (z+1) with|true=>some (fin h (.sl e (row.take (cZ h.m e)),[n=(h.m:Int),cZ h.m e≤row.length]))|false=>none)
   | .sl e row,.from_ n=>(match Nat.beq e (z+1) with|true=>some (fin h (.sl e (row.drop (cZ h.k e)),[n=(h.k:Int),cZ h.k e≤row.length]))|false=>none)
   | .sl e row,.both n n'=>(match Nat.beq e (z+1) with|true=>some (fin h (.sl e ((row.drop (cZ h.k e)).take (cZ (h.m-h.k) e)),[n=(h.k:Int),n'=(h.m:Int),h.k≤h.m,cZ h.m e≤row.length]))|false=>none)
   | .ref id,.all=>some (.ref id,[])
   | .ref id,.to n=>(match look s.H id with|some q=>(match Nat.beq q.e (z+1) with|true=>some (.pre id (cZ h.m q.e),[n=(h.m:Int),cZ h.m q.e≤q.cells.length])|false=>none)|none=>none)
   | .ref id,.from_ n=>(match look s.H id with|some q=>(match Nat.beq q.e (z+1) with|true=>some (.jE id (cZ h.k q.e) (q.cells.length-cZ h.k q.e),[n=(h.k:Int),cZ h.k q.e≤q.cells.length])|false=>none)|none=>none)
   | .ref id,.both n n'=>(match look s.H id with|some q=>(match Nat.beq q.e (z+1) with|true=>some (.jE id (cZ h.k q.e) (cZ (h.m-h.k) q.e),[n=(h.k:Int),n'=(h.m:Int),h.k≤h.m,cZ h.m q.e≤q.cells.length])|false=>none)|none=>none)
   | .pre id l,.all=>some (.pre id l,[])
   | .pre id l,.to n=>(match look s.H id with|some q=>(match Nat.beq q.e (z+1) with|true=>some (.pre id (cZ h.m q.e),[n=(h.m:Int),cZ h.m q.e≤l])|false=>none)|none=>none)
   | _,_=>none)
  | _=>none)
 | some (.array len el) =>
  (match eH P el with
  | some (z+1)=>(match x,c with
   | .addr id 0,.all=>(match look s.H id with|some q=>(match Nat.beq q.e (z+1),q.full with|true,true=>some (.ref id,[q.cells.length=cZ len q.e,len≤maxLen])|_,_=>none)|none=>none)
   | .addr id 0,.to n=>(match look s.H id with|some q=>(match Nat.beq q.e (z+1),q.full with|true,true=>some (.pre id (cZ h.m q.e),[n=(h.m:Int),h.m≤len,q.cells.length=cZ len q.e,len≤maxLen])|_,_=>none)|none=>none)
   | .addr id 0,.from_ n=>(match look s.H id with|some q=>(match Nat.beq q.e (z+1),q.full with|true,true=>some (.jE id (cZ h.k q.e) (cZ (len-h.k) q.e),[n=(h.k:Int),h.k≤len,q.cells.length=cZ len q.e,len≤maxLen])|_,_=>none)|none=>none)
   | .addr id 0,.both n n'=>(match look s.H id with|some q=>(match Nat.beq q.e (z+1),q.full with|true,true=>some (.jE id (cZ h.k q.e) (cZ (h.m-h.k) q.e),[n=(h.k:Int),n'=(h.m:Int),h.k≤h.m,h.m≤len,q.cells.length=cZ len q.e,len≤maxLen])|_,_=>none)|none=>none)
   | _,_=>none)
  | _=>none)
 | _=>none
def Bounds (c:Cut) (len cap:Nat) (l hi:Nat):Prop :=
 match c with
 | .all=>l=0∧hi=len
 | .to n=>l=0∧n=(hi:Int)∧hi≤cap
 | .from_ n=>n=(l:Int)∧l≤len∧hi=len
 | .both n n'=>n=(l:Int)∧n'=(hi:Int)∧l≤hi∧hi≤cap
theorem Db {x:AV} {n:Int} (h:vz x=some n):∃k,x= .val (.int k n):=by
 unfold vz at h
 split at h
 ·injection h with h;subst h;exact ⟨_,rfl⟩
 ·cases h
theorem run_sliceBound {w:World} {k:IntKind} {n:Int} {y l:Nat} {code:BoundsCode} (h1:n=(l:Int)) (h2:l≤y):(Instr.sliceBound (.int k n) y code).run P w= .ok l w:=by
 have:0≤n∧n≤(y:Int):=ag
 have e:n.toNat=l:=ag
 simp [Instr.sliceBound,asIntOf,this,e]
theorem pG {S0:bn} {w0 w:World} {n:Nat} {O:List Nat} {a:Act} {φ:Nat->Option Nat} (hs:aI S0 w0 n O s a w φ) {lo hi mx:Option Operand} {c:Cut} (hc:wz s lo hi mx=some c) (Sq:Bool) {len cap l m:Nat} (hb:Bounds c len cap l m) (hle:len≤cap) :
  mx=none∧(Instr.sliceBounds Sq len cap (lo.map a.eval) (hi.map a.eval) none).run P w= .ok (l,m,cap) w:=by
 have ev:∀x z,vz (bq s x)=some z-> ∃k,a.eval x= .int k z:=fun x z hx=>by
  obtain ⟨k,e⟩:=Db hx
  exact ⟨k,bF (e ▸ hs.bq x)⟩
 unfold wz at hc
 split at hc
 ·injection hc with hc;subst hc
  obtain ⟨rfl,rfl⟩:=hb
  exact ⟨rfl,by simp [Instr.sliceBounds]⟩
 ·split at hc
  ·rename_i z hz
   injection hc with hc;subst hc
   obtain ⟨rfl,h1,h2⟩:=hb
   obtain ⟨k,e⟩:=ev _ _ hz
   exact ⟨rfl,by simp [Instr.sliceBounds,e,run_sliceBound h1 h2]⟩
  ·cases hc
 ·split at hc
  ·rename_i z hz
   injection hc with hc;subst hc
   obtain ⟨h1,h2,rfl⟩:=hb
   obtain ⟨k,e⟩:=ev _ _ hz
   exact ⟨rfl,by simp [Instr.sliceBounds,e,run_sliceBound h1 h2]⟩
  ·cases hc
 ·split at hc
  ·rename_i z z' hz zi
   injection hc with hc;subst hc
   obtain ⟨h1,Jo,h2,h3⟩:=hb
   obtain ⟨k,e⟩:=ev _ _ hz
   obtain ⟨k',e'⟩:=ev _ _ zi
   exact ⟨rfl,by simp [Instr.sliceBounds,e,e',run_sliceBound Jo h3,run_sliceBound h1 h2]⟩
  ·cases hc
 ·cases hc
theorem bX {S0:bn} {w0 w:World} {n:Nat} {O:List Nat} {a:Act} {φ:Nat->Option Nat} (hs:aI S0 w0 n O s a w φ) {t el:TypeId} {x:Operand} {lo hi mx:Option Operand} {c:Cut} (ho:o.op= .slice t x lo hi mx) (hc:wz s lo hi mx=some c) (hu:P.underlying t=some (.slice el)) {z:Nat} (hz:eH P el=some z)
  {A:Option Addr} {len cap l m:Nat} (hx:a.eval x= .slice A len cap) (hb:Bounds c len cap l m) (hle:len≤cap) :
  (execOp a.eval o).run P w= .ok (.value (.slice (if cap=l then A else A.map (·.add (l*z))) (m-l) (cap-l))) w:=by
 obtain ⟨rfl,hr⟩:=pG (P:=P) hs hc true hb hle
 unfold execOp
 simp only [ho,hx]
 have zi:(sizeOf el).run P w= .ok z w:=run_sizeOf hz
 simp [Instr.sliceAt,Instr.slice,run_underlying hu,hr,zi]
theorem jH {S0:bn} {w0 w:World} {n:Nat} {O:List Nat} {a:Act} {φ:Nat->Option Nat} (hs:aI S0 w0 n O s a w φ) {t el:TypeId} {x:Operand} {lo hi mx:Option Operand} {c:Cut} (ho:o.op= .slice t x lo hi mx) (hc:wz s lo hi mx=some c) {len:Nat} (hu:P.underlying t=some (.array len el)) {z:Nat} (hz:eH P el=some z)
  {p:Addr} {l m:Nat} (hx:a.eval x= .pointer (some p)) (hb:Bounds c len len l m) :
  (execOp a.eval o).run P w= .ok (.value (.slice (some (if len=l then p else p.add (l*z))) (m-l) (len-l))) w:=by
 obtain ⟨rfl,hr⟩:=pG (P:=P) hs hc false hb (Nat.le_refl _)
 unfold execOp
 simp only [ho,hx]
 have zi:(sizeOf el).run P w= .ok z w:=run_sizeOf hz
 simp [Instr.sliceAt,Instr.sureAddr,run_underlying hu,hr,zi]
theorem jG {S0:bn} {w0 w:World} {n:Nat} {O:List Nat} {a:Act} {φ:Nat->Option Nat} (hs:aI S0 w0 n O s a w φ) {t:TypeId} {x:Operand} {lo hi mx:Option Operand} {c:Cut} (ho:o.op= .slice t x lo hi mx) (hc:wz s lo hi mx=some c) (hu:P.underlying t=some .string)
  {b:ByteArray} {l m:Nat} (hx:a.eval x= .string b) (hb:Bounds c b.size b.size l m) :
  (execOp a.eval o).run P w= .ok (.value (.string (b.extract l m))) w:=by
 obtain ⟨rfl,hr⟩:=pG (P:=P) hs hc false hb (Nat.le_refl _)
 unfold execOp
 simp only [ho,hx]
 simp [Instr.sliceAt,Instr.slice,run_underlying hu,hr]
theorem A6 {S:Nat->Prop} {w:World} {A:Option Addr} {len cap e z:Nat} {row:List AV} (bU:cz S w (.slice A len cap) (.sl e row)) (he:e=z+1) (l m:Nat) (UW:l≤m) (hm:m≤len) :
  cz S w (.slice (if cap=l then A else A.map (·.add (l*(z+1)))) (m-l) (cap-l)) (.sl e ((row.drop (l*e)).take ((m-l)*e))):=by
 cases bU with
 | sl _ _ _ _ us _ hl hn hc hx ha h =>
  have hle:(m-l)*e≤row.length-l*e:=by
   rw [hn,Nat.sub_mul,Nat.mul_comm e len]
   have:=Nat.mul_le_mul_right e hm
   omega
  have hlen:((row.drop (l*e)).take ((m-l)*e)).length=(m-l)*e:=by rw [List.length_take,List.length_drop];omega
  refine .sl _ _ _ _ ((us.drop (l*e)).take ((m-l)*e)) _ (by rw [hlen,List.length_take,List.length_drop];omega) (by rw [hlen,Nat.mul_comm]) ag ag (fun h0=>?_) (fun j u x hu hx=>h (l*e+j) u x (bR _ _ _ _ _ hu) (bR _ _ _ _ _ hx))
  rw [hlen] at h0
  have cS:cap≠l:=by
   intro e'
   have:m-l=0:=ag
   rw [this,Nat.zero_mul] at h0;omega
  have Hi:0<row.length:=ag
  obtain ⟨ad,rfl,hS,bw⟩:=ha Hi
  rw [if_neg cS]
  refine ⟨ad.add (l*(z+1)),rfl,by rw [gX];exact hS,fun j u hu=>?_⟩
  rw [nn,←he]
  exact bw _ u (bR _ _ _ _ _ hu)
theorem m0 {m len e q:Nat} (h:cZ m e≤q) (hq:q=e*len) (he:0<e):m≤len:=by
 rw [bz,hq,Nat.mul_comm] at h
 exact Nat.le_of_mul_le_mul_left h he
theorem tT {m z:Nat} (h:m*(z+1)≤0):m=0:=by
 rcases Nat.eq_zero_or_pos m with h5|h5
 ·exact h5
 ·have:=Nat.mul_pos h5 (ag:0<z+1);omega
theorem Dz {t:TypeId} {x:Operand} {lo hi mx:Option Operand} {c:Cut} (ho:o.op= .slice t x lo hi mx) (hc:wz s lo hi mx=some c) (hr:zz P s t (bq s x) c h=some r):de P s o r.1 r.2:=by
 unfold zz at hr
 split at hr
 ·rename_i hu
  split at hr
  ·rename_i b he
   injection hr with hr;subst hr
   intro hC S0 w0 n O a w φ hs
   have ex:a.eval x= .string b:=bF (he ▸ hs.bq x)
   refine ⟨_,jG hs ho hc hu ex ⟨rfl,rfl⟩,?_⟩
   have:b.extract 0 b.size=b:=by simp
   rw [this];exact .rep (.val _)
  ·rename_i b n he
   injection hr with hr;subst hr
   refine gN ?_
   intro hC S0 w0 n' O a w φ hs
   have ex:a.eval x= .string b:=bF (he ▸ hs.bq x)
   exact ⟨_,jG hs ho hc hu ex ⟨rfl,hC.1,hC.2.1⟩,.rep (.val _)⟩
  ·rename_i b n he
   injection hr with hr;subst hr
   refine gN ?_
   intro hC S0 w0 n' O a w φ hs
   have ex:a.eval x= .string b:=bF (he ▸ hs.bq x)
   exact ⟨_,jG hs ho hc hu ex ⟨hC.1,hC.2.1,rfl⟩,.rep (.val _)⟩
  ·rename_i b n n2 he
   injection hr with hr;subst hr
   refine gN ?_
   intro hC S0 w0 n' O a w φ hs
   have ex:a.eval x= .string b:=bF (he ▸ hs.bq x)
   exact ⟨_,jG hs ho hc hu ex ⟨hC.1,hC.2.1,hC.2.2.1,hC.2.2.2.1⟩,.rep (.val _)⟩
  ·cases hr
 ·rename_i el hu
  split at hr
  ·rename_i z dv
   have sl:∀(e:Nat) (row:List AV) (X:AV) (C:List Prop),bq s x= .sl e row->e=z+1->(bx C-> ∃l m,(∀len cap,row.length=e*len->len≤cap->Bounds c len cap l m∧m≤len)∧l≤m∧X= .sl e ((row.drop (l*e)).take ((m-l)*e))∨(c= .all∧X= .sl e row))->de P s o X C:=by
    intro e row X C he vK hX hC S0 w0 n O a w φ hs
    have hx:=hs.bq x
    rw [he] at hx
    have bU:=pX hx
    cases iG:a.eval x with
    | slice A len cap =>
     rw [iG] at bU
     have BE:=bU
     cases BE with
     | sl _ _ _ _ us _ hl hn lB KC ha h' =>
      obtain ⟨l,m,h1⟩:=hX hC
      rcases h1 with ⟨hb,UW,rfl⟩|⟨rfl,rfl⟩
      ·obtain ⟨hb,hm⟩:=hb len cap hn lB
       exact ⟨_,bX hs ho hc hu dv iG hb lB,.rep (A6 bU vK l m UW hm)⟩
      ·refine ⟨_,bX hs ho hc hu dv iG (l:=0) (m:=len) ⟨rfl,rfl⟩ lB,?_⟩
       have:(if cap=0 then A else A.map (·.add (0*(z+1))))=A:=by
        split
        ·rfl
        ·cases A<;>simp [dL]
       rw [this];exact .rep bU
    | _=>rw [iG] at bU;cases bU
   split at hr
   ·rename_i e row he
    injection hr with hr;subst hr
    refine gN ?_
    intro hC S0 w0 n O a w φ hs
    have hx:=hs.bq x
    rw [he] at hx
    have bU:=pX hx
    cases iG:a.eval x with
    | slice A len cap =>
     rw [iG] at bU
     have BE:=bU
     cases BE with
     | sl _ _ _ _ us _ hl hn lB KC ha h' =>
      refine ⟨_,bX hs ho hc hu dv iG (l:=0) (m:=len) ⟨rfl,rfl⟩ lB,?_⟩
      have:(if cap=0 then A else A.map (·.add (0*(z+1))))=A:=by
       split
       ·rfl
       ·cases A<;>simp [dL]
      rw [this];exact .rep bU
    | _=>rw [iG] at bU;cases bU
   ·rename_i e row n he
    split at hr
    ·rename_i hb
     have vK:e=z+1:=Nat.eq_of_beq_eq_true hb
     injection hr with hr;subst hr
     refine gN (sl e row _ _ he vK fun hC=>⟨0,h.m,.inl ⟨fun len cap hn Od=>?_,Nat.zero_le _,by simp [bz]⟩⟩)
     have:=m0 hC.2.1 hn ag
     exact ⟨⟨rfl,hC.1,ag⟩,this⟩
    ·cases hr
   ·rename_i e row n he
    split at hr
    ·rename_i hb
     have vK:e=z+1:=Nat.eq_of_beq_eq_true hb
     injection hr with hr;subst hr
     refine gN ?_
     intro hC S0 w0 n' O a w φ hs
     have hx:=hs.bq x
     rw [he] at hx
     have bU:=pX hx
     cases iG:a.eval x with
     | slice A len cap =>
      rw [iG] at bU
      have BE:=bU
      cases BE with
      | sl _ _ _ _ us _ hl hn lB KC ha h' =>
       have hk:=m0 hC.2.1 hn ag
       refine ⟨_,bX hs ho hc hu dv iG (l:=h.k) (m:=len) ⟨hC.1,hk,rfl⟩ lB,?_⟩
       have:=A6 bU vK h.k len hk (Nat.le_refl _)
       have e2:(row.drop (h.k*e)).take ((len-h.k)*e)=row.drop (cZ h.k e):=by
        rw [bz,List.take_of_length_le]
        rw [List.length_drop,hn,Nat.sub_mul,Nat.mul_comm e len]
        exact Nat.le_refl _
       rw [e2] at this
       exact .rep this
     | _=>rw [iG] at bU;cases bU
    ·cases hr
   ·rename_i e row n n2 he
    split at hr
    ·rename_i hb
     have vK:e=z+1:=Nat.eq_of_beq_eq_true hb
     injection hr with hr;subst hr
     refine gN (sl e row _ _ he vK fun hC=>⟨h.k,h.m,.inl ⟨fun len cap hn Od=>?_,hC.2.2.1,by simp [bz]⟩⟩)
     have:=m0 hC.2.2.2.1 hn ag
     exact ⟨⟨hC.1,hC.2.1,hC.2.2.1,ag⟩,this⟩
    ·cases hr
   ·rename_i id he
    injection hr with hr;subst hr
    intro hC S0 w0 n O a w φ hs
    have hx:=hs.bq x
    rw [he] at hx
    generalize hV:a.eval x=V at hx
    cases hx with
    | rep h=>cases h
    | ref _ e m g l c' hi hm lB hx bY =>
     refine ⟨_,bX hs ho hc hu dv hV (l:=0) (m:=l) ⟨rfl,rfl⟩ lB,?_⟩
     have:(if c'=0 then (some ⟨g,0,none⟩:Option Addr) else (some ⟨g,0,none⟩:Option Addr).map (·.add (0*(z+1))))=some ⟨g,0,none⟩:=by simp [dL]
     rw [this]
     exact .ref id e m g l c' hi hm lB hx bY
    | cm _ e hi =>
     refine ⟨_,bX hs ho hc hu dv hV (l:=0) (m:=0) ⟨rfl,rfl⟩ (Nat.le_refl _),?_⟩
     simp only [if_true]
     exact .cm id e hi
   ·rename_i id n he
    split at hr
    ·rename_i q hq
     split at hr
     ·rename_i hb
      have vK:q.e=z+1:=Nat.eq_of_beq_eq_true hb
      injection hr with hr;subst hr
      intro hC S0 w0 n' O a w φ hs
      have hx:=hs.bq x
      rw [he] at hx
      generalize hV:a.eval x=V at hx
      cases hx with
      | rep h=>cases h
      | ref _ e m g l c' hi hm lB hx bY =>
       obtain ⟨q',gY,h1,h2,h3⟩:=aS hi
       rw [hq] at gY;injection gY with gY;subst gY
       subst h1
       have hk:=m0 hC.2.1 (by rw [h2];exact hm) ag
       refine ⟨_,bX hs ho hc hu dv hV (l:=0) (m:=h.m) ⟨rfl,hC.1,ag⟩ lB,?_⟩
       have:(if c'=0 then (some ⟨g,0,none⟩:Option Addr) else (some ⟨g,0,none⟩:Option Addr).map (·.add (0*(z+1))))=some ⟨g,0,none⟩:=by simp [dL]
       rw [this]
       exact .pre id _ q.e m g h.m c' hi (by rw [bz,Nat.mul_comm]) (by rw [←h2];exact hC.2.1) ag hx bY
      | cm _ e hi =>
       obtain ⟨q',gY,h1,h2,h3⟩:=aS hi
       rw [hq] at gY;injection gY with gY;subst gY
       have hk:h.m=0:=by
        have h4:=hC.2.1
        rw [bz,h2,vK] at h4
        exact tT h4
       refine ⟨_,bX hs ho hc hu dv hV (l:=0) (m:=h.m) ⟨rfl,hC.1,ag⟩ (Nat.le_refl _),?_⟩
       rw [hk]
       simp only [if_true]
       have e0:cZ 0 q.e=0:=by rw [bz];simp
       rw [e0]
       exact .dP id e hi
     ·cases hr
    ·cases hr
   ·rename_i id n he
    split at hr
    ·rename_i q hq
     split at hr
     ·rename_i hb
      have vK:q.e=z+1:=Nat.eq_of_beq_eq_true hb
      injection hr with hr;subst hr
      intro hC S0 w0 n' O a w φ hs
      have hx:=hs.bq x
      rw [he] at hx
      generalize hV:a.eval x=V at hx
      cases hx with
      | rep h=>cases h
      | ref _ e m g l c' hi hm lB hx bY =>
       obtain ⟨q',gY,h1,h2,h3⟩:=aS hi
       rw [hq] at gY;injection gY with gY;subst gY
       subst h1
       have hk:=m0 hC.2.1 (by rw [h2];exact hm) ag
       have hle:=hC.2.1
       rw [bz] at hle
       refine ⟨_,bX hs ho hc hu dv hV (l:=h.k) (m:=l) ⟨hC.1,hk,rfl⟩ lB,?_⟩
       rw [bz]
       refine .jE id _ _ q.e m (l-h.k) (c'-h.k) (some g) _ hi (by rw [h2,hm,Nat.mul_sub,Nat.mul_comm h.k]) ag ag ag (fun h0=>⟨g,rfl,?_⟩)
       have cS:c'≠h.k:=by
        intro e'
        have:l=h.k:=ag
        rw [h2,hm,this,Nat.mul_comm,Nat.sub_self] at h0;omega
       rw [if_neg cS]
       simp [fv,vK]
      | cm _ e hi =>
       obtain ⟨q',gY,h1,h2,h3⟩:=aS hi
       rw [hq] at gY;injection gY with gY;subst gY
       have hk:h.k=0:=by
        have h4:=hC.2.1
        rw [bz,h2,vK] at h4
        exact tT h4
       refine ⟨_,bX hs ho hc hu dv hV (l:=0) (m:=0) ⟨by rw [hC.1,hk],Nat.le_refl _,rfl⟩ (Nat.le_refl _),?_⟩
       rw [hk,h2]
       have e0:cZ 0 q.e=0:=by rw [bz];simp
       rw [e0]
       simp only [if_true]
       exact .jE id 0 _ e 0 0 0 none none hi (by simp) (by simp) (by simp) (by simp) (fun h=>by simp at h)
     ·cases hr
    ·cases hr
   ·rename_i id n n2 he
    split at hr
    ·rename_i q hq
     split at hr
     ·rename_i hb
      have vK:q.e=z+1:=Nat.eq_of_beq_eq_true hb
      injection hr with hr;subst hr
      intro hC S0 w0 n' O a w φ hs
      have hx:=hs.bq x
      rw [he] at hx
      obtain ⟨i3,Fl,Hr,Pn,-⟩:=hC
      generalize hV:a.eval x=V at hx
      cases hx with
      | rep h=>cases h
      | ref _ e m g l c' hi hm lB hx bY =>
       obtain ⟨q',gY,h1,h2,h3⟩:=aS hi
       rw [hq] at gY;injection gY with gY;subst gY
       subst h1
       have hk:=m0 Pn (by rw [h2];exact hm) ag
       rw [bz] at Pn
       refine ⟨_,bX hs ho hc hu dv hV (l:=h.k) (m:=h.m) ⟨i3,Fl,Hr,ag⟩ lB,?_⟩
       rw [bz,bz]
       have hmul:h.k*q.e≤h.m*q.e:=Nat.mul_le_mul_right _ Hr
       refine .jE id _ _ q.e m (h.m-h.k) (c'-h.k) (some g) _ hi (by rw [Nat.mul_comm]) (by rw [Nat.sub_mul];omega) ag ag (fun h0=>⟨g,rfl,?_⟩)
       have cS:c'≠h.k:=by
        intro e'
        have:h.m-h.k=0:=ag
        rw [this,Nat.zero_mul] at h0;omega
       rw [if_neg cS]
       simp [fv,vK]
      | cm _ e hi =>
       obtain ⟨q',gY,h1,h2,h3⟩:=aS hi
       rw [hq] at gY;injection gY with gY;subst gY
       have hk:h.m=0:=by
        rw [bz,h2,vK] at Pn
        exact tT Pn
       have zl:h.k=0:=ag
       refine ⟨_,bX hs ho hc hu dv hV (l:=0) (m:=0) ⟨by rw [i3,zl],by rw [Fl,hk],Nat.le_refl _,Nat.le_refl _⟩ (Nat.le_refl _),?_⟩
       rw [zl,hk]
       have e0:cZ 0 q.e=0:=by rw [bz];simp
       simp only [Nat.sub_self,e0,if_true]
       exact .jE id 0 0 e 0 0 0 none none hi (by simp) (by simp) (by simp) (by simp) (fun h=>by simp at h)
     ·cases hr
    ·cases hr
   ·rename_i id l' he
    injection hr with hr;subst hr
    intro hC S0 w0 n O a w φ hs
    have hx:=hs.bq x
    rw [he] at hx
    generalize hV:a.eval x=V at hx
    cases hx with
    | rep h=>cases h
    | pre _ _ e m g l c' hi tG hm lB hx bY =>
     refine ⟨_,bX hs ho hc hu dv hV (l:=0) (m:=l) ⟨rfl,rfl⟩ lB,?_⟩
     have:(if c'=0 then (some ⟨g,0,none⟩:Option Addr) else (some ⟨g,0,none⟩:Option Addr).map (·.add (0*(z+1))))=some ⟨g,0,none⟩:=by simp [dL]
     rw [this]
     exact .pre id _ e m g l c' hi tG hm lB hx bY
    | dP _ e hi =>
     refine ⟨_,bX hs ho hc hu dv hV (l:=0) (m:=0) ⟨rfl,rfl⟩ (Nat.le_refl _),?_⟩
     simp only [if_true]
     exact .dP id e hi
   ·rename_i id l' n he
    split at hr
    ·rename_i q hq
     split at hr
     ·rename_i hb
      have vK:q.e=z+1:=Nat.eq_of_beq_eq_true hb
      injection hr with hr;subst hr
      intro hC S0 w0 n' O a w φ hs
      have hx:=hs.bq x
      rw [he] at hx
      generalize hV:a.eval x=V at hx
      cases hx with
      | rep h=>cases h
      | pre _ _ e m g l c' hi tG hm lB hx bY =>
       obtain ⟨q',gY,h1,h2,h3⟩:=aS hi
       rw [hq] at gY;injection gY with gY;subst gY
       subst h1
       have hk:=m0 hC.2.1 tG ag
       refine ⟨_,bX hs ho hc hu dv hV (l:=0) (m:=h.m) ⟨rfl,hC.1,ag⟩ lB,?_⟩
       have:(if c'=0 then (some ⟨g,0,none⟩:Option Addr) else (some ⟨g,0,none⟩:Option Addr).map (·.add (0*(z+1))))=some ⟨g,0,none⟩:=by simp [dL]
       rw [this]
       exact .pre id _ q.e m g h.m c' hi (by rw [bz,Nat.mul_comm]) (by have:=hC.2.1;omega) ag hx bY
      | dP _ e hi =>
       have hk:h.m=0:=by
        have h4:=hC.2.1
        rw [bz,vK] at h4
        exact tT h4
       refine ⟨_,bX hs ho hc hu dv hV (l:=0) (m:=h.m) ⟨rfl,hC.1,ag⟩ (Nat.le_refl _),?_⟩
       rw [hk]
       simp only [if_true]
       have e0:cZ 0 q.e=0:=by rw [bz];simp
       rw [e0]
       exact .dP id e hi
     ·cases hr
    ·cases hr
   ·cases hr
  ·cases hr
 ·rename_i len el hu
  split at hr
  ·rename_i z dv
   have arr:∀(id:Nat) (q:Row),bq s x= .addr id 0->look s.H id=some q->q.full=true-> ∀S0 w0 n O a w φ,aI S0 w0 n O s a w φ-> ∃g,a.eval x= .pointer (some ⟨g,0,none⟩)∧az s.H φ id=some (q.e,q.cells.length,some g)∧aW w g=q.cells.length:=by
    intro id q he hq hf S0 w0 n O a w φ hs
    have hx:=hs.bq x
    rw [he] at hx
    obtain ⟨e,m,g,hi,hv⟩:=j6 hx
    obtain ⟨q',gY,h1,h2,h3⟩:=aS hi
    rw [hq] at gY;injection gY with gY;subst gY
    refine ⟨g,hv,by rw [bt hq,h3],?_⟩
    have aQ:=hs.rows id q hq
    unfold bJ at aQ
    rw [h3] at aQ
    obtain ⟨cur,te,fr,hg,-,-,nr,-⟩:=aQ
    unfold aW;rw [hg]
    exact nr hf
   split at hr
   ·rename_i id he
    split at hr
    ·rename_i q hq
     split at hr
     ·rename_i hb hf
      have vK:q.e=z+1:=Nat.eq_of_beq_eq_true hb
      injection hr with hr;subst hr
      intro hC S0 w0 n O a w φ hs
      obtain ⟨g,hv,hi,fi⟩:=arr id q he hq hf S0 w0 n O a w φ hs
      obtain ⟨i3,Fl,-⟩:=hC
      rw [bz] at i3
      refine ⟨_,jH hs ho hc hu dv hv (l:=0) (m:=len) ⟨rfl,rfl⟩,?_⟩
      have:(if len=0 then (⟨g,0,none⟩:Addr) else (⟨g,0,none⟩:Addr).add (0*(z+1)))=⟨g,0,none⟩:=by simp [dL]
      rw [this]
      exact .ref id q.e _ g len len hi (by rw [i3,Nat.mul_comm]) (Nat.le_refl _) Fl (by rw [fi,i3,Nat.mul_comm])
     ·cases hr
    ·cases hr
   ·rename_i id n he
    split at hr
    ·rename_i q hq
     split at hr
     ·rename_i hb hf
      have vK:q.e=z+1:=Nat.eq_of_beq_eq_true hb
      injection hr with hr;subst hr
      intro hC S0 w0 n' O a w φ hs
      obtain ⟨g,hv,hi,fi⟩:=arr id q he hq hf S0 w0 n' O a w φ hs
      obtain ⟨Q2,Hr,i3,Fl,-⟩:=hC
      rw [bz] at i3
      refine ⟨_,jH hs ho hc hu dv hv (l:=0) (m:=h.m) ⟨rfl,Q2,Hr⟩,?_⟩
      have:(if len=0 then (⟨g,0,none⟩:Addr) else (⟨g,0,none⟩:Addr).add (0*(z+1)))=⟨g,0,none⟩:=by simp [dL]
      rw [this,bz]
      exact .pre id _ q.e _ g h.m len hi (by rw [Nat.mul_comm]) (by rw [i3];exact Nat.mul_le_mul_right _ Hr) Hr Fl (by rw [fi,i3,Nat.mul_comm])
     ·cases hr
    ·cases hr
   ·rename_i id n he
    split at hr
    ·rename_i q hq
     split at hr
     ·rename_i hb hf
      have vK:q.e=z+1:=Nat.eq_of_beq_eq_true hb
      injection hr with hr;subst hr
      intro hC S0 w0 n' O a w φ hs
      obtain ⟨g,hv,hi,fi⟩:=arr id q he hq hf S0 w0 n' O a w φ hs
      obtain ⟨Q2,Hr,i3,Fl,-⟩:=hC
      rw [bz] at i3
      refine ⟨_,jH hs ho hc hu dv hv (l:=h.k) (m:=len) ⟨Q2,Hr,rfl⟩,?_⟩
      rw [bz,bz]
      have hmul:h.k*q.e≤len*q.e:=Nat.mul_le_mul_right _ Hr
      refine .jE id _ _ q.e _ (len-h.k) (len-h.k) (some g) _ hi (by rw [Nat.mul_comm]) (by rw [Nat.sub_mul,i3];omega) ag ag (fun h0=>⟨g,rfl,?_⟩)
      have cS:len≠h.k:=by
       intro e'
       have:len-h.k=0:=ag
       rw [this,Nat.zero_mul] at h0;omega
      rw [if_neg cS]
      simp [fv,vK]
     ·cases hr
    ·cases hr
   ·rename_i id n n2 he
    split at hr
    ·rename_i q hq
     split at hr
     ·rename_i hb hf
      have vK:q.e=z+1:=Nat.eq_of_beq_eq_true hb
      injection hr with hr;subst hr
      intro hC S0 w0 n' O a w φ hs
      obtain ⟨g,hv,hi,fi⟩:=arr id q he hq hf S0 w0 n' O a w φ hs
      obtain ⟨Q2,Pn,Vd,Hr,i3,Fl,-⟩:=hC
      rw [bz] at i3
      refine ⟨_,jH hs ho hc hu dv hv (l:=h.k) (m:=h.m) ⟨Q2,Pn,Vd,Hr⟩,?_⟩
      rw [bz,bz]
      have hmul:h.k*q.e≤h.m*q.e:=Nat.mul_le_mul_right _ Vd
      have UQ:h.m*q.e≤len*q.e:=Nat.mul_le_mul_right _ Hr
      refine .jE id _ _ q.e _ (h.m-h.k) (len-h.k) (some g) _ hi (by rw [Nat.mul_comm]) (by rw [Nat.sub_mul,i3];omega) ag ag (fun h0=>⟨g,rfl,?_⟩)
      have cS:len≠h.k:=by
       intro e'
       have:h.m-h.k=0:=ag
       rw [this,Nat.zero_mul] at h0;omega
      rw [if_neg cS]
      simp [fv,vK]
     ·cases hr
    ·cases hr
   ·cases hr
  ·cases hr
 ·cases hr
end
section
variable {P:Program} {s:AS} {o:Oper} {h:Hint} {r:AV×List Prop}
def sn (P:Program) (t:TypeId) (cs:List AV) (off:Nat) (h:Hint):Option (AV×List Prop) :=
 match eH P t,P.underlying t with
 | some sz,some d =>
  (match d with
  | .struct _| .array _ _=>(match Nat.beq ((cs.drop off).take sz).length sz with|true=>some (.agg ((cs.drop off).take sz),[])|false=>none)
  | _=>(match h.av with
   | some y=>some (y,[cs[off]?=some y])
   | none=>(match cs[off]? with|some y=>some (y,[])|none=>none)))
 | _,_=>none
theorem xX {I:Info} {S:Nat->Prop} {w:World} {t:TypeId} {cs:List AV} {off:Nat} (hr:sn P t cs off h=some r) (hC:bx r.2) (vs:List Value) (hl:vs.length=cs.length) (hd:∀(j:Nat) v c,vs[j]?=some v->cs[j]?=some c->Den I S w v c) :
  ∃v,(part t vs.toArray off).run P w= .ok v w∧Den I S w v r.1:=by
 unfold sn at hr
 split at hr
 ·rename_i sz d dv hu
  have hz:(sizeOf t).run P w= .ok sz w:=run_sizeOf dv
  have agg:cD P t=true->Nat.beq ((cs.drop off).take sz).length sz=true->r=(.agg ((cs.drop off).take sz),[])-> ∃v,(part t vs.toArray off).run P w= .ok v w∧Den I S w v r.1:=by
   intro ha hb hr
   subst hr
   have hlen:=Nat.eq_of_beq_eq_true hb
   rw [List.length_take,List.length_drop] at hlen
   refine ⟨.agg (vs.toArray.extract off (off+sz)),?_,?_⟩
   ·simp [part,iO ⟨d,hu⟩,ha,hz]
   ·have e:vs.toArray.extract off (off+sz)=((vs.drop off).take sz).toArray:=by
     simp [List.extract_eq_take_drop]
    rw [e]
    exact .agg _ _ (by rw [List.length_take,List.length_drop,List.length_take,List.length_drop];omega) fun j v c hv hc=>hd (off+j) v c (bR _ _ _ _ _ hv) (bR _ _ _ _ _ hc)
  have one:∀y,cD P t=false->cs[off]?=some y-> ∃v,(part t vs.toArray off).run P w= .ok v w∧Den I S w v y:=by
   intro y ha hy
   have cW:off<vs.length:=by have:=(List.getElem?_eq_some_iff.1 hy).1;omega
   have hv:vs[off]?=some vs[off]:=List.getElem?_eq_getElem cW
   refine ⟨vs[off],?_,hd off _ y hv hy⟩
   simp [part,iO ⟨d,hu⟩,ha,cW]
  split at hr
  ·have ha:cD P t=true:=by unfold cD;rw [hu]
   split at hr
   ·rename_i hb;injection hr with hr;exact agg ha hb hr.symm
   ·cases hr
  ·have ha:cD P t=true:=by unfold cD;rw [hu]
   split at hr
   ·rename_i hb;injection hr with hr;exact agg ha hb hr.symm
   ·cases hr
  ·rename_i O_ SZ
   have ha:cD P t=false:=by
    unfold cD;rw [hu]
    cases d<;>first|rfl|exact absurd rfl (O_ _)|exact absurd rfl (SZ _ _)
   split at hr
   ·injection hr with hr;subst hr
    exact one _ ha hC.1
   ·split at hr
    ·rename_i y hy
     injection hr with hr;subst hr
     exact one _ ha hy
    ·cases hr
 ·cases hr
def zJ (P:Program) (t:TypeId) (x:AV) (f:Nat) (h:Hint):Option (AV×List Prop) :=
 match P.underlying t,x with
 | some (.struct fields),.agg cs=>(match fields[f]? with|some fd=>sn P fd.type cs fd.offset h|none=>none)
 | _,_=>none
theorem DG {t:TypeId} {x:Operand} {f:Nat} (ho:o.op= .field t x f) (hr:zJ P t (bq s x) f h=some r):de P s o r.1 r.2:=by
 intro hC S0 w0 n O a w φ hs
 have hx:=hs.bq x
 unfold zJ at hr
 split at hr
 ·rename_i fields cs hu he
  split at hr
  ·rename_i fd hf
   rw [he] at hx
   obtain ⟨vs,hv,hl,hd⟩:=kD hx
   obtain ⟨v,h1,h2⟩:=xX hr hC vs hl hd
   refine ⟨v,?_,h2⟩
   unfold execOp
   simp [ho,Instr.field,run_underlying hu,hf,hv,asAgg,h1]
  ·cases hr
 ·cases hr
def sr (x:AV) (i:Nat):Option (AV×List Prop) :=
 match x with
 | .cw cs=>(match cs[i]? with|some y=>some (y,[])|none=>none)
 | _=>none
theorem zM {x:Operand} {i:Nat} (ho:o.op= .extract x i) (hr:sr (bq s x) i=some r):de P s o r.1 r.2:=by
 intro hC S0 w0 n O a w φ hs
 have hx:=hs.bq x
 unfold sr at hr
 split at hr
 ·rename_i cs he
  split at hr
  ·rename_i y hy
   injection hr with hr;subst hr
   rw [he] at hx
   obtain ⟨vs,hv,hl,hd⟩:=Af hx
   have cW:i<vs.length:=by have:=(List.getElem?_eq_some_iff.1 hy).1;omega
   have VG:vs[i]?=some vs[i]:=List.getElem?_eq_getElem cW
   refine ⟨vs[i],?_,hd i _ y VG hy⟩
   unfold execOp
   simp [ho,Instr.extract,hv,cW]
  ·cases hr
 ·cases hr
def zH (P:Program) (t:TypeId) (x:AV) (n:Int) (h:Hint):Option (AV×List Prop) :=
 match P.underlying t,x with
 | some (.array len el),.agg cs=>(match eH P el with|some z=>(match sn P el cs (cZ h.k z) h with|some r=>some (r.1,(n=(h.k:Int))::(h.k<len)::r.2)|none=>none)|none=>none)
 | some (.array len el),.arr cs=>(match eH P el with|some z=>(match sn P el cs (cZ h.k z) h with|some r=>some (r.1,(n=(h.k:Int))::(h.k<len)::r.2)|none=>none)|none=>none)
 | some .string,.val (.string b)=>some (fin h (.val (.int .u8 (bv (b.data.toList.getD h.k 0))),[n=(h.k:Int),h.k<b.size]))
 | _,_=>none
theorem q7 {I:Info} {S:Nat->Prop} {w:World} {v:Value} {cs:List AV} (h:Den I S w v (.arr cs)):∃vs:List Value,v= .agg vs.toArray∧vs.length=cs.length∧ ∀(j:Nat) v c,vs[j]?=some v->cs[j]?=some c->cz S w v c:=by
 cases h with
 | rep h=>cases h with|arr vs _ hl h=>exact ⟨vs,rfl,hl,h⟩
theorem DE {t:TypeId} {x i:Operand} {k:IntKind} {n:Int} (ho:o.op= .index t x i) (hi:bq s i= .val (.int k n)) (hr:zH P t (bq s x) n h=some r):de P s o r.1 r.2:=by
 unfold zH at hr
 have arr:∀(len:Nat) (el:TypeId) (z:Nat) (q:AV×List Prop) (cs:List AV),P.underlying t=some (.array len el)->eH P el=some z->sn P el cs (cZ h.k z) h=some q->r=(q.1,(n=(h.k:Int))::(h.k<len)::q.2) ->
   (∀S0 w0 n O a w φ,aI S0 w0 n O s a w φ-> ∃vs:List Value,a.eval x= .agg vs.toArray∧vs.length=cs.length∧ ∀(j:Nat) v c,vs[j]?=some v->cs[j]?=some c->Den (az s.H φ) (aP S0 w φ O) w v c)->de P s o r.1 r.2:=by
  intro len el z q cs hu hz hq hr hX
  subst hr
  intro hC S0 w0 n' O a w φ hs
  obtain ⟨h1,h2,hC⟩:=hC
  have ei:a.eval i= .int k n:=bF (hi ▸ hs.bq i)
  obtain ⟨vs,hv,hl,hd⟩:=hX S0 w0 n' O a w φ hs
  obtain ⟨v,h3,h4⟩:=xX hq hC vs hl hd
  refine ⟨v,?_,h4⟩
  have lL:0≤n∧n<(len:Int):=ag
  have hk:n.toNat=h.k:=ag
  have zi:(sizeOf el).run P w= .ok z w:=run_sizeOf hz
  rw [bz] at h3
  unfold execOp
  simp [ho,Instr.index,run_underlying hu,hv,asIntOf,ei,lL,hk,zi,h3]
 split at hr
 ·rename_i len el cs hu he
  split at hr
  ·rename_i z hz
   split at hr
   ·rename_i q hq
    injection hr with hr
    refine arr len el z q cs hu hz hq hr.symm fun S0 w0 n O a w φ hs=>?_
    have hx:=hs.bq x
    rw [he] at hx
    exact kD hx
   ·cases hr
  ·cases hr
 ·rename_i len el cs hu he
  split at hr
  ·rename_i z hz
   split at hr
   ·rename_i q hq
    injection hr with hr
    refine arr len el z q cs hu hz hq hr.symm fun S0 w0 n O a w φ hs=>?_
    have hx:=hs.bq x
    rw [he] at hx
    obtain ⟨vs,h1,h2,h3⟩:=q7 hx
    exact ⟨vs,h1,h2,fun j v c hv hc=>.rep (h3 j v c hv hc)⟩
   ·cases hr
  ·cases hr
 ·rename_i b hu he
  injection hr with hr;subst hr
  refine gN ?_
  intro hC S0 w0 n' O a w φ hs
  obtain ⟨h1,h2,-⟩:=hC
  have ei:a.eval i= .int k n:=bF (hi ▸ hs.bq i)
  have ex:a.eval x= .string b:=bF (he ▸ hs.bq x)
  refine ⟨_,?_,.rep (.val _)⟩
  have h0:0≤n:=ag
  have hk:n.toNat=h.k:=ag
  unfold execOp
  simp [ho,Instr.index,run_underlying hu,ex,asIntOf,ei,h0,hk,h2]
  rfl
 ·cases hr
def JI (x:AV):Option (AV×List Prop) :=
 match x with
 | .ptr row off=>some (.ptr row off,[])
 | .addr id off=>some (.addr id off,[])
 | .val (.func (.func f) l c)=>some (.val (.func (.func f) l c),[])
 | _=>none
theorem JH {x:Operand} (ho:o.op= .nilCheck x) (hr:JI (bq s x)=some r):de P s o r.1 r.2:=by
 intro hC S0 w0 n O a w φ hs
 have hx:=hs.bq x
 unfold JI at hr
 split at hr
 ·rename_i row off he
  injection hr with hr;subst hr
  rw [he] at hx
  obtain ⟨ad,us,hv,-⟩:=um hx
  refine ⟨a.eval x,?_,hx⟩
  unfold execOp
  simp [ho,hv]
 ·rename_i id off he
  injection hr with hr;subst hr
  rw [he] at hx
  obtain ⟨e,m,g,-,hv⟩:=j6 hx
  refine ⟨a.eval x,?_,hx⟩
  unfold execOp
  simp [ho,hv]
 ·rename_i f l c he
  injection hr with hr;subst hr
  rw [he] at hx
  have hv:=bF hx
  refine ⟨a.eval x,?_,hx⟩
  unfold execOp
  simp [ho,hv]
 ·cases hr
def DA (s:AS) (c x y:Operand) (h:Hint):Option (AV×List Prop) :=
 match bq s c with
 | .val (.bool b)=>(match h.b with|true=>some (bq s x,[b=true])|false=>some (bq s y,[b=false]))
 | _=>none
theorem GG {c x y:Operand} {h:Hint} (ho:o.op= .pick c x y) (hr:DA s c x y h=some r):de P s o r.1 r.2:=by
 intro hC S0 w0 n O a w φ hs
 unfold DA at hr
 split at hr
 ·rename_i b he
  split at hr
  ·cases hr
   have ec:a.eval c= .bool true:=by
    have h1:a.eval c= .bool b:=bF (he ▸ hs.bq c)
    rw [h1,show b=true from hC.1]
   refine ⟨a.eval x,?_,hs.bq x⟩
   unfold execOp
   simp [ho,ec,asBool]
  ·cases hr
   have ec:a.eval c= .bool false:=by
    have h1:a.eval c= .bool b:=bF (he ▸ hs.bq c)
    rw [h1,show b=false from hC.1]
   refine ⟨a.eval y,?_,hs.bq y⟩
   unfold execOp
   simp [ho,ec,asBool]
 ·cases hr
def JK (P:Program) (s:AS) (ts:Array TypeId) (ty:TypeId) (x:AV) (h:Hint):Option (AV×List Prop) :=
 match x with
 | .val u=>(match ku P (Builtin.len_ ts ty #[u]) with|some z=>some (fin h (.val z,[]))|none=>none)
 | x=>(match ts[0]? with
  | some t=>(match P.underlying t with
   | some (.slice _)=>(match x with
    | .nil=>some (.val (.int .i64 0),[])
    | .sl (e+1) row=>some (.val (.int .i64 h.k),[row.length=cZ h.k (e+1)])
    | .ref id=>(match look s.H id with|some ⟨e+1,_,_,cells⟩=>some (.val (.int .i64 h.k),[cells.length=cZ h.k (e+1)])|_=>none)
    | .pre id l=>(match look s.H id with|some ⟨e+1,_,_,_⟩=>some (.val (.int .i64 h.k),[l=cZ h.k (e+1)])|_=>none)
    | .jE id _ l=>(match look s.H id with|some ⟨e+1,_,_,_⟩=>some (.val (.int .i64 h.k),[l=cZ h.k (e+1)])|_=>none)
    | _=>none)
   | some (.array n _)=>some (.val (.int .i64 n),[])
   | _=>none)
  | none=>none)
theorem rY {q e l k:Nat} (h1:q=cZ k (e+1)) (h2:q=(e+1)*l):l=k:=by
 rw [bz,h2,Nat.mul_comm k] at h1
 exact Nat.eq_of_mul_eq_mul_left ag h1
theorem JJ {x:Operand} {ts:Array TypeId} (ho:o.op= .call {callee:=.builtin .len,args:= #[x],argTypes:=ts}) (hr:JK P s ts o.type (bq s x) h=some r):de P s o r.1 r.2:=by
 unfold JK at hr
 split at hr
 ·rename_i u he
  split at hr
  ·rename_i z hz
   injection hr with hr;subst hr
   refine gN ?_
   intro hC S0 w0 n O a w φ hs
   have ex:a.eval x=u:=bF (he ▸ hs.bq x)
   refine ⟨z,?_,.rep (.val _)⟩
   unfold execOp
   simp [ho,resolve,invoke,builtin,ex,fZ w hz]
  ·cases hr
 ·split at hr
  ·rename_i t ht
   split at hr
   ·rename_i el hu
    have run:∀(a:Act) (w:World) (A:Option Addr) (l c:Nat),a.eval x= .slice A l c->(execOp a.eval o).run P w= .ok (.value (.int .i64 l)) w:=by
     intro a w A l c hv
     unfold execOp
     simp [ho,resolve,invoke,builtin,hv,Builtin.len_,ht,run_underlying hu,goInt]
    split at hr
    ·rename_i he
     injection hr with hr;subst hr
     intro hC S0 w0 n O a w φ hs
     have hx:=hs.bq x
     rw [he] at hx
     generalize hV:a.eval x=V at hx
     cases hx with|rep h=>cases h with|nil=>exact ⟨_,run a w _ _ _ hV,.rep (.val _)⟩
    ·rename_i e row he
     injection hr with hr;subst hr
     intro hC S0 w0 n O a w φ hs
     have hx:=hs.bq x
     rw [he] at hx
     have bU:=pX hx
     generalize hV:a.eval x=V at bU
     cases bU with
     | sl A l c _ us _ hl hn hc hm ha h' =>
      have:=rY hC.1 hn
      subst this
      exact ⟨_,run a w _ _ _ hV,.rep (.val _)⟩
    ·rename_i id he
     split at hr
     ·rename_i e pu fu cells hq
      injection hr with hr;subst hr
      intro hC S0 w0 n O a w φ hs
      have hx:=hs.bq x
      rw [he] at hx
      generalize hV:a.eval x=V at hx
      cases hx with
      | rep h=>cases h
      | ref _ e m g l c hi hm hc hx bY =>
       rw [bt hq] at hi
       injection hi with hi;injection hi with h1 hi;injection hi with h2 h3
       have:=rY hC.1 (by rw [show cells.length=m from h2,hm,←h1])
       subst this
       exact ⟨_,run a w _ _ _ hV,.rep (.val _)⟩
      | cm _ e hi =>
       rw [bt hq] at hi
       injection hi with hi;injection hi with h1 hi;injection hi with h2 h3
       have:=rY (l:=0) hC.1 (by rw [show cells.length=0 from h2];simp)
       rw [←this]
       exact ⟨_,run a w _ _ _ hV,.rep (.val _)⟩
     ·cases hr
    ·rename_i id l' he
     split at hr
     ·rename_i e pu fu cells hq
      injection hr with hr;subst hr
      intro hC S0 w0 n O a w φ hs
      have hx:=hs.bq x
      rw [he] at hx
      generalize hV:a.eval x=V at hx
      cases hx with
      | rep h=>cases h
      | pre _ _ e m g l c hi hn hm hc hx bY =>
       rw [bt hq] at hi
       injection hi with hi;injection hi with h1 hi;injection hi with h2 h3
       have:=rY hC.1 (by rw [hn,←h1])
       subst this
       exact ⟨_,run a w _ _ _ hV,.rep (.val _)⟩
      | dP _ e hi =>
       have:=rY (l:=0) hC.1 (by simp)
       rw [←this]
       exact ⟨_,run a w _ _ _ hV,.rep (.val _)⟩
     ·cases hr
    ·rename_i id off l' he
     split at hr
     ·rename_i e pu fu cells hq
      injection hr with hr;subst hr
      intro hC S0 w0 n O a w φ hs
      have hx:=hs.bq x
      rw [he] at hx
      generalize hV:a.eval x=V at hx
      cases hx with
      | rep h=>cases h
      | jE _ _ _ e m l c g A hi hn hm hc hx ha =>
       rw [bt hq] at hi
       injection hi with hi;injection hi with h1 hi;injection hi with h2 h3
       have:=rY hC.1 (by rw [hn,←h1])
       subst this
       exact ⟨_,run a w _ _ _ hV,.rep (.val _)⟩
     ·cases hr
    ·cases hr
   ·rename_i n' el hu
    injection hr with hr;subst hr
    intro hC S0 w0 n O a w φ hs
    refine ⟨.int .i64 n',?_,.rep (.val _)⟩
    unfold execOp
    simp [ho,resolve,invoke,builtin,Builtin.len_,ht,run_underlying hu,goInt]
   ·cases hr
  ·cases hr
def uF (s:AS):List Operand->Option (List Value)
 | []=>some []
 | x::l=>match bq s x,uF s l with| .val u,some m=>some (u::m)|_,_=>none
theorem xk {S0:bn} {w0 w:World} {n:Nat} {O:List Nat} {a:Act} {φ:Nat->Option Nat} (hs:aI S0 w0 n O s a w φ):∀(xs:List Operand) (us:List Value),uF s xs=some us->xs.map a.eval=us
 | [],us,h=>by cases h;rfl
 | x::l,us,h=>by
  simp only [uF] at h
  split at h
  ·rename_i u m hu hm
   injection h with h;subst h
   rw [List.map_cons,xk hs l m hm,show a.eval x=u from bF (hu ▸ hs.bq x)]
  ·cases h
def Oy (P:Program) (b:Builtin) (ts:Array TypeId) (ty:TypeId) (us:List Value):Option (AV×List Prop) :=
 match b with
 | .min=>(match ku P (Builtin.min_ ts ty us.toArray) with|some z=>some (.val z,[])|none=>none)
 | .max=>(match ku P (Builtin.max_ ts ty us.toArray) with|some z=>some (.val z,[])|none=>none)
 | _=>none
theorem L1 {b:Builtin} {xs:Array Operand} {ts:Array TypeId} {us:List Value} (ho:o.op= .call {callee:=.builtin b,args:=xs,argTypes:=ts}) (hu:uF s xs.toList=some us) (hr:Oy P b ts o.type us=some r):de P s o r.1 r.2:=by
 intro hC S0 w0 n O a w φ hs
 have e:=xk hs _ _ hu
 have e2:xs.map a.eval=us.toArray:=Array.toList_inj.1 (by rw [Array.toList_map,e])
 unfold Oy at hr
 split at hr
 ·split at hr
  ·rename_i z hz
   injection hr with hr;subst hr
   refine ⟨z,?_,.rep (.val _)⟩
   unfold execOp
   simp [ho,resolve,invoke,builtin,e2,fZ w hz]
  ·cases hr
 ·split at hr
  ·rename_i z hz
   injection hr with hr;subst hr
   refine ⟨z,?_,.rep (.val _)⟩
   unfold execOp
   simp [ho,resolve,invoke,builtin,e2,fZ w hz]
  ·cases hr
 ·cases hr
end
end Go.Proofs.YtjgbhhnghedgdaaGreatDoor
