import Derived.Test.YtjgbhhnghedgdaaGreatDoorZaRW
import Derived.Shelf.Unicode.DecodeSlow
import Derived.Calls
import Derived.Laws.Cells
set_option linter.all false
namespace Go.Proofs.YtjgbhhnghedgdaaGreatDoor
open Go.RowKit
inductive AV where
 | val (v:Value)
 | nil
 | agg (cs:List AV)
 | bq (cs:List AV)
 | arr (cs:List AV)
 | sl (e:Nat) (row:List AV)
 | ptr (row:List AV) (off:Nat)
 | own (e:Nat) (row:List AV)
 | box (row:List AV)
 | ref (id:Nat)
 | pre (id n:Nat)
 | js (id off n:Nat)
 | addr (id off:Nat)
 | lI (f:Nat) (cs:List AV)
 | pg (e:Nat) (row:List AV)
 | dead
 deriving Inhabited
inductive cz (S:Nat->Prop) (w:World):Value->AV->Prop
 | val (v:Value):cz S w v (.val v)
 | nil:cz S w (.slice none 0 0) .nil
 | agg (vs:List Value) (cs:List AV) (hl:vs.length=cs.length) (h:∀(j:Nat) v c,vs[j]?=some v->cs[j]?=some c->cz S w v c):cz S w (.agg vs.toArray) (.agg cs)
 | bq (vs:List Value) (cs:List AV) (hl:vs.length=cs.length) (h:∀(j:Nat) v c,vs[j]?=some v->cs[j]?=some c->cz S w v c):cz S w (.tuple vs.toArray) (.bq cs)
 | arr (vs:List Value) (cs:List AV) (hl:vs.length=cs.length) (h:∀(j:Nat) v c,vs[j]?=some v->cs[j]?=some c->cz S w v c):cz S w (.agg vs.toArray) (.arr cs)
 | sl (A:Option Addr) (n c e:Nat) (us:List Value) (row:List AV) (hl:us.length=row.length) (hn:row.length=e*n) (hc:n≤c) (hm:c≤maxLen)
   (ha:0<row.length-> ∃ad,A=some ad∧S ad.block∧ ∀(j:Nat) u,us[j]?=some u->w.cell? (ad.add j)=some u)
   (h:∀(j:Nat) u x,us[j]?=some u->row[j]?=some x->cz S w u x):cz S w (.slice A n c) (.sl e row)
 | pg (A:Option Addr) (n e:Nat) (us:List Value) (row:List AV) (hl:us.length=row.length) (hn:row.length=e*n) (hm:n≤maxLen)
   (ha:0<row.length-> ∃ad,A=some ad∧S ad.block∧ ∀(j:Nat) u,us[j]?=some u->w.cell? (ad.add j)=some u)
   (h:∀(j:Nat) u x,us[j]?=some u->row[j]?=some x->cz S w u x):cz S w (.slice A n n) (.pg e row)
 | ptr (ad:Addr) (us:List Value) (row:List AV) (off:Nat) (hl:us.length=row.length) (hs:S ad.block) (ha:∀(j:Nat) u,us[j]?=some u->w.cell? (ad.add j)=some u)
   (h:∀(j:Nat) u x,us[j]?=some u->row[j]?=some x->cz S w u x):cz S w (.pointer (some (ad.add off))) (.ptr row off)
 | lI (f:Nat) (vs:List Value) (cs:List AV) (hl:vs.length=cs.length) (h:∀(j:Nat) v c,vs[j]?=some v->cs[j]?=some c->cz S w v c):cz S w (.func (.func f) #[] vs.toArray) (.lI f cs)
theorem ks {w w':World} {p:Addr} (h:w'.heap[p.block]?=w.heap[p.block]?):w'.cell? p=w.cell? p:=World.cell?_of_block (w:=w) h
theorem cz.mono {S S':Nat->Prop} {w w':World} (hS:∀b,S b->S' b∧w'.heap[b]?=w.heap[b]?) {v:Value} {av:AV} (h:cz S w v av):cz S' w' v av:=by
 induction h with
 | val v=>exact .val v
 | nil=>exact .nil
 | agg vs cs hl _ ih=>exact .agg vs cs hl ih
 | bq vs cs hl _ ih=>exact .bq vs cs hl ih
 | arr vs cs hl _ ih=>exact .arr vs cs hl ih
 | sl A n c e us row hl hn hc hm ha _ ih =>
  refine .sl A n c e us row hl hn hc hm (fun h0=>?_) ih
  obtain ⟨ad,rfl,hb,bu⟩:=ha h0
  exact ⟨ad,rfl,(hS _ hb).1,fun j u hu=>(ks (by rw [gJ];exact (hS _ hb).2)).trans (bu j u hu)⟩
 | pg A n e us row hl hn hm ha _ ih =>
  refine .pg A n e us row hl hn hm (fun h0=>?_) ih
  obtain ⟨ad,rfl,hb,bu⟩:=ha h0
  exact ⟨ad,rfl,(hS _ hb).1,fun j u hu=>(ks (by rw [gJ];exact (hS _ hb).2)).trans (bu j u hu)⟩
 | ptr ad us row off hl hs ha _ ih =>
  exact .ptr ad us row off hl (hS _ hs).1 (fun j u hu=>(ks (by rw [gJ];exact (hS _ hs).2)).trans (ha j u hu)) ih
 | lI f vs cs hl _ ih=>exact .lI f vs cs hl ih
abbrev Info:=Nat->Option (Nat×Nat×Option Nat)
def aV (w:World) (g:Nat):Nat:=match w.heap[g]? with|some (.cells c _ _)=>c.size|_=>0
inductive Den (I:Info) (S:Nat->Prop) (w:World):Value->AV->Prop
 | rep {v:Value} {av:AV} (h:cz S w v av):Den I S w v av
 | agg (vs:List Value) (cs:List AV) (hl:vs.length=cs.length) (h:∀(j:Nat) v c,vs[j]?=some v->cs[j]?=some c->Den I S w v c):Den I S w (.agg vs.toArray) (.agg cs)
 | bq (vs:List Value) (cs:List AV) (hl:vs.length=cs.length) (h:∀(j:Nat) v c,vs[j]?=some v->cs[j]?=some c->Den I S w v c):Den I S w (.tuple vs.toArray) (.bq cs)
 | ref (id e m g l c:Nat) (hi:I id=some (e,m,some g)) (hm:m=e*l) (hc:l≤c) (hx:c≤maxLen) (hs:aV w g=e*c):Den I S w (.slice (some ⟨g,0,none⟩) l c) (.ref id)
 | cD (id e:Nat) (hi:I id=some (e,0,none)):Den I S w (.slice none 0 0) (.ref id)
 | pre (id n e m g l c:Nat) (hi:I id=some (e,m,some g)) (hn:n=e*l) (hm:n≤m) (hc:l≤c) (hx:c≤maxLen) (hs:aV w g=e*c):Den I S w (.slice (some ⟨g,0,none⟩) l c) (.pre id n)
 | dC (id e:Nat) (hi:I id=some (e,0,none)):Den I S w (.slice none 0 0) (.pre id 0)
 | js (id off n e m l c:Nat) (g:Option Nat) (A:Option Addr) (hi:I id=some (e,m,g)) (hn:n=e*l) (hm:off+n≤m) (hc:l≤c) (hx:c≤maxLen) (ha:0<n-> ∃b,g=some b∧A=some ⟨b,off,none⟩):Den I S w (.slice A l c) (.js id off n)
 | addr (id off e m g:Nat) (hi:I id=some (e,m,some g)):Den I S w (.pointer (some ⟨g,off,none⟩)) (.addr id off)
 | dead (v:Value):Den I S w v .dead
theorem Den.mono {I I':Info} {S S':Nat->Prop} {w w':World} (hI:∀id x,I id=some x->I' id=some x) (hS:∀b,S b->S' b∧w'.heap[b]?=w.heap[b]?)
  (hL:∀id e m g,I id=some (e,m,some g)->aV w' g=aV w g) {v:Value} {av:AV} (h:Den I S w v av):Den I' S' w' v av:=by
 induction h with
 | rep h=>exact .rep (h.mono hS)
 | agg vs cs hl _ ih=>exact .agg vs cs hl ih
 | bq vs cs hl _ ih=>exact .bq vs cs hl ih
 | ref id e m g l c hi hm hc hx hs=>exact .ref id e m g l c (hI _ _ hi) hm hc hx ((hL _ _ _ _ hi).trans hs)
 | cD id e hi=>exact .cD id e (hI _ _ hi)
 | pre id n e m g l c hi hn hm hc hx hs=>exact .pre id n e m g l c (hI _ _ hi) hn hm hc hx ((hL _ _ _ _ hi).trans hs)
 | dC id e hi=>exact .dC id e (hI _ _ hi)
 | js id off n e m l c g A hi hn hm hc hx ha=>exact .js id off n e m l c g A (hI _ _ hi) hn hm hc hx ha
 | addr id off e m g hi=>exact .addr id off e m g (hI _ _ hi)
 | dead v=>exact .dead v
structure Row where
 e:Nat
 pure:Bool
 full:Bool
 cells:List AV
def bg (I:Info) (S:Nat->Prop) (w:World) (p:Bool) (u:Value) (x:AV):Prop:=match p with|true=>cz S w u x|false=>Den I S w u x
def bN (I:Info) (S:Nat->Prop) (w:World) (b:Option Nat) (r:Row):Prop :=
 match b with
 | none=>r.cells= []
 | some g=>∃cur te fr,w.heap[g]?=some (.cells cur te fr)∧(∀j,j<cur.size-> ¬(fr.1≤j∧j<fr.2))∧r.cells.length≤cur.size∧(r.full=true->cur.size=r.cells.length) ∧
   ∀(j:Nat) u x,cur[j]?=some u->r.cells[j]?=some x->bg I S w r.pure u x
def look {α:Type}:List (Nat×α)->Nat->Option α
 | [],_=>none
 | (k,x)::l,i=>match Nat.beq k i with|true=>some x|false=>look l i
def cS {α:Type}:List (Nat×α)->Nat->List (Nat×α)
 | [],_=>[]
 | (k,x)::l,i=>match Nat.beq k i with|true=>cS l i|false=>(k,x)::cS l i
def eg {α:Type} (f:α->α):List (Nat×α)->List (Nat×α)
 | []=>[]
 | (k,x)::l=>(k,f x)::eg f l
theorem bJ (k i:Nat):(Nat.beq k i=true∧k=i)∨(Nat.beq k i=false∧k≠i):=by
 cases h:Nat.beq k i with
 | true=>exact .inl ⟨rfl,Nat.eq_of_beq_eq_true h⟩
 | false=>exact .inr ⟨rfl,Nat.ne_of_beq_eq_false h⟩
theorem aE {α:Type} (k:Nat) (x:α) (l:List (Nat×α)) (i:Nat):look ((k,x)::l) i=if k=i then some x else look l i:=by
 rcases bJ k i with ⟨h,e⟩|⟨h,e⟩<;>simp [look,h,e]
theorem bI {α:Type} (l:List (Nat×α)) (i j:Nat):look (cS l i) j=if i=j then none else look l j:=by
 induction l with
 | nil=>simp [cS,look]
 | cons p l ih =>
  obtain ⟨k,x⟩:=p
  rcases bJ k i with ⟨h,e⟩|⟨h,e⟩
  ·simp only [cS,h];rw [ih,aE,e]
   by_cases hj:i=j<;>simp [hj]
  ·simp only [cS,h,aE,ih]
   by_cases hk:k=j
   ·subst hk;simp [Ne.symm e]
   ·simp [hk]
theorem cy {α:Type} (f:α->α) (l:List (Nat×α)) (i:Nat):look (eg f l) i=(look l i).map f:=by
 induction l with
 | nil=>rfl
 | cons p l ih =>
  obtain ⟨k,x⟩:=p
  simp only [eg,aE,ih]
  by_cases hk:k=i<;>simp [hk]
theorem bM {α:Type} (l m:List (Nat×α)) (i:Nat):look (l++m) i=(look l i).or (look m i):=by
 induction l with
 | nil=>simp [look]
 | cons p l ih =>
  obtain ⟨k,x⟩:=p
  simp only [List.cons_append,aE,ih]
  by_cases hk:k=i<;>simp [hk]
structure AS where
 F:List (Nat×AV)
 H:List (Nat×Row)
def az (H:List (Nat×Row)) (φ:Nat->Option Nat):Info:=fun id=>(look H id).map fun r=>(r.e,r.cells.length,φ id)
def TB (b:Nat):Prop:=b=0∨b=1
def Good (w:World):Prop:=Lib.Utf8Tabs 0 1 w
theorem Good.ae {w w':World} (h:Good w) (hk:∀b,TB b->w'.heap[b]?=w.heap[b]?):Good w' :=
 ⟨fun c hc=>(World.cell?_of_block (hk _ (.inl rfl))).trans (h.1 c hc),fun i hi=>⟨(World.cell?_of_block (hk _ (.inr rfl))).trans (h.2 i hi).1,(World.cell?_of_block (hk _ (.inr rfl))).trans (h.2 i hi).2⟩⟩
theorem Good.lt {w:World} (h:Good w) {b:Nat} (hb:TB b):b<w.heap.size:=by
 have lt:∀ {a:Addr} {v:Value},w.cell? a=some v->a.block<w.heap.size:=fun {a v} hc=>by
  rcases Nat.lt_or_ge a.block w.heap.size with h'|h'
  ·exact h'
  ·simp [World.cell?,Array.getElem?_eq_none h'] at hc
 rcases hb with rfl|rfl
 ·exact lt (h.1 0 (by decide))
 ·exact lt (h.2 0 (by decide)).1
structure bm where
 S:Nat->Prop
 X:Nat->Prop
 fix:Nat->Option Nat
 si:List Deferred:=[]
instance:CoeFun bm fun _=>Nat->Prop:=⟨bm.S⟩
def Qx (S0:bm) (w0:World) (id g:Nat):Prop:=(id<1000000000000∨S0.fix id=some g)∧(w0.heap.size≤g∨S0.X g)
structure Kept (S0:bm) (w0 w:World):Prop where
 os:w.os=w0.os
 tape:w.tape=w0.tape
 output:w.output=w0.output
 size:w0.heap.size≤w.heap.size
 block:∀k,k<w0.heap.size-> ¬S0.X k->w.heap[k]?=w0.heap[k]?
 g0:Good w0
 gx:∀b,TB b-> ¬S0.X b
theorem Kept.mG {S0:bm} {w0 w:World} (h:Kept S0 w0 w):Good w:=h.g0.ae fun b hb=>h.block b (h.g0.lt hb) (h.gx b hb)
theorem Kept.pI {S0:bm} {w0 w w':World} (h:Kept S0 w0 w) (hb:Below w.heap.size w w'):Kept S0 w0 w' :=
 ⟨hb.os.trans h.os,hb.tape.trans h.tape,hb.output.trans h.output,Nat.le_trans h.size hb.size,fun k hk hx=>(hb.block k (Nat.lt_of_lt_of_le hk h.size)).trans (h.block k hk hx),h.g0,h.gx⟩
theorem Kept.below {S0:bm} {w0 w:World} (h:Kept S0 w0 w) (hX:∀b,¬S0.X b):Below w0.heap.size w0 w :=
 ⟨h.os,h.tape,h.output,h.size,fun k hk=>h.block k hk (hX k)⟩
def aN (S0:bm) (w:World) (φ:Nat->Option Nat) (O:List Nat):Nat->Prop:=fun b=>b<w.heap.size∧b ∉ O∧(∀id,φ id≠some b)∧S0 b
structure aL (S0:bm) (w0:World) (n:Nat) (O:List Nat) (s:AS) (a:Act) (w:World) (φ:Nat->Option Nat):Prop where
 jP:a.tmps.size=n
 jS:a.defers=S0.si
 cX:Kept S0 w0 w
 cC:∀i av,look s.F i=some av->Den (az s.H φ) (aN S0 w φ O) w (a.tmps.getD i undef) av
 rows:∀id r,look s.H id=some r->bN (az s.H φ) (aN S0 w φ O) w (φ id) r
 only:∀id,look s.H id=none->φ id=none
 inj:∀id pd g,φ id=some g->φ pd=some g->id=pd
 cW:∀id g,φ id=some g->Qx S0 w0 id g∧g<w.heap.size
 apart:∀id g,φ id=some g->g ∉ O
 new:∀b,(w0.heap.size≤b∨S0.X b)->S0 b
def iu (S0:bm) (w0:World) (n:Nat) (s:AS) (a:Act) (w:World):Prop:=∃ φ,aL S0 w0 n [] s a w φ
theorem Kept.sE {S0:bm} {w0 w:World} (h:Kept S0 w0 w) {g:Nat} (hg:w0.heap.size≤g∨S0.X g):¬TB g:=fun hb=>hg.elim (fun h1=>by have:=h.g0.lt hb;omega) (h.gx g hb)
theorem aL.sE {S0:bm} {w0 w:World} {n:Nat} {O:List Nat} {s:AS} {a:Act} {φ:Nat->Option Nat} (h:aL S0 w0 n O s a w φ) {b:Nat} (hb:TB b):¬ ∃id,φ id=some b:=fun ⟨id,hid⟩=>h.cX.sE (h.cW id b hid).1.2 hb
def jR (s:AS) (i:Nat):AV:=match look s.F i with|some x=>x|none=>.dead
def lp (s:AS) (i:Nat) (x:AV):AS:=⟨(i,x)::cS s.F i,s.H⟩
theorem q8 (s:AS) (i j:Nat) (x:AV):look (lp s i x).F j=if i=j then some x else look s.F j:=by
 simp only [lp,aE,bI]
 by_cases h:i=j<;>simp [h]
section
variable {S0:bm} {w0 w w':World} {n:Nat} {O:List Nat} {s:AS} {a:Act} {φ:Nat->Option Nat}
theorem aL.get (h:aL S0 w0 n O s a w φ) (i:Nat):Den (az s.H φ) (aN S0 w φ O) w (a.tmps.getD i undef) (jR s i):=by
 unfold jR
 cases hl:look s.F i with
 | none=>exact .dead _
 | some x=>exact h.cC i x hl
theorem pR (a:Act) (d i:Nat) (v:Value) (hd:d<a.tmps.size):(a.put (some d) v).tmps.getD i undef=if d=i then v else a.tmps.getD i undef:=by
 simp only [Act.put]
 by_cases h:d=i
 ·subst h;simp [hd]
 ·simp [h,Array.getElem?_setIfInBounds_ne h]
theorem tD (a:Act) (d:Option Nat) (v:Value):(a.put d v).tmps.size=a.tmps.size:=by cases d<;>simp [Act.put]
theorem pr (a:Act) (d:Option Nat) (v:Value):(a.put d v).defers=a.defers:=by cases d<;>simp [Act.put]
theorem aL.put (h:aL S0 w0 n O s a w φ) {d:Nat} (hd:d<n) {v:Value} {x:AV} (hx:Den (az s.H φ) (aN S0 w φ O) w v x):aL S0 w0 n O (lp s d x) (a.put (some d) v) w φ where
 jP:=(tD ..).trans h.jP
 jS:=(pr ..).trans h.jS
 cX:=h.cX
 cC:=fun i av hi=>by
  rw [pR a d i v (by rw [h.jP];exact hd)]
  rw [q8] at hi
  by_cases e:d=i
  ·rw [if_pos e] at hi ⊢
   injection hi with hi
   subst hi;exact hx
  ·rw [if_neg e] at hi ⊢
   exact h.cC i av hi
 rows:=h.rows
 only:=h.only
 inj:=h.inj
 cW:=h.cW
 apart:=h.apart
 new:=h.new
theorem aL.grow (h:aL S0 w0 n O s a w φ) (hb:Below w.heap.size w w'):aL S0 w0 n O s a w' φ where
 jP:=h.jP
 jS:=h.jS
 cX:=h.cX.pI hb
 cC:=fun i av hi=>(h.cC i av hi).mono (fun _ _ h=>h) (fun b hS=>⟨⟨Nat.lt_of_lt_of_le hS.1 hb.size,hS.2⟩,hb.block b hS.1⟩) (fun id e m g hi=>by
  have hg:φ id=some g:=by
   unfold az at hi
   cases hl:look s.H id with
   | none=>rw [hl] at hi;cases hi
   | some r=>rw [hl] at hi;simp at hi;exact hi.2.2
  unfold aV;rw [hb.block g (h.cW id g hg).2])
 rows:=fun id r hr=>by
  have aP:=h.rows id r hr
  unfold bN at aP ⊢
  cases cm:φ id with
  | none=>rw [cm] at aP;exact aP
  | some g =>
   rw [cm] at aP
   obtain ⟨cur,te,fr,hg,hf,hl,mS,hc⟩:=aP
   refine ⟨cur,te,fr,(hb.block g (h.cW id g cm).2).trans hg,hf,hl,mS,fun j u x hu hx=>?_⟩
   have bu:=hc j u x hu hx
   have hS:∀b,aN S0 w φ O b->aN S0 w' φ O b∧w'.heap[b]?=w.heap[b]?:=fun b hS=>⟨⟨Nat.lt_of_lt_of_le hS.1 hb.size,hS.2⟩,hb.block b hS.1⟩
   unfold bg at bu ⊢
   cases hp:r.pure with
   | true=>rw [hp] at bu;exact bu.mono hS
   | false =>
    rw [hp] at bu
    exact bu.mono (fun _ _ h=>h) hS (fun id e m g hi=>by
     have hg:φ id=some g:=by
      unfold az at hi
      cases hl:look s.H id with
      | none=>rw [hl] at hi;cases hi
      | some r=>rw [hl] at hi;simp at hi;exact hi.2.2
     unfold aV;rw [hb.block g (h.cW id g hg).2])
 only:=h.only
 inj:=h.inj
 cW:=fun id g hg=>⟨(h.cW id g hg).1,Nat.lt_of_lt_of_le (h.cW id g hg).2 hb.size⟩
 apart:=h.apart
 new:=h.new
end
def aD (id:Nat):AV->AV
 | .ref i=>match Nat.beq i id with|true=>.dead|false=>.ref i
 | .pre i n=>match Nat.beq i id with|true=>.dead|false=>.pre i n
 | .js i o n=>match Nat.beq i id with|true=>.dead|false=>.js i o n
 | .addr i o=>match Nat.beq i id with|true=>.dead|false=>.addr i o
 | .agg _=>.dead
 | .bq _=>.dead
 | x=>x
def Em (id:Nat):AV->AV
 | .agg cs=>.agg (cs.map (aD id))
 | x=>aD id x
def jL (id:Nat):AV->AV
 | .bq cs=>.bq (cs.map (Em id))
 | x=>Em id x
def cN (id:Nat) (r:Row):Row:=match r.pure with|true=>r|false=>⟨r.e,false,r.full,r.cells.map (aD id)⟩
def ck (id:Nat) (s:AS):AS:=⟨eg (jL id) s.F,eg (cN id) (cS s.H id)⟩
def lP (id:Nat) (r:Row):AV->AV
 | .ref i=>match Nat.beq i id with|true=>.sl r.e r.cells|false=>.ref i
 | .pre i n=>match Nat.beq i id with|true=>.sl r.e (r.cells.take n)|false=>.pre i n
 | .js i o n=>match Nat.beq i id with|true=>.sl r.e ((r.cells.drop o).take n)|false=>.js i o n
 | .addr i o=>match Nat.beq i id with|true=>.ptr r.cells o|false=>.addr i o
 | .agg _=>.dead
 | .bq _=>.dead
 | x=>x
def DT (id:Nat) (r:Row):AV->AV
 | .agg cs=>.agg (cs.map (lP id r))
 | x=>lP id r x
def LQ (id:Nat) (r:Row):AV->AV
 | .bq cs=>.bq (cs.map (DT id r))
 | x=>DT id r x
def gB (id:Nat) (r:Row) (q:Row):Row:=match q.pure with|true=>q|false=>⟨q.e,false,q.full,q.cells.map (lP id r)⟩
def gN (id:Nat) (r:Row) (s:AS):AS:=⟨eg (LQ id r) s.F,eg (gB id r) (cS s.H id)⟩
section
variable {I I':Info} {S S':Nat->Prop} {w w':World}
structure jU (I I':Info) (S S':Nat->Prop) (w:World) (f:AV->AV):Prop where
 leaf:∀v x,Den I S w v x->(∀cs,x≠ .agg cs)->(∀cs,x≠ .bq cs)->Den I' S' w v (f x)
 agg:∀cs,f (.agg cs)= .dead
 bq:∀cs,f (.bq cs)= .dead
theorem jU.all {f:AV->AV} (h:jU I I' S S' w f) {v:Value} {x:AV} (hx:Den I S w v x):Den I' S' w v (f x):=by
 cases x with
 | agg cs=>rw [h.agg];exact .dead _
 | bq cs=>rw [h.bq];exact .dead _
 | _=>exact h.leaf v _ hx (by intro cs e;cases e) (by intro cs e;cases e)
theorem ki {v:Value} {cs:List AV} (h:Den I S w v (.agg cs)):∃vs:List Value,v= .agg vs.toArray∧vs.length=cs.length∧ ∀(j:Nat) v c,vs[j]?=some v->cs[j]?=some c->Den I S w v c:=by
 cases h with
 | rep h=>cases h with|agg vs _ hl h=>exact ⟨vs,rfl,hl,fun j v c hv hc=>.rep (h j v c hv hc)⟩
 | agg vs _ hl h=>exact ⟨vs,rfl,hl,h⟩
theorem yP {v:Value} {cs:List AV} (h:Den I S w v (.bq cs)):∃vs:List Value,v= .tuple vs.toArray∧vs.length=cs.length∧ ∀(j:Nat) v c,vs[j]?=some v->cs[j]?=some c->Den I S w v c:=by
 cases h with
 | rep h=>cases h with|bq vs _ hl h=>exact ⟨vs,rfl,hl,fun j v c hv hc=>.rep (h j v c hv hc)⟩
 | bq vs _ hl h=>exact ⟨vs,rfl,hl,h⟩
theorem jU.one {f:AV->AV} (h:jU I I' S S' w f) {v:Value} {x:AV} (hx:Den I S w v x) {g:AV->AV} (hg:∀cs,g (.agg cs)= .agg (cs.map f)) (ja:∀y,(∀cs,y≠ .agg cs)->g y=f y):Den I' S' w v (g x):=by
 by_cases hc:∃cs,x= .agg cs
 ·obtain ⟨cs,rfl⟩:=hc
  obtain ⟨vs,rfl,hl,hd⟩:=ki hx
  rw [hg]
  refine .agg vs _ (by simpa using hl) fun j v c hv hc=>?_
  rw [List.getElem?_map] at hc
  cases hj:cs[j]? with
  | none=>rw [hj] at hc;cases hc
  | some y=>rw [hj] at hc;injection hc with hc;subst hc;exact h.all (hd j v y hv hj)
 ·rw [ja x fun cs e=>hc ⟨cs,e⟩]
  exact h.all hx
theorem jU.two {f:AV->AV} (h:jU I I' S S' w f) {v:Value} {x:AV} (hx:Den I S w v x) {g k:AV->AV} (hg:∀cs,g (.agg cs)= .agg (cs.map f)) (ja:∀y,(∀cs,y≠ .agg cs)->g y=f y)
  (hk:∀cs,k (.bq cs)= .bq (cs.map g)) (oA:∀y,(∀cs,y≠ .bq cs)->k y=g y):Den I' S' w v (k x):=by
 by_cases hc:∃cs,x= .bq cs
 ·obtain ⟨cs,rfl⟩:=hc
  obtain ⟨vs,rfl,hl,hd⟩:=yP hx
  rw [hk]
  refine .bq vs _ (by simpa using hl) fun j v c hv hc=>?_
  rw [List.getElem?_map] at hc
  cases hj:cs[j]? with
  | none=>rw [hj] at hc;cases hc
  | some y=>rw [hj] at hc;injection hc with hc;subst hc;exact h.one (hd j v y hv hj) hg ja
 ·rw [oA x fun cs e=>hc ⟨cs,e⟩]
  exact h.one hx hg ja
theorem AD (id:Nat) (y:AV) (h:∀cs,y≠ .agg cs):Em id y=aD id y:=by
 cases y with
 | agg cs=>exact absurd rfl (h cs)
 | _=>rfl
theorem AB (id:Nat) (y:AV) (h:∀cs,y≠ .bq cs):jL id y=Em id y:=by
 cases y with
 | bq cs=>exact absurd rfl (h cs)
 | _=>rfl
theorem zw (id:Nat) (r:Row) (y:AV) (h:∀cs,y≠ .agg cs):DT id r y=lP id r y:=by
 cases y with
 | agg cs=>exact absurd rfl (h cs)
 | _=>rfl
theorem zv (id:Nat) (r:Row) (y:AV) (h:∀cs,y≠ .bq cs):LQ id r y=DT id r y:=by
 cases y with
 | bq cs=>exact absurd rfl (h cs)
 | _=>rfl
theorem uw (id:Nat) (hI:∀i x,i≠id->I i=some x->I' i=some x) (hS:∀b,S b->S' b):jU I I' S S' w (aD id) where
 agg:=fun _=>rfl
 bq:=fun _=>rfl
 leaf:=fun v x hx h1 h2=>by
  have sK:∀b,S b->S' b∧w.heap[b]?=w.heap[b]?:=fun b h=>⟨hS b h,rfl⟩
  cases hx with
  | rep h=>cases h with
   | val v=>exact .rep (.val v)
   | nil=>exact .rep .nil
   | agg vs cs _ _=>exact absurd rfl (h1 cs)
   | bq vs cs _ _=>exact absurd rfl (h2 cs)
   | arr vs cs hl h=>exact .rep ((cz.arr vs cs hl h).mono sK)
   | sl A n c e us row hl hn hc hm ha h=>exact .rep ((cz.sl A n c e us row hl hn hc hm ha h).mono sK)
   | pg A n e us row hl hn hm ha h=>exact .rep ((cz.pg A n e us row hl hn hm ha h).mono sK)
   | ptr ad us row off hl hs ha h=>exact .rep ((cz.ptr ad us row off hl hs ha h).mono sK)
   | lI f vs cs hl h=>exact .rep ((cz.lI f vs cs hl h).mono sK)
  | agg vs cs _ _=>exact absurd rfl (h1 cs)
  | bq vs cs _ _=>exact absurd rfl (h2 cs)
  | ref i e m g l c hi hm hc hx hs =>
   rcases bJ i id with ⟨h,e⟩|⟨h,e⟩<;>simp only [aD,h]
   ·exact .dead _
   ·exact .ref i _ m g l c (hI _ _ e hi) hm hc hx hs
  | cD i e hi =>
   rcases bJ i id with ⟨h,e⟩|⟨h,e⟩<;>simp only [aD,h]
   ·exact .dead _
   ·exact .cD i _ (hI _ _ e hi)
  | pre i n e m g l c hi hn hm hc hx hs =>
   rcases bJ i id with ⟨h,e⟩|⟨h,e⟩<;>simp only [aD,h]
   ·exact .dead _
   ·exact .pre i n _ m g l c (hI _ _ e hi) hn hm hc hx hs
  | dC i e hi =>
   rcases bJ i id with ⟨h,e⟩|⟨h,e⟩<;>simp only [aD,h]
   ·exact .dead _
   ·exact .dC i _ (hI _ _ e hi)
  | js i off n e m l c g A hi hn hm hc hx ha =>
   rcases bJ i id with ⟨h,e⟩|⟨h,e⟩<;>simp only [aD,h]
   ·exact .dead _
   ·exact .js i off n _ m l c g A (hI _ _ e hi) hn hm hc hx ha
  | addr i off e m g hi =>
   rcases bJ i id with ⟨h,e⟩|⟨h,e⟩<;>simp only [aD,h]
   ·exact .dead _
   ·exact .addr i off _ m g (hI _ _ e hi)
  | dead v=>exact .dead _
theorem Den.kill (id:Nat) (hI:∀i x,i≠id->I i=some x->I' i=some x) (hS:∀b,S b->S' b) {v:Value} {x:AV} (h:Den I S w v x):Den I' S' w v (jL id x) :=
 (uw id hI hS).two h (fun _=>rfl) (AD id) (fun _=>rfl) (AB id)
theorem e9 {r:Row} {g l c:Nat} {cur:Array Value} {te:TypeId} {fr:Nat×Nat} (hg:w.heap[g]?=some (.cells cur te fr)) (hS:S g) (cells:List AV) (off:Nat) (hl:off+cells.length≤cur.size)
  (hn:cells.length=r.e*l) (hc:l≤c) (hm:c≤maxLen) (A:Option Addr) (hA:0<cells.length->A=some ⟨g,off,none⟩) (h:∀(j:Nat) u x,cur[off+j]?=some u->cells[j]?=some x->cz S w u x):cz S w (.slice A l c) (.sl r.e cells):=by
 refine .sl A l c r.e ((cur.toList.drop off).take cells.length) cells (by have:cur.toList.length=cur.size:=rfl;rw [List.length_take,List.length_drop];omega) hn hc hm (fun h0=>⟨_,hA h0,hS,fun j u hu=>?_⟩) (fun j u x hu hx=>?_)
 ·have e:(⟨g,off,none⟩:Addr).add j=⟨g,off+j,none⟩:=by unfold Addr.add;split<;>simp_all
  rw [e,cell_of_row w g _ cur te fr hg]
  rw [List.getElem?_take] at hu
  split at hu
  ·rw [List.getElem?_drop] at hu;simpa using hu
  ·cases hu
 ·refine h j u x ?_ hx
  rw [List.getElem?_take] at hu
  split at hu
  ·rw [List.getElem?_drop] at hu;simpa using hu
  ·cases hu
theorem o9 {g off:Nat} {cur:Array Value} {te:TypeId} {fr:Nat×Nat} (hg:w.heap[g]?=some (.cells cur te fr)) (hS:S g) (cells:List AV) (hl:cells.length≤cur.size)
  (h:∀(j:Nat) u x,cur[j]?=some u->cells[j]?=some x->cz S w u x):cz S w (.pointer (some ⟨g,off,none⟩)) (.ptr cells off):=by
 have e:∀j,(⟨g,0,none⟩:Addr).add j=⟨g,j,none⟩:=fa g
 have:=cz.ptr (S:=S) (w:=w) ⟨g,0,none⟩ (cur.toList.take cells.length) cells off (by have:cur.toList.length=cur.size:=rfl;rw [List.length_take];omega) hS (fun j u hu=>?_) (fun j u x hu hx=>?_)
 ·rw [e] at this;exact this
 ·rw [e,cell_of_row w g _ cur te fr hg]
  rw [List.getElem?_take] at hu
  split at hu
  ·simpa using hu
  ·cases hu
 ·refine h j u x ?_ hx
  rw [List.getElem?_take] at hu
  split at hu
  ·simpa using hu
  ·cases hu
end
def erase (φ:Nat->Option Nat) (id:Nat):Nat->Option Nat:=fun i=>if i=id then none else φ i
def fD (φ:Nat->Option Nat) (id g:Nat):Nat->Option Nat:=fun i=>if i=id then some g else φ i
section
variable {S0:bm} {w0 w w':World} {n:Nat} {O:List Nat} {s:AS} {a:Act} {φ:Nat->Option Nat}
theorem aQ {H:List (Nat×Row)} {id e m:Nat} {b:Option Nat} (h:az H φ id=some (e,m,b)):∃r,look H id=some r∧r.e=e∧r.cells.length=m∧φ id=b:=by
 unfold az at h
 cases hl:look H id with
 | none=>rw [hl] at h;cases h
 | some r=>rw [hl] at h;simp at h;exact ⟨r,rfl,h⟩
theorem br {H:List (Nat×Row)} {id:Nat} {r:Row} (h:look H id=some r):az H φ id=some (r.e,r.cells.length,φ id):=by
 unfold az;rw [h];rfl
theorem fK (id:Nat) (r:Row):(cN id r).e=r.e∧(cN id r).cells.length=r.cells.length∧(cN id r).pure=r.pure∧(cN id r).full=r.full:=by
 unfold cN
 cases h:r.pure<;>simp [h]
theorem gn (id:Nat) (r q:Row):(gB id r q).e=q.e∧(gB id r q).cells.length=q.cells.length∧(gB id r q).pure=q.pure∧(gB id r q).full=q.full:=by
 unfold gB
 cases h:q.pure<;>simp [h]
theorem nB (id i:Nat) (x:Nat×Nat×Option Nat) (cV:i≠id) (h:az s.H φ i=some x):az (ck id s).H (erase φ id) i=some x:=by
 obtain ⟨e,m,b⟩:=x
 obtain ⟨r,hl,he,hm,hb⟩:=aQ h
 have:look (ck id s).H i=some (cN id r):=by
  unfold ck;rw [cy,bI,if_neg (Ne.symm cV),hl];rfl
 rw [br this,(fK id r).1,(fK id r).2.1,he,hm]
 unfold erase;rw [if_neg cV,hb]
theorem kn (id i:Nat) (q:Row) (x:Nat×Nat×Option Nat) (cV:i≠id) (h:az s.H φ i=some x):az (gN id q s).H (erase φ id) i=some x:=by
 obtain ⟨e,m,b⟩:=x
 obtain ⟨r,hl,he,hm,hb⟩:=aQ h
 have:look (gN id q s).H i=some (gB id q r):=by
  unfold gN;rw [cy,bI,if_neg (Ne.symm cV),hl];rfl
 rw [br this,(gn id q r).1,(gn id q r).2.1,he,hm]
 unfold erase;rw [if_neg cV,hb]
theorem aL.jw (h:aL S0 w0 n O s a w φ) (id:Nat) (O':List Nat) (hO:O'=match φ id with|some g=>g::O|none=>O):aL S0 w0 n O' (ck id s) a w (erase φ id):=by
 have hF:∀b,aN S0 w φ O b->aN S0 w (erase φ id) O' b:=by
  intro b ⟨h1,h2,h3,h4⟩
  refine ⟨h1,?_,fun i hi=>?_,h4⟩
  ·rw [hO]
   cases cm:φ id with
   | none=>exact h2
   | some g =>
    simp only [List.mem_cons,not_or]
    exact ⟨fun e=>h3 id (by rw [cm,e]),h2⟩
  ·unfold erase at hi
   split at hi
   ·cases hi
   ·exact h3 i hi
 refine ⟨h.jP,h.jS,h.cX,fun i av hi=>?_,fun i r hr=>?_,fun i hi=>?_,fun i j g hi hj=>?_,fun i g hi=>?_,fun i g hi=>?_,h.new⟩
 ·unfold ck at hi
  rw [cy] at hi
  cases hl:look s.F i with
  | none=>rw [hl] at hi;cases hi
  | some x =>
   rw [hl] at hi;injection hi with hi;subst hi
   exact (h.cC i x hl).kill id (nB id) hF
 ·have ij:=hr
  unfold ck at ij
  rw [cy,bI] at ij
  by_cases cV:id=i
  ·rw [if_pos cV] at ij;cases ij
  ·rw [if_neg cV] at ij
   cases hl:look s.H i with
   | none=>rw [hl] at ij;cases ij
   | some q =>
    rw [hl] at ij;injection ij with ij;subst ij
    have hq:=h.rows i q hl
    have Cs:erase φ id i=φ i:=by unfold erase;rw [if_neg (Ne.symm cV)]
    rw [Cs]
    unfold bN at hq ⊢
    cases hb:φ i with
    | none =>
     rw [hb] at hq
     have:=(fK id q).2.1
     simp only at hq ⊢
     rw [hq] at this;exact List.length_eq_zero_iff.1 this
    | some g =>
     rw [hb] at hq
     obtain ⟨cur,te,fr,hg,hf,hlen,mS,hc⟩:=hq
     refine ⟨cur,te,fr,hg,hf,by rw [(fK id q).2.1];exact hlen,by rw [(fK id q).2.1,(fK id q).2.2.2];exact mS,fun j u x hu hx=>?_⟩
     rw [(fK id q).2.2.1]
     unfold bg
     cases hp:q.pure with
     | true =>
      have:cN id q=q:=by unfold cN;rw [hp]
      rw [this] at hx
      have:=hc j u x hu hx
      unfold bg at this;rw [hp] at this
      exact this.mono fun b hb=>⟨hF b hb,rfl⟩
     | false =>
      have:(cN id q).cells=q.cells.map (aD id):=by unfold cN;rw [hp]
      rw [this,List.getElem?_map] at hx
      cases hj:q.cells[j]? with
      | none=>rw [hj] at hx;cases hx
      | some y =>
       rw [hj] at hx;injection hx with hx;subst hx
       have:=hc j u y hu hj
       unfold bg at this;rw [hp] at this
       exact (uw id (nB id) hF).all this
 ·unfold ck at hi
  rw [cy,bI] at hi
  unfold erase
  by_cases cV:id=i
  ·rw [if_pos cV.symm]
  ·rw [if_neg cV] at hi
   rw [if_neg (Ne.symm cV)]
   refine h.only i ?_
   cases hl:look s.H i with
   | none=>rfl
   | some r=>rw [hl] at hi;cases hi
 ·unfold erase at hi hj
  split at hi
  ·cases hi
  ·split at hj
   ·cases hj
   ·exact h.inj i j g hi hj
 ·unfold erase at hi
  split at hi
  ·cases hi
  ·exact h.cW i g hi
 ·unfold erase at hi
  split at hi
  ·cases hi
  ·rename_i cV
   rw [hO]
   cases cm:φ id with
   | none=>exact h.apart i g hi
   | some g' =>
    simp only [List.mem_cons,not_or]
    exact ⟨fun e=>cV (h.inj i id g hi (by rw [cm,e])),h.apart i g hi⟩
theorem aL.vX (h:aL S0 w0 n O s a w φ) (hO:∀g∈O,w0.heap.size≤g∨S0.X g) (Ij:w'.os=w.os) (uA:w'.tape=w.tape) (uB:w'.output=w.output) (dw:w.heap.size≤w'.heap.size) (hb:∀b,b<w.heap.size->b ∉ O->w'.heap[b]?=w.heap[b]?):aL S0 w0 n O s a w' φ:=by
 have hF:∀b,aN S0 w φ O b->aN S0 w' φ O b∧w'.heap[b]?=w.heap[b]?:=fun b h=>⟨⟨by have:=h.1;omega,h.2⟩,hb b h.1 h.2.1⟩
 have hL:∀id e m g,az s.H φ id=some (e,m,some g)->aV w' g=aV w g:=by
  intro id e m g hi
  obtain ⟨r,-,-,-,cm⟩:=aQ hi
  unfold aV;rw [hb g (h.cW id g cm).2 (h.apart id g cm)]
 refine ⟨h.jP,h.jS,⟨Ij.trans h.cX.os,uA.trans h.cX.tape,uB.trans h.cX.output,Nat.le_trans h.cX.size dw,fun k hk hx=>?_,h.cX.g0,h.cX.gx⟩,fun i av hi=>(h.cC i av hi).mono (fun _ _ h=>h) hF hL,fun id r hr=>?_,h.only,h.inj,fun id g hg=>⟨(h.cW id g hg).1,Nat.lt_of_lt_of_le (h.cW id g hg).2 dw⟩,h.apart,h.new⟩
 ·rw [hb k (by have:=h.cX.size;omega) (fun hm=>by rcases hO k hm with h|h;omega;exact hx h)]
  exact h.cX.block k hk hx
 ·have aP:=h.rows id r hr
  unfold bN at aP ⊢
  cases cm:φ id with
  | none=>rw [cm] at aP;exact aP
  | some g =>
   rw [cm] at aP
   obtain ⟨cur,te,fr,hg,hf,hl,mS,hc⟩:=aP
   refine ⟨cur,te,fr,(hb g (h.cW id g cm).2 (h.apart id g cm)).trans hg,hf,hl,mS,fun j u x hu hx=>?_⟩
   have bu:=hc j u x hu hx
   unfold bg at bu ⊢
   cases hp:r.pure with
   | true=>rw [hp] at bu;exact bu.mono hF
   | false=>rw [hp] at bu;exact bu.mono (fun _ _ h=>h) hF hL
theorem aL.await (h:aL S0 w0 n O s a w φ) (g:Nat) (hg:w.heap.size≤g):aL S0 w0 n (g::O) s a w φ:=by
 have hF:∀b,aN S0 w φ O b->aN S0 w φ (g::O) b∧w.heap[b]?=w.heap[b]?:=fun b h=>⟨⟨h.1,by simp only [List.mem_cons,not_or];exact ⟨by have:=h.1;omega,h.2.1⟩,h.2.2⟩,rfl⟩
 have hL:∀id e m g,az s.H φ id=some (e,m,some g)->aV w g=aV w g:=fun _ _ _ _ _=>rfl
 refine ⟨h.jP,h.jS,h.cX,fun i av hi=>(h.cC i av hi).mono (fun _ _ h=>h) hF hL,fun id r hr=>?_,h.only,h.inj,h.cW,fun id g' ja=>?_,h.new⟩
 ·have aP:=h.rows id r hr
  unfold bN at aP ⊢
  cases cm:φ id with
  | none=>rw [cm] at aP;exact aP
  | some g =>
   rw [cm] at aP
   obtain ⟨cur,te,fr,hg,hf,hl,mS,hc⟩:=aP
   refine ⟨cur,te,fr,hg,hf,hl,mS,fun j u x hu hx=>?_⟩
   have bu:=hc j u x hu hx
   unfold bg at bu ⊢
   cases hp:r.pure with
   | true=>rw [hp] at bu;exact bu.mono hF
   | false=>rw [hp] at bu;exact bu.mono (fun _ _ h=>h) hF hL
 ·simp only [List.mem_cons,not_or]
  exact ⟨by have:=(h.cW id g' ja).2;omega,h.apart id g' ja⟩
theorem rn {id g:Nat} (hid:φ id=none) (b:Nat):aN S0 w φ (g::O) b↔aN S0 w (fD φ id g) O b:=by
 unfold aN fD
 constructor
 ·rintro ⟨h1,h2,h3,h4⟩
  simp only [List.mem_cons,not_or] at h2
  refine ⟨h1,h2.2,fun i hi=>?_,h4⟩
  split at hi
  ·injection hi with hi;exact h2.1 hi.symm
  ·exact h3 i hi
 ·rintro ⟨h1,h2,h3,h4⟩
  refine ⟨h1,?_,fun i hi=>?_,h4⟩
  ·simp only [List.mem_cons,not_or]
   exact ⟨fun e=>h3 id (by rw [if_pos rfl,e]),h2⟩
  ·by_cases e:i=id
   ·subst e;rw [hid] at hi;cases hi
   ·exact h3 i (by rw [if_neg e];exact hi)
theorem aL.wY {g id:Nat} {r:Row} (h:aL S0 w0 n (g::O) s a w φ) (AR:Qx S0 w0 id g) (FL:g<w.heap.size) (PT:g ∉ O) (hid:look s.H id=none)
  (hr:bN (az s.H φ) (aN S0 w φ (g::O)) w (some g) r):aL S0 w0 n O ⟨s.F,(id,r)::s.H⟩ a w (fD φ id g):=by
 have cm:=h.only id hid
 have hF:∀b,aN S0 w φ (g::O) b->aN S0 w (fD φ id g) O b∧w.heap[b]?=w.heap[b]?:=fun b hb=>⟨(rn cm b).1 hb,rfl⟩
 have hI:∀i x,az s.H φ i=some x->az ((id,r)::s.H) (fD φ id g) i=some x:=by
  intro i x hi
  obtain ⟨e,m,b⟩:=x
  obtain ⟨q,hl,he,hm,hb⟩:=aQ hi
  have cV:id≠i:=fun e=>by subst e;rw [hid] at hl;cases hl
  rw [br (r:=q) (by rw [aE,if_neg cV,hl])]
  unfold fD;rw [if_neg (Ne.symm cV),he,hm,hb]
 have hL:∀id e m g,az s.H φ id=some (e,m,some g)->aV w g=aV w g:=fun _ _ _ _ _=>rfl
 have aP:∀b q,bN (az s.H φ) (aN S0 w φ (g::O)) w b q->bN (az ((id,r)::s.H) (fD φ id g)) (aN S0 w (fD φ id g) O) w b q:=by
  intro b q hq
  unfold bN at hq ⊢
  cases b with
  | none=>exact hq
  | some g' =>
   obtain ⟨cur,te,fr,hg,hf,hl,mS,hc⟩:=hq
   refine ⟨cur,te,fr,hg,hf,hl,mS,fun j u x hu hx=>?_⟩
   have bu:=hc j u x hu hx
   unfold bg at bu ⊢
   cases hp:q.pure with
   | true=>rw [hp] at bu;exact bu.mono hF
   | false=>rw [hp] at bu;exact bu.mono hI hF hL
 refine ⟨h.jP,h.jS,h.cX,fun i av hi=>(h.cC i av hi).mono hI hF hL,fun i q hq=>?_,fun i hi=>?_,fun i j g' hi hj=>?_,fun i g' hi=>?_,fun i g' hi=>?_,h.new⟩
 ·rw [aE] at hq
  by_cases e:id=i
  ·rw [if_pos e] at hq;injection hq with hq;subst hq;subst e
   have:fD φ id g id=some g:=by unfold fD;rw [if_pos rfl]
   rw [this];exact aP _ _ hr
  ·rw [if_neg e] at hq
   have:fD φ id g i=φ i:=by unfold fD;rw [if_neg (Ne.symm e)]
   rw [this];exact aP _ _ (h.rows i q hq)
 ·rw [aE] at hi
  by_cases e:id=i
  ·rw [if_pos e] at hi;cases hi
  ·rw [if_neg e] at hi
   unfold fD;rw [if_neg (Ne.symm e)];exact h.only i hi
 ·have cV:∀i,φ i=some g'->g'≠g:=fun i hi e=>h.apart i g' hi (by rw [e];simp)
  unfold fD at hi hj
  split at hi<;>split at hj
  ·omega
  ·injection hi with hi;exact absurd hi.symm (cV j hj)
  ·injection hj with hj;exact absurd hj.symm (cV i hi)
  ·exact h.inj i j g' hi hj
 ·unfold fD at hi
  split at hi
  ·rename_i e;injection hi with hi;subst hi;exact ⟨e ▸ AR,FL⟩
  ·exact h.cW i g' hi
 ·unfold fD at hi
  split at hi
  ·injection hi with hi;subst hi;exact PT
  ·exact fun hm=>h.apart i g' hi (by simp [hm])
theorem aL.rJ (h:aL S0 w0 n O s a w φ) {id:Nat} {r:Row} (hid:look s.H id=none) (hr:r.cells= []):aL S0 w0 n O ⟨s.F,(id,r)::s.H⟩ a w φ:=by
 have cm:=h.only id hid
 have hI:∀i x,az s.H φ i=some x->az ((id,r)::s.H) φ i=some x:=by
  intro i x hi
  obtain ⟨e,m,b⟩:=x
  obtain ⟨q,hl,he,hm,hb⟩:=aQ hi
  have cV:id≠i:=fun e=>by subst e;rw [hid] at hl;cases hl
  rw [br (r:=q) (by rw [aE,if_neg cV,hl]),he,hm,hb]
 have hF:∀b,aN S0 w φ O b->aN S0 w φ O b∧w.heap[b]?=w.heap[b]?:=fun b hb=>⟨hb,rfl⟩
 have hL:∀id e m g,az s.H φ id=some (e,m,some g)->aV w g=aV w g:=fun _ _ _ _ _=>rfl
 refine ⟨h.jP,h.jS,h.cX,fun i av hi=>(h.cC i av hi).mono hI hF hL,fun i q hq=>?_,fun i hi=>?_,h.inj,h.cW,h.apart,h.new⟩
 ·rw [aE] at hq
  by_cases e:id=i
  ·rw [if_pos e] at hq;injection hq with hq;subst hq;subst e
   rw [cm];exact hr
  ·rw [if_neg e] at hq
   have gL:=h.rows i q hq
   unfold bN at gL ⊢
   cases hb:φ i with
   | none=>rw [hb] at gL;exact gL
   | some g' =>
    rw [hb] at gL
    obtain ⟨cur,te,fr,hg,hf,hl,mS,hc⟩:=gL
    refine ⟨cur,te,fr,hg,hf,hl,mS,fun j u x hu hx=>?_⟩
    have bu:=hc j u x hu hx
    unfold bg at bu ⊢
    cases hp:q.pure with
    | true=>rw [hp] at bu;exact bu
    | false=>rw [hp] at bu;exact bu.mono hI hF hL
 ·rw [aE] at hi
  by_cases e:id=i
  ·rw [if_pos e] at hi;cases hi
  ·rw [if_neg e] at hi;exact h.only i hi
theorem aL.uS {g:Nat} (h:aL S0 w0 n (g::O) s a w φ):aL S0 w0 n O s a w φ:=by
 have hF:∀b,aN S0 w φ (g::O) b->aN S0 w φ O b∧w.heap[b]?=w.heap[b]?:=fun b h=>⟨⟨h.1,fun hm=>h.2.1 (by simp [hm]),h.2.2⟩,rfl⟩
 have hL:∀id e m g,az s.H φ id=some (e,m,some g)->aV w g=aV w g:=fun _ _ _ _ _=>rfl
 refine ⟨h.jP,h.jS,h.cX,fun i av hi=>(h.cC i av hi).mono (fun _ _ h=>h) hF hL,fun id r hr=>?_,h.only,h.inj,h.cW,fun id g' ja hm=>h.apart id g' ja (by simp [hm]),h.new⟩
 have aP:=h.rows id r hr
 unfold bN at aP ⊢
 cases cm:φ id with
 | none=>rw [cm] at aP;exact aP
 | some g =>
  rw [cm] at aP
  obtain ⟨cur,te,fr,hg,hf,hl,mS,hc⟩:=aP
  refine ⟨cur,te,fr,hg,hf,hl,mS,fun j u x hu hx=>?_⟩
  have bu:=hc j u x hu hx
  unfold bg at bu ⊢
  cases hp:r.pure with
  | true=>rw [hp] at bu;exact bu.mono hF
  | false=>rw [hp] at bu;exact bu.mono (fun _ _ h=>h) hF hL
theorem aL.LP (h:aL S0 w0 n O s a w φ) {id:Nat} {r:Row} (hr:look s.H id=some r) (hp:r.pure=true):aL S0 w0 n O (gN id r s) a w (erase φ id):=by
 have hF:∀b,aN S0 w φ O b->aN S0 w (erase φ id) O b:=by
  intro b ⟨h1,h2,h3,h4⟩
  refine ⟨h1,h2,fun i hi=>?_,h4⟩
  unfold erase at hi
  split at hi
  ·cases hi
  ·exact h3 i hi
 have Nx:∀b,aN S0 w φ O b->aN S0 w (erase φ id) O b∧w.heap[b]?=w.heap[b]?:=fun b hb=>⟨hF b hb,rfl⟩
 have aP:=h.rows id r hr
 have hI:=br (φ:=φ) hr
 have ok:jU (az s.H φ) (az (gN id r s).H (erase φ id)) (aN S0 w φ O) (aN S0 w (erase φ id) O) w (lP id r):=by
  refine ⟨fun v x hx h1 h2=>?_,fun _=>rfl,fun _=>rfl⟩
  have QU:∀g,φ id=some g->aN S0 w (erase φ id) O g:=fun g hg=>⟨(h.cW id g hg).2,h.apart id g hg,fun i hi=>by
   unfold erase at hi
   split at hi
   ·cases hi
   ·rename_i cV;exact cV (h.inj i id g hi hg),h.new g (h.cW id g hg).1.2⟩
  have AW:∀g,φ id=some g-> ∃cur te fr,w.heap[g]?=some (.cells cur te fr)∧r.cells.length≤cur.size∧ ∀(j:Nat) u x,cur[j]?=some u->r.cells[j]?=some x->cz (aN S0 w (erase φ id) O) w u x:=by
   intro g hg
   have Ie:=aP
   unfold bN at Ie
   rw [hg] at Ie
   obtain ⟨cur,te,fr,ja,hf,hl,-,hc⟩:=Ie
   refine ⟨cur,te,fr,ja,hl,fun j u x hu hx=>?_⟩
   have:=hc j u x hu hx
   unfold bg at this;rw [hp] at this
   exact this.mono Nx
  have DU:∀(l:List AV) (k j:Nat) (x:AV),(l.take k)[j]?=some x->l[j]?=some x:=by
   intro l k j x hx
   rw [List.getElem?_take] at hx
   split at hx
   ·exact hx
   ·cases hx
  cases hx with
  | rep h=>cases h with
   | val v=>exact .rep (.val v)
   | nil=>exact .rep .nil
   | agg vs cs _ _=>exact absurd rfl (h1 cs)
   | bq vs cs _ _=>exact absurd rfl (h2 cs)
   | arr vs cs hl h=>exact .rep ((cz.arr vs cs hl h).mono Nx)
   | sl A n c e us row hl hn hc hm ha h=>exact .rep ((cz.sl A n c e us row hl hn hc hm ha h).mono Nx)
   | pg A n e us row hl hn hm ha h=>exact .rep ((cz.pg A n e us row hl hn hm ha h).mono Nx)
   | ptr ad us row off hl hs ha h=>exact .rep ((cz.ptr ad us row off hl hs ha h).mono Nx)
   | lI f vs cs hl h=>exact .rep ((cz.lI f vs cs hl h).mono Nx)
  | agg vs cs _ _=>exact absurd rfl (h1 cs)
  | bq vs cs _ _=>exact absurd rfl (h2 cs)
  | ref i e m g l c hi hm hc hx hs =>
   rcases bJ i id with ⟨hb,e'⟩|⟨hb,e'⟩<;>simp only [lP,hb]
   ·subst e'
    rw [hI] at hi;injection hi with hi;injection hi with he hi;injection hi with L5 hg
    obtain ⟨cur,te,fr,ja,hl,kY⟩:=AW g hg
    exact .rep (e9 (r:=r) ja (QU g hg) r.cells 0 ah (by rw [L5,he];exact hm) hc hx _ (fun _=>rfl) (fun j u x hu hx=>kY j u x (by simpa using hu) hx))
   ·exact .ref i _ m g l c (kn id i r _ e' hi) hm hc hx hs
  | cD i e hi =>
   rcases bJ i id with ⟨hb,e'⟩|⟨hb,e'⟩<;>simp only [lP,hb]
   ·subst e'
    rw [hI] at hi;injection hi with hi;injection hi with he hi;injection hi with L5 hg
    have h0:r.cells= []:=List.length_eq_zero_iff.1 L5
    rw [h0]
    exact .rep (.sl none 0 0 _ [] [] rfl (by simp) (by simp) (by simp) (fun h=>by simp at h) (fun j u x hu=>by simp at hu))
   ·exact .cD i _ (kn id i r _ e' hi)
  | pre i k e m g l c hi hn hm hc hx hs =>
   rcases bJ i id with ⟨hb,e'⟩|⟨hb,e'⟩<;>simp only [lP,hb]
   ·subst e'
    rw [hI] at hi;injection hi with hi;injection hi with he hi;injection hi with L5 hg
    obtain ⟨cur,te,fr,ja,hl,kY⟩:=AW g hg
    exact .rep (e9 (r:=r) ja (QU g hg) (r.cells.take k) 0 (by rw [List.length_take];omega) (by rw [List.length_take,he,←hn];omega) hc hx _ (fun _=>rfl) (fun j u x hu hx=>kY j u x (by simpa using hu) (DU _ _ _ _ hx)))
   ·exact .pre i k _ m g l c (kn id i r _ e' hi) hn hm hc hx hs
  | dC i e hi =>
   rcases bJ i id with ⟨hb,e'⟩|⟨hb,e'⟩<;>simp only [lP,hb]
   ·simp only [List.take_zero]
    exact .rep (.sl none 0 0 _ [] [] rfl (by simp) (by simp) (by simp) (fun h=>by simp at h) (fun j u x hu=>by simp at hu))
   ·exact .dC i _ (kn id i r _ e' hi)
  | js i off k e m l c g A hi hn hm hc hx ha =>
   rcases bJ i id with ⟨hb,e'⟩|⟨hb,e'⟩<;>simp only [lP,hb]
   ·subst e'
    rw [hI] at hi;injection hi with hi;injection hi with he hi;injection hi with L5 hg
    have hlen:((r.cells.drop off).take k).length=k:=by rw [List.length_take,List.length_drop];omega
    by_cases hk:0<k
    ·obtain ⟨b,kL,hA⟩:=ha hk
     rw [kL] at hg
     obtain ⟨cur,te,fr,ja,hl,kY⟩:=AW b hg
     exact .rep (e9 (r:=r) ja (QU b hg) ((r.cells.drop off).take k) off (by rw [hlen];omega) (by rw [hlen,he,←hn]) hc hx _ (fun _=>hA) (fun j u x hu hx=>kY (off+j) u x hu (by have:=DU _ _ _ _ hx;rw [List.getElem?_drop] at this;exact this)))
    ·have h0:(r.cells.drop off).take k= []:=List.length_eq_zero_iff.1 ah
     rw [h0]
     exact .rep (.sl A l c r.e [] [] rfl (by rw [he];simp;omega) hc hx (fun h=>by simp at h) (fun j u x hu=>by simp at hu))
   ·exact .js i off k _ m l c g A (kn id i r _ e' hi) hn hm hc hx ha
  | addr i off e m g hi =>
   rcases bJ i id with ⟨hb,e'⟩|⟨hb,e'⟩<;>simp only [lP,hb]
   ·subst e'
    rw [hI] at hi;injection hi with hi;injection hi with he hi;injection hi with L5 hg
    obtain ⟨cur,te,fr,ja,hl,kY⟩:=AW g hg
    exact .rep (o9 ja (QU g hg) r.cells hl kY)
   ·exact .addr i off _ m g (kn id i r _ e' hi)
  | dead v=>exact .dead _
 refine ⟨h.jP,h.jS,h.cX,fun i av hi=>?_,fun i q hq=>?_,fun i hi=>?_,fun i j g hi hj=>?_,fun i g hi=>?_,fun i g hi=>?_,h.new⟩
 ·unfold gN at hi
  rw [cy] at hi
  cases hl:look s.F i with
  | none=>rw [hl] at hi;cases hi
  | some x =>
   rw [hl] at hi;injection hi with hi;subst hi
   exact ok.two (h.cC i x hl) (fun _=>rfl) (zw id r) (fun _=>rfl) (zv id r)
 ·have ij:=hq
  unfold gN at ij
  rw [cy,bI] at ij
  by_cases cV:id=i
  ·rw [if_pos cV] at ij;cases ij
  ·rw [if_neg cV] at ij
   cases hl:look s.H i with
   | none=>rw [hl] at ij;cases ij
   | some p =>
    rw [hl] at ij;injection ij with ij;subst ij
    have gL:=h.rows i p hl
    have Cs:erase φ id i=φ i:=by unfold erase;rw [if_neg (Ne.symm cV)]
    rw [Cs]
    unfold bN at gL ⊢
    cases hb:φ i with
    | none =>
     rw [hb] at gL
     have:=(gn id r p).2.1
     simp only at gL ⊢
     rw [gL] at this;exact List.length_eq_zero_iff.1 this
    | some g =>
     rw [hb] at gL
     obtain ⟨cur,te,fr,hg,hf,hlen,mS,hc⟩:=gL
     refine ⟨cur,te,fr,hg,hf,by rw [(gn id r p).2.1];exact hlen,by rw [(gn id r p).2.1,(gn id r p).2.2.2];exact mS,fun j u x hu hx=>?_⟩
     rw [(gn id r p).2.2.1]
     unfold bg
     cases Ew:p.pure with
     | true =>
      have:gB id r p=p:=by unfold gB;rw [Ew]
      rw [this] at hx
      have:=hc j u x hu hx
      unfold bg at this;rw [Ew] at this
      exact this.mono Nx
     | false =>
      have:(gB id r p).cells=p.cells.map (lP id r):=by unfold gB;rw [Ew]
      rw [this,List.getElem?_map] at hx
      cases hj:p.cells[j]? with
      | none=>rw [hj] at hx;cases hx
      | some y =>
       rw [hj] at hx;injection hx with hx;subst hx
       have:=hc j u y hu hj
       unfold bg at this;rw [Ew] at this
       exact ok.all this
 ·unfold gN at hi
  rw [cy,bI] at hi
  unfold erase
  by_cases cV:id=i
  ·rw [if_pos cV.symm]
  ·rw [if_neg cV] at hi
   rw [if_neg (Ne.symm cV)]
   refine h.only i ?_
   cases hl:look s.H i with
   | none=>rfl
   | some r=>rw [hl] at hi;cases hi
 ·unfold erase at hi hj
  split at hi
  ·cases hi
  ·split at hj
   ·cases hj
   ·exact h.inj i j g hi hj
 ·unfold erase at hi
  split at hi
  ·cases hi
  ·exact h.cW i g hi
 ·unfold erase at hi
  split at hi
  ·cases hi
  ·exact h.apart i g hi
end
def bx:List Prop->Prop
 | []=>True
 | p::l=>p∧bx l
structure Hint where
 av:Option AV:=none
 k:Nat:=0
 m:Nat:=0
 b:Bool:=true
 g:Bool:=true
 ln:List (Nat×Nat):=[]
 ho:List (Nat×Row):=[]
def j9 {α:Type} (P:Program):Sem α->Option α
 | .pure a=>some a
 | .program k=>j9 P (k P)
 | .mark _ k=>j9 P k
 | _=>none
theorem fJ {α:Type} {P:Program} (w:World):∀ {x:Sem α} {a:α},j9 P x=some a->x.run P w= .ok a w
 | .pure a,_,h=>by injection h with h;subst h;rfl
 | .program k,a,h=>by show (k P).run P w=_;exact fJ w h
 | .mark _ k,a,h=>by show k.run P w=_;exact fJ w h
 | .load ..,_,h| .store ..,_,h| .new ..,_,h| .shape ..,_,h| .freeze ..,_,h| .frozen ..,_,h| .getObj ..,_,h| .setObj ..,_,h| .choose ..,_,h| .sys ..,_,h| .halt ..,_,h=>by cases h
def bC:Value->AV
 | .slice none 0 0=>.nil
 | v=>.val v
def yQ:Value->AV
 | .agg cs=>.agg (cs.toList.map bC)
 | v=>bC v
def bp (s:AS):Operand->AV
 | .tmp t=>jR s t
 | .const v=>yQ v
 | .global _=>.dead
 | .func f=>.val (.func (.func f) #[] #[])
section
variable {I:Info} {S:Nat->Prop} {w:World}
theorem fN (v:Value):cz S w v (bC v):=by
 unfold bC
 split
 ·exact .nil
 ·exact .val _
theorem Fg (v:Value):cz S w v (yQ v):=by
 unfold yQ
 split
 ·rename_i cs
  have:=cz.agg (S:=S) (w:=w) cs.toList (cs.toList.map bC) (by simp) (fun j v c hv hc=>by
   rw [List.getElem?_map,hv] at hc
   injection hc with hc;subst hc;exact fN v)
  simpa using this
 ·exact fN _
end
section
variable {S0:bm} {w0 w:World} {n:Nat} {O:List Nat} {s:AS} {a:Act} {φ:Nat->Option Nat} {P:Program}
theorem aL.bp (h:aL S0 w0 n O s a w φ) (x:Operand):Den (az s.H φ) (aN S0 w φ O) w (a.eval x) (bp s x):=by
 cases x with
 | tmp t=>exact h.get t
 | const v=>exact .rep (Fg v)
 | global g=>exact .dead _
 | func f=>exact .rep (.val _)
end
theorem bL {I:Info} {S:Nat->Prop} {w:World} {v u:Value} (h:Den I S w v (.val u)):v=u:=by
 cases h with|rep h=>cases h;rfl
def dc (P:Program) (s:AS) (o:Oper) (x:AV) (C:List Prop):Prop :=
 bx C-> ∀S0 w0 n O a w φ,aL S0 w0 n O s a w φ-> ∃v,(execOp a.eval o).run P w= .ok (.value v) w∧Den (az s.H φ) (aN S0 w φ O) w v x
def fin (h:Hint) (r:AV×List Prop):AV×List Prop:=match h.av with|none=>r|some y=>(y,(r.1=y)::r.2)
theorem gy {P:Program} {s:AS} {o:Oper} {h:Hint} {r:AV×List Prop} (hr:dc P s o r.1 r.2):dc P s o (fin h r).1 (fin h r).2:=by
 unfold fin
 split
 ·exact hr
 ·rename_i y _
  intro hC
  obtain ⟨rfl,hC⟩:=hC
  exact hr hC
def eh (P:Program) (t:TypeId):Option Nat:=(P.info? t).map (·.size)
def cF (P:Program) (t:TypeId):Bool:=match P.underlying t with|some (.struct _)|some (.array _ _)=>true|_=>false
def H5 (P:Program) (t:TypeId):Bool:=match P.underlying t with|some (.array _ _)=>true|_=>false
def T1 (P:Program) (t:TypeId):Option TypeId:=match P.underlying t with|some (.slice e)=>some e|_=>none
section
variable {P:Program} {w:World}
theorem run_sizeOf {t:TypeId} {k:Nat} (h:eh P t=some k):(sizeOf t).run P w= .ok k w:=by
 unfold eh at h
 cases hi:P.info? t with
 | none=>rw [hi] at h;cases h
 | some i=>rw [hi] at h;injection h with h;simp [sizeOf,typeInfo,hi,h]
theorem iw {t:TypeId} (hu:∃d,P.underlying t=some d):(isAgg t).run P w= .ok (cF P t) w:=by
 obtain ⟨d,hd⟩:=hu
 unfold isAgg cF
 simp only [Sem.run_bind,run_underlying hd,Result.andThen_ok,hd]
 cases d<;>rfl
end
def Jd (P:Program) (op:BinOp) (t:TypeId) (x y:Operand) (u v:Value):Option (AV×List Prop) :=
 match op,u,v with
 | .quo,.int k a,.int k' b=>if k=k' then some (.val (.int k (k.wrap (a.tdiv b))),[b≠0]) else none
 | .rem,.int k a,.int k' b=>if k=k' then some (.val (.int k (a.tmod b)),[b≠0]) else none
 | .shl,.int k a,.int _ b=>some (.val (.int k (k.wrap (a*2^min b.toNat k.bits))),[0≤b])
 | .shr,.int k a,.int _ b=>some (.val (.int k (a.fdiv (2^min b.toNat k.bits))),[0≤b])
 | .add,.string a,.string b=>some (.val (.string (a++b)),[a.size+b.size≤9223372036854775807])
 | op,u,v=>match j9 P (do eqGuard op t x y u v;binOp op t u v) with|some z=>some (.val z,[])|none=>none
theorem Jc {P:Program} {s:AS} {o:Oper} {op:BinOp} {t t':TypeId} {x y:Operand} {u v:Value} {r:AV×List Prop} (ho:o.op= .binOp op t x y t') (hx:bp s x= .val u) (hy:bp s y= .val v) (h:Jd P op t x y u v=some r):dc P s o r.1 r.2:=by
 intro hC S0 w0 n O a w φ hs
 have ex:a.eval x=u:=bL (hx ▸ hs.bp x)
 have ey:a.eval y=v:=bL (hy ▸ hs.bp y)
 unfold execOp
 simp only [ho,ex,ey]
 unfold Jd at h
 split at h
 ·split at h
  ·rename_i hk
   injection h with h;subst h;subst hk
   have hb:=hC.1
   refine ⟨_,?_,.rep (.val _)⟩
   simp [eqGuard,binOp,Op.intDiv,hb]
  ·cases h
 ·split at h
  ·rename_i hk
   injection h with h;subst h;subst hk
   have hb:=hC.1
   refine ⟨_,?_,.rep (.val _)⟩
   simp [eqGuard,binOp,Op.intDiv,hb]
  ·cases h
 ·injection h with h;subst h
  have hb:¬(_:Int)<0:=Int.not_lt.2 hC.1
  refine ⟨_,?_,.rep (.val _)⟩
  simp [eqGuard,binOp,Op.shift,hb]
 ·injection h with h;subst h
  have hb:¬(_:Int)<0:=Int.not_lt.2 hC.1
  refine ⟨_,?_,.rep (.val _)⟩
  simp [eqGuard,binOp,Op.shift,hb]
 ·injection h with h;subst h
  have hb:¬(IntKind.i64.max<((_:Nat):Int)):=fun q=>by
   have h1:=hC.1
   have h2:IntKind.i64.max=9223372036854775807:=rfl
   rw [h2] at q
   exact absurd (Int.ofNat_le.2 h1) (Int.not_le.2 q)
  refine ⟨_,?_,.rep (.val _)⟩
  simp only [eqGuard,binOp,Op.stringOp,gt_iff_lt,if_neg hb]
  simp
 ·split at h
  ·rename_i z hz
   injection h with h;subst h
   refine ⟨z,?_,.rep (.val _)⟩
   rw [Sem.run_bind,fJ w hz];rfl
  ·cases h
def NF (P:Program) (op:UnOp) (u:Value):Option (AV×List Prop):=match j9 P (Op.unary op u) with|some z=>some (.val z,[])|none=>none
theorem Ll {P:Program} {s:AS} {o:Oper} {op:UnOp} {t:TypeId} {x:Operand} {u:Value} {r:AV×List Prop} (ho:o.op= .unOp op t x) (hx:bp s x= .val u) (h:NF P op u=some r):dc P s o r.1 r.2:=by
 intro hC S0 w0 n O a w φ hs
 have ex:a.eval x=u:=bL (hx ▸ hs.bp x)
 unfold execOp
 simp only [ho,ex]
 unfold NF at h
 split at h
 ·rename_i z hz
  injection h with h;subst h
  refine ⟨z,?_,.rep (.val _)⟩
  rw [Sem.run_bind,fJ w hz];rfl
 ·cases h
def jE (s:AS):AV->Option AV
 | .ref id=>match look s.H id with|some r=>(match r.pure with|true=>some (.sl r.e r.cells)|false=>none)|none=>none
 | .pre id n=>match look s.H id with|some r=>(match r.pure with|true=>some (.sl r.e (r.cells.take n))|false=>none)|none=>none
 | .js id o n=>match look s.H id with|some r=>(match r.pure with|true=>some (.sl r.e ((r.cells.drop o).take n))|false=>none)|none=>none
 | .addr id o=>match look s.H id with|some r=>(match r.pure with|true=>some (.ptr r.cells o)|false=>none)|none=>none
 | .agg _=>none
 | .bq _=>none
 | .dead=>none
 | .own _ _=>none
 | .box _=>none
 | x=>some x
def oE (s:AS):List AV->Option (List AV)
 | []=>some []
 | x::l=>match jE s x,oE s l with|some y,some m=>some (y::m)|_,_=>none
def view (s:AS):AV->Option AV
 | .agg cs=>match oE s cs with|some l=>some (.agg l)|none=>none
 | x=>jE s x
section
variable {S0:bm} {w0 w:World} {n:Nat} {O:List Nat} {s:AS} {a:Act} {φ:Nat->Option Nat} {P:Program}
theorem kA (h:aL S0 w0 n O s a w φ) {id:Nat} {r:Row} {g:Nat} (hr:look s.H id=some r) (hp:r.pure=true) (hg:φ id=some g) :
  ∃cur te fr,w.heap[g]?=some (.cells cur te fr)∧(∀j,j<cur.size-> ¬(fr.1≤j∧j<fr.2))∧r.cells.length≤cur.size∧ ∀(j:Nat) u x,cur[j]?=some u->r.cells[j]?=some x->cz (aN S0 w φ O) w u x:=by
 have aP:=h.rows id r hr
 unfold bN at aP
 rw [hg] at aP
 obtain ⟨cur,te,fr,ja,hf,hl,-,hc⟩:=aP
 refine ⟨cur,te,fr,ja,hf,hl,fun j u x hu hx=>?_⟩
 have:=hc j u x hu hx
 unfold bg at this;rw [hp] at this
 exact this
theorem qf (b:Nat) (h:aN S0 w φ O b):b<w.heap.size∧w.heap[b]?=w.heap[b]?:=⟨h.1,rfl⟩
theorem bX {α:Type} (l:List α) (k j:Nat) (x:α) (hx:(l.take k)[j]?=some x):l[j]?=some x:=by
 rw [List.getElem?_take] at hx
 split at hx
 ·exact hx
 ·cases hx
theorem iN {S:Nat->Prop} (A:Option Addr) (l c e:Nat) (hn:0=e*l) (hc:l≤c) (hm:c≤maxLen):cz S w (.slice A l c) (.sl e []) :=
 .sl A l c e [] [] rfl hn hc hm (fun h=>by simp at h) (fun j u x hu=>by simp at hu)
theorem zr (h:aL S0 w0 n O s a w φ) {v:Value} {x y:AV} (hx:Den (az s.H φ) (aN S0 w φ O) w v x) (hv:jE s x=some y):cz (fun b=>b<w.heap.size) w v y:=by
 cases hx with
 | rep h =>
  have:=h.mono (qf (w:=w) (φ:=φ) (O:=O))
  cases h<;>simp [jE] at hv<;>subst hv<;>exact this
 | agg vs cs _ _=>simp [jE] at hv
 | bq vs cs _ _=>simp [jE] at hv
 | dead v=>simp [jE] at hv
 | ref id e m g l c hi hm hc hx hs =>
  obtain ⟨r,hr,he,mb,cm⟩:=aQ hi
  simp only [jE,hr] at hv
  cases hp:r.pure with
  | false=>rw [hp] at hv;cases hv
  | true =>
   rw [hp] at hv;injection hv with hv;subst hv
   obtain ⟨cur,te,fr,hg,hf,hl,kY⟩:=kA h hr hp cm
   exact e9 (r:=r) hg (h.cW id g cm).2 r.cells 0 ah (by rw [mb,he];exact hm) hc hx _ (fun _=>rfl) (fun j u x hu hx=>(kY j u x (by simpa using hu) hx).mono qf)
 | cD id e hi =>
  obtain ⟨r,hr,he,mb,cm⟩:=aQ hi
  simp only [jE,hr] at hv
  cases hp:r.pure with
  | false=>rw [hp] at hv;cases hv
  | true =>
   rw [hp] at hv;injection hv with hv;subst hv
   rw [List.length_eq_zero_iff.1 mb]
   exact iN _ _ _ _ (by simp) (by simp) (by simp)
 | pre id k e m g l c hi hn hm hc hx hs =>
  obtain ⟨r,hr,he,mb,cm⟩:=aQ hi
  simp only [jE,hr] at hv
  cases hp:r.pure with
  | false=>rw [hp] at hv;cases hv
  | true =>
   rw [hp] at hv;injection hv with hv;subst hv
   obtain ⟨cur,te,fr,hg,hf,hl,kY⟩:=kA h hr hp cm
   exact e9 (r:=r) hg (h.cW id g cm).2 (r.cells.take k) 0 (by rw [List.length_take];omega) (by rw [List.length_take,he,←hn];omega) hc hx _ (fun _=>rfl) (fun j u x hu hx=>(kY j u x (by simpa using hu) (bX _ _ _ _ hx)).mono qf)
 | dC id e hi =>
  obtain ⟨r,hr,he,mb,cm⟩:=aQ hi
  simp only [jE,hr] at hv
  cases hp:r.pure with
  | false=>rw [hp] at hv;cases hv
  | true =>
   rw [hp] at hv;injection hv with hv;subst hv
   simp only [List.take_zero]
   exact iN _ _ _ _ (by simp) (by simp) (by simp)
 | js id off k e m l c g A hi hn hm hc hx ha =>
  obtain ⟨r,hr,he,mb,cm⟩:=aQ hi
  simp only [jE,hr] at hv
  cases hp:r.pure with
  | false=>rw [hp] at hv;cases hv
  | true =>
   rw [hp] at hv;injection hv with hv;subst hv
   have hlen:((r.cells.drop off).take k).length=k:=by rw [List.length_take,List.length_drop];omega
   by_cases hk:0<k
   ·obtain ⟨b,hb,hA⟩:=ha hk
    rw [hb] at cm
    obtain ⟨cur,te,fr,hg,hf,hl,kY⟩:=kA h hr hp cm
    exact e9 (r:=r) hg (h.cW id b cm).2 ((r.cells.drop off).take k) off (by rw [hlen];omega) (by rw [hlen,he,←hn]) hc hx _ (fun _=>hA) (fun j u x hu hx=>(kY (off+j) u x hu (by have:=bX _ _ _ _ hx;rw [List.getElem?_drop] at this;exact this)).mono qf)
   ·rw [show (r.cells.drop off).take k= [] from List.length_eq_zero_iff.1 ah]
    exact iN _ _ _ _ (by rw [he];omega) hc hx
 | addr id off e m g hi =>
  obtain ⟨r,hr,he,mb,cm⟩:=aQ hi
  simp only [jE,hr] at hv
  cases hp:r.pure with
  | false=>rw [hp] at hv;cases hv
  | true =>
   rw [hp] at hv;injection hv with hv;subst hv
   obtain ⟨cur,te,fr,hg,hf,hl,kY⟩:=kA h hr hp cm
   exact o9 hg (h.cW id g cm).2 r.cells hl (fun j u x hu hx=>(kY j u x hu hx).mono qf)
theorem zp (h:aL S0 w0 n O s a w φ):∀(cs l:List AV) (vs:List Value),oE s cs=some l->vs.length=cs.length->(∀(j:Nat) v c,vs[j]?=some v->cs[j]?=some c->Den (az s.H φ) (aN S0 w φ O) w v c) ->
  l.length=cs.length∧ ∀(j:Nat) v c,vs[j]?=some v->l[j]?=some c->cz (fun b=>b<w.heap.size) w v c
 | [],l,vs,hv,hl,hd=>by simp [oE] at hv;subst hv;exact ⟨rfl,fun j v c _ hc=>by simp at hc⟩
 | x::cs,l,[],hv,hl,hd=>by simp at hl
 | x::cs,l,v0::vs,hv,hl,hd=>by
  simp only [oE] at hv
  cases h1:jE s x with
  | none=>rw [h1] at hv;cases hv
  | some y =>
   cases h2:oE s cs with
   | none=>rw [h1,h2] at hv;cases hv
   | some m =>
    rw [h1,h2] at hv;injection hv with hv;subst hv
    obtain ⟨e1,e2⟩:=zp h cs m vs h2 (by simpa using hl) fun j v c hv hc=>hd (j+1) v c (by simpa using hv) (by simpa using hc)
    refine ⟨by simp [e1],fun j v c hv hc=>?_⟩
    cases j with
    | zero=>simp at hv hc;subst hv;subst hc;exact zr h (hd 0 _ _ rfl rfl) h1
    | succ j=>exact e2 j v c (by simpa using hv) (by simpa using hc)
theorem xb (h:aL S0 w0 n O s a w φ) {v:Value} {x y:AV} (hx:Den (az s.H φ) (aN S0 w φ O) w v x) (hv:view s x=some y):cz (fun b=>b<w.heap.size) w v y:=by
 by_cases hc:∃cs,x= .agg cs
 ·obtain ⟨cs,rfl⟩:=hc
  obtain ⟨vs,rfl,hl,hd⟩:=ki hx
  simp only [view] at hv
  cases h1:oE s cs with
  | none=>rw [h1] at hv;cases hv
  | some l =>
   rw [h1] at hv;injection hv with hv;subst hv
   obtain ⟨e1,e2⟩:=zp h cs l vs h1 hl hd
   exact .agg vs l ah e2
 ·have:view s x=jE s x:=by
   cases x with
   | agg cs=>exact absurd ⟨cs,rfl⟩ hc
   | _=>rfl
  rw [this] at hv
  exact zr h hx hv
end
def ag (bs:List UInt8):List AV:=bs.map fun c=>.val (.int .u8 (bv c))
def aj (l:List UInt64):List AV:=l.map fun c=>.val (.int .u64 (wv c))
def ax (l:List Int):List AV:=l.map fun c=>.val (.int .i64 c)
theorem aC (l:List UInt8):(ag l).length=l.length:=by simp [ag]
theorem aA (l:List UInt64):(aj l).length=l.length:=by simp [aj]
theorem km (l:List Int):(ax l).length=l.length:=by simp [ax]
theorem wu {S:Nat->Prop} {w:World} {v:Value} {bs:List UInt8} (h:cz S w v (.sl 1 (ag bs))) (hS:∀b,S b->b<w.heap.size):i3 w v (sr bs):=by
 cases h with
 | sl A n c e us row hl hn hc hm ha h =>
  have FE:us=sr bs:=by
   apply List.ext_getElem?
   intro j
   cases hu:us[j]? with
   | none =>
    have:us.length≤j:=List.getElem?_eq_none_iff.1 hu
    rw [List.getElem?_eq_none (by rw [gg];rw [aC] at hl;omega)]
   | some u =>
    have hj:j<bs.length:=by have:=(List.getElem?_eq_some_iff.1 hu).1;rw [hl,aC] at this;exact this
    have hx:(ag bs)[j]?=some (.val (.int .u8 (bv bs[j]))):=by simp [ag,hj]
    have:=h j u _ hu hx
    cases this
    simp [sr,hj]
  subst FE
  rw [aC] at hn ha
  have sF:bs.length=n:=ah
  subst sF
  refine ⟨A,c,by rw [gg],by rw [gg];exact hc,hm,by rw [gg],fun h0=>?_⟩
  rw [gg] at h0
  obtain ⟨ad,e,hs,bu⟩:=ha h0
  exact ⟨ad,e,hS _ hs,bu⟩
def C8 (P:Program) (s:AS) (src dst:TypeId) (x:AV) (h:Hint):Option (AV×List Prop) :=
 match x with
 | .val u=>(match j9 P (convert src dst u) with|some z=>some (fin h (.val z,[]))|none=>none)
 | x =>
  match P.underlying src,P.underlying dst,view s x,h.av with
  | some (.slice e),some .string,some (.sl 1 row),some (.val (.string b)) =>
   (match P.underlying e with|some (.int .u8)=>some (.val (.string b),[row=ag b.data.toList])|_=>none)
  | _,_,_,_=>none
theorem Gb {P:Program} {s:AS} {o:Oper} {src dst:TypeId} {x:Operand} {h:Hint} {r:AV×List Prop} (ho:o.op= .convert src dst x) (hr:C8 P s src dst (bp s x) h=some r):dc P s o r.1 r.2:=by
 unfold C8 at hr
 split at hr
 ·rename_i u hx
  split at hr
  ·rename_i z hz
   injection hr with hr;subst hr
   apply gy
   intro hC S0 w0 n O a w φ hs
   have ex:a.eval x=u:=bL (hx ▸ hs.bp x)
   unfold execOp
   simp only [ho,ex]
   refine ⟨z,?_,.rep (.val _)⟩
   rw [Sem.run_bind,fJ w hz];rfl
  ·cases hr
 ·split at hr
  ·rename_i e row b h1 h2 h3 h4
   split at hr
   ·rename_i h5
    injection hr with hr;subst hr
    intro hC S0 w0 n O a w φ hs
    have hv:=xb hs (hs.bp x) h3
    rw [hC.1] at hv
    have cp:=vw (P:=P) (wu hv (fun _ h=>h)) src dst e h1 h5 h2
    unfold execOp
    simp only [ho]
    refine ⟨.string b,?_,.rep (.val _)⟩
    rw [Sem.run_bind,cp];rfl
   ·cases hr
  ·cases hr
def cU:Nat->Nat->Nat
 | k,1=>k
 | k,e=>k*e
theorem bw (k e:Nat):cU k e=k*e:=by
 unfold cU
 split<;>simp
def ph (P:Program) (t:TypeId) (pure:Bool) (cells:List AV) (off:Nat) (h:Hint):Option (AV×List Prop) :=
 match eh P t,P.underlying t with
 | some sz,some d =>
  (match d with
  | .struct _=>(match h.av with
   | some (.agg cs)=>some (.agg cs,[(cells.drop off).take sz=cs,cs.length=sz])
   | some _=>none
   | none=>(match Nat.beq ((cells.drop off).take sz).length sz with|true=>some (.agg ((cells.drop off).take sz),[])|false=>none))
  | .array _ _=>(match h.av,pure with
   | some (.arr cs),true=>some (.arr cs,[(cells.drop off).take sz=cs,cs.length=sz])
   | some (.agg cs),_=>some (.agg cs,[(cells.drop off).take sz=cs,cs.length=sz])
   | _,_=>none)
  | _=>(match h.av with
   | some y=>some (y,[cells[off]?=some y])
   | none=>(match cells[off]? with|some y=>some (y,[])|none=>none)))
 | _,_=>none
section
variable {P:Program} {w:World} {I:Info} {S:Nat->Prop}
theorem sy {t:TypeId} {p:Addr} {vs:List Value} {d:TypeDesc} (hd:P.underlying t=some d) (ha:cF P t=true) (hs:eh P t=some vs.length) (h:∀(j:Nat) v,vs[j]?=some v->w.cell? (p.add j)=some v) :
  (loadVar t p).run P w= .ok (.agg vs.toArray) w:=by
 unfold loadVar
 rw [Sem.run_bind,iw ⟨d,hd⟩]
 simp only [Result.andThen_ok,ha,if_true]
 rw [Sem.run_bind,run_sizeOf hs]
 simp only [Result.andThen_ok]
 rw [Sem.run_bind,run_loadCells_list w p vs h]
 rfl
theorem sx {t:TypeId} {p:Addr} {v:Value} {d:TypeDesc} (hd:P.underlying t=some d) (ha:cF P t=false) (h:w.cell? p=some v) :
  (loadVar t p).run P w= .ok v w:=by
 unfold loadVar
 rw [Sem.run_bind,iw ⟨d,hd⟩]
 simp [ha,h]
theorem bT {α:Type} (l:List α) (off k j:Nat) (x:α) (hx:((l.drop off).take k)[j]?=some x):l[off+j]?=some x:=by
 have:=bX _ _ _ _ hx
 rw [List.getElem?_drop] at this;exact this
theorem dA (p:Addr):p.add 0=p:=by simp [Addr.add]
theorem ru {t:TypeId} {pure:Bool} {cells:List AV} {off:Nat} {h:Hint} {r:AV×List Prop} (hr:ph P t pure cells off h=some r) (hC:bx r.2) (p:Addr) (us:List Value) (hl:cells.length≤us.length)
  (bu:∀(j:Nat) u,us[off+j]?=some u->w.cell? (p.add j)=some u) (hd:∀(j:Nat) u x,us[j]?=some u->cells[j]?=some x->bg I S w pure u x) :
  ∃v,(loadVar t p).run P w= .ok v w∧Den I S w v r.1:=by
 have den:∀(j:Nat) u x,us[j]?=some u->cells[j]?=some x->Den I S w u x:=by
  intro j u x hu hx
  have:=hd j u x hu hx
  unfold bg at this
  cases pure with
  | true=>exact .rep this
  | false=>exact this
 unfold ph at hr
 split at hr
 ·rename_i sz d dw hu
  have agg:∀(cs:List AV),cF P t=true->(cells.drop off).take sz=cs->cs.length=sz-> ∃vs:List Value,vs=(us.drop off).take sz∧(loadVar t p).run P w= .ok (.agg vs.toArray) w∧vs.length=cs.length∧(∀(j:Nat) v c,vs[j]?=some v->cs[j]?=some c->us[off+j]?=some v∧cells[off+j]?=some c):=by
   intro cs ha he hlen
   have FJ:cs.length=min sz (cells.length-off):=by rw [←he,List.length_take,List.length_drop]
   have Ot:((us.drop off).take sz).length=sz:=by rw [List.length_take,List.length_drop];omega
   refine ⟨_,rfl,sy hu ha (by rw [Ot];exact dw) (fun j v hv=>bu j v (bT _ _ _ _ _ hv)),ah,fun j v c hv hc=>⟨bT _ _ _ _ _ hv,?_⟩⟩
   rw [←he] at hc;exact bT _ _ _ _ _ hc
  have one:∀y,cF P t=false->cells[off]?=some y-> ∃v,(loadVar t p).run P w= .ok v w∧Den I S w v y:=by
   intro y ha hy
   have dh:off<us.length:=by have:=(List.getElem?_eq_some_iff.1 hy).1;omega
   have hv:us[off]?=some us[off]:=List.getElem?_eq_getElem dh
   refine ⟨us[off],sx hu ha ?_,den off _ y hv hy⟩
   have:=bu 0 us[off] (by simp)
   rw [dA] at this;exact this
  split at hr
  ·have ha:cF P t=true:=by unfold cF;rw [hu]
   split at hr
   ·rename_i cs _
    injection hr with hr;subst hr
    obtain ⟨vs,-,h1,h2,h3⟩:=agg cs ha hC.1 hC.2.1
    exact ⟨_,h1,.agg vs cs h2 fun j v c hv hc=>den _ _ _ (h3 j v c hv hc).1 (h3 j v c hv hc).2⟩
   ·cases hr
   ·split at hr
    ·rename_i hb
     injection hr with hr;subst hr
     obtain ⟨vs,-,h1,h2,h3⟩:=agg _ ha rfl (Nat.eq_of_beq_eq_true hb)
     exact ⟨_,h1,.agg vs _ h2 fun j v c hv hc=>den _ _ _ (h3 j v c hv hc).1 (h3 j v c hv hc).2⟩
    ·cases hr
  ·have ha:cF P t=true:=by unfold cF;rw [hu]
   split at hr
   ·rename_i cs _
    injection hr with hr;subst hr
    obtain ⟨vs,-,h1,h2,h3⟩:=agg cs ha hC.1 hC.2.1
    exact ⟨_,h1,.rep (.arr vs cs h2 fun j v c hv hc=>by have:=hd _ _ _ (h3 j v c hv hc).1 (h3 j v c hv hc).2;exact this)⟩
   ·rename_i cs _
    injection hr with hr;subst hr
    obtain ⟨vs,-,h1,h2,h3⟩:=agg cs ha hC.1 hC.2.1
    exact ⟨_,h1,.agg vs cs h2 fun j v c hv hc=>den _ _ _ (h3 j v c hv hc).1 (h3 j v c hv hc).2⟩
   ·cases hr
  ·rename_i Oq RT
   have ha:cF P t=false:=by
    unfold cF;rw [hu]
    cases d<;>first|rfl|exact absurd rfl (Oq _)|exact absurd rfl (RT _ _)
   split at hr
   ·injection hr with hr;subst hr
    exact one _ ha hC.1
   ·split at hr
    ·rename_i y hy
     injection hr with hr;subst hr
     exact one _ ha hy
    ·cases hr
 ·cases hr
end
def CT (P:Program) (s:AS) (t:TypeId) (x:AV) (h:Hint):Option (AV×List Prop) :=
 match x with
 | .ptr row off=>ph P t true row off h
 | .addr id off=>(match look s.H id with|some r=>ph P t r.pure r.cells off h|none=>none)
 | _=>none
section
variable {P:Program} {s:AS} {o:Oper} {h:Hint} {r:AV×List Prop}
theorem td {I:Info} {S:Nat->Prop} {w:World} {v:Value} {row:List AV} {off:Nat} (h:Den I S w v (.ptr row off)):∃(ad:Addr) (us:List Value),v= .pointer (some (ad.add off))∧us.length=row.length∧S ad.block∧(∀(j:Nat) u,us[j]?=some u->w.cell? (ad.add j)=some u)∧ ∀(j:Nat) u x,us[j]?=some u->row[j]?=some x->cz S w u x:=by
 cases h with|rep h=>cases h with|ptr ad us _ _ hl hs ha h=>exact ⟨ad,us,rfl,hl,hs,ha,h⟩
theorem jO {I:Info} {S:Nat->Prop} {w:World} {v:Value} {id off:Nat} (h:Den I S w v (.addr id off)):∃e m g,I id=some (e,m,some g)∧v= .pointer (some ⟨g,off,none⟩):=by
 cases h with
 | rep h=>cases h
 | addr id off e m g hi=>exact ⟨e,m,g,hi,rfl⟩
theorem l_ (g o j:Nat):(⟨g,o,none⟩:Addr).add j=⟨g,o+j,none⟩:=by unfold Addr.add;split<;>simp_all
theorem F7 {t:TypeId} {x:Operand} (ho:o.op= .load t x) (hr:CT P s t (bp s x) h=some r):dc P s o r.1 r.2:=by
 intro hC S0 w0 n O a w φ hs
 have hx:=hs.bp x
 unfold execOp
 simp only [ho]
 unfold CT at hr
 split at hr
 ·rename_i row off he
  rw [he] at hx
  obtain ⟨ad,us,hv,hl,hS,bu,bZ⟩:=td hx
  obtain ⟨v,h1,h2⟩:=ru (I:=az s.H φ) (S:=aN S0 w φ O) hr hC (ad.add off) us ah (fun j u hu=>by rw [mM];exact bu _ u hu) (fun j u x hu hx=>by show cz _ _ _ _;exact bZ j u x hu hx)
  refine ⟨v,?_,h2⟩
  simp only [Instr.loadAt,hv,Instr.sureAddr,Sem.run_bind,Sem.run_pure,Result.andThen_ok,h1]
 ·rename_i id off he
  rw [he] at hx
  obtain ⟨e,m,g,hi,hv⟩:=jO hx
  obtain ⟨q,hq,-,-,cm⟩:=aQ hi
  rw [hq] at hr
  have aP:=hs.rows id q hq
  unfold bN at aP
  rw [cm] at aP
  obtain ⟨cur,te,fr,hg,hf,hl,-,hc⟩:=aP
  obtain ⟨v,h1,h2⟩:=ru (I:=az s.H φ) (S:=aN S0 w φ O) hr hC ⟨g,off,none⟩ cur.toList hl (fun j u hu=>by rw [l_,cell_of_row w g _ cur te fr hg];simpa using hu) (fun j u x hu hx=>hc j u x (by simpa using hu) hx)
  refine ⟨v,?_,h2⟩
  simp only [Instr.loadAt,hv,Instr.sureAddr,Sem.run_bind,Sem.run_pure,Result.andThen_ok,h1]
 ·cases hr
def nM (P:Program) (t:TypeId) (x:AV) (f:Nat):Option (AV×List Prop) :=
 match P.underlying t with
 | some (.struct fields) =>
  (match fields[f]? with
  | some fd=>(match eh P fd.type with
   | some (_+1)=>(match x with
    | .ptr row off=>some (.ptr row (off+fd.offset),[])
    | .addr id off=>some (.addr id (off+fd.offset),[])
    | _=>none)
   | _=>none)
  | none=>none)
 | _=>none
theorem u7 {t:TypeId} {x:Operand} {f:Nat} (ho:o.op= .fieldAddr t x f) (hr:nM P t (bp s x) f=some r):dc P s o r.1 r.2:=by
 intro hC S0 w0 n O a w φ hs
 have hx:=hs.bp x
 unfold execOp
 simp only [ho]
 unfold nM at hr
 split at hr
 ·rename_i fields hu
  split at hr
  ·rename_i fd hf
   split at hr
   ·rename_i k dw
    have hz:(sizeOf fd.type).run P w= .ok (k+1) w:=run_sizeOf dw
    split at hr
    ·rename_i row off he
     injection hr with hr;subst hr
     rw [he] at hx
     obtain ⟨ad,us,hv,hl,hS,bu,bZ⟩:=td hx
     refine ⟨.pointer (some (ad.add (off+fd.offset))),?_,.rep (.ptr ad us row _ hl hS bu bZ)⟩
     simp [Instr.fieldAt,run_underlying hu,hf,hv,Instr.sureAddr,fieldPlace,hz,mM]
    ·rename_i id off he
     injection hr with hr;subst hr
     rw [he] at hx
     obtain ⟨e,m,g,hi,hv⟩:=jO hx
     refine ⟨.pointer (some ⟨g,off+fd.offset,none⟩),?_,.addr id _ e m g hi⟩
     simp [Instr.fieldAt,run_underlying hu,hf,hv,Instr.sureAddr,fieldPlace,hz,l_]
    ·cases hr
   ·cases hr
  ·cases hr
 ·cases hr
def I8 (P:Program) (s:AS) (t:TypeId) (x:AV) (n:Int) (h:Hint):Option (AV×List Prop) :=
 match P.underlying t with
 | some (.slice el) =>
  (match eh P el with
  | some (z+1)=>(match x with
   | .sl e row=>(match Nat.beq e (z+1) with|true=>some (.ptr row (cU h.k (z+1)),[n=(h.k:Int),cU h.k (z+1)<row.length])|false=>none)
   | .ref id=>(match look s.H id with|some q=>(match Nat.beq q.e (z+1) with|true=>some (.addr id (cU h.k (z+1)),[n=(h.k:Int),cU h.k (z+1)<q.cells.length])|false=>none)|none=>none)
   | .pre id l=>(match look s.H id with|some q=>(match Nat.beq q.e (z+1) with|true=>some (.addr id (cU h.k (z+1)),[n=(h.k:Int),cU h.k (z+1)<l])|false=>none)|none=>none)
   | .js id off l=>(match look s.H id with|some q=>(match Nat.beq q.e (z+1) with|true=>some (.addr id (cU h.k (z+1)+off),[n=(h.k:Int),cU h.k (z+1)<l])|false=>none)|none=>none)
   | _=>none)
  | _=>none)
 | some (.array len el) =>
  (match eh P el with
  | some (z+1)=>(match x with
   | .ptr row off=>some (.ptr row (cU h.k (z+1)+off),[n=(h.k:Int),h.k<len])
   | .addr id off=>some (.addr id (cU h.k (z+1)+off),[n=(h.k:Int),h.k<len])
   | _=>none)
  | _=>none)
 | _=>none
theorem pn {I:Info} {S:Nat->Prop} {w:World} {v:Value} {e:Nat} {row:List AV} (h:Den I S w v (.sl e row)):cz S w v (.sl e row):=by
 cases h with|rep h=>exact h
theorem nY {k z l e m:Nat} (h:cU k (z+1)<m) (hm:m=e*l) (he:e=z+1):k<l:=by
 rw [bw,hm,he,Nat.mul_comm] at h
 exact Nat.lt_of_mul_lt_mul_left h
theorem I7 {t:TypeId} {x i:Operand} {k:IntKind} {n:Int} (ho:o.op= .indexAddr t x i) (hi:bp s i= .val (.int k n)) (hr:I8 P s t (bp s x) n h=some r):dc P s o r.1 r.2:=by
 intro hC S0 w0 n' O a w φ hs
 have hx:=hs.bp x
 have ei:a.eval i= .int k n:=bL (hi ▸ hs.bp i)
 unfold execOp
 simp only [ho,ei]
 unfold I8 at hr
 split at hr
 ·rename_i el hu
  split at hr
  ·rename_i z dw
   have hz:(sizeOf el).run P w= .ok (z+1) w:=run_sizeOf dw
   split at hr
   ·rename_i e row he
    rw [he] at hx
    split at hr
    ·rename_i hb
     have kL:e=z+1:=Nat.eq_of_beq_eq_true hb
     injection hr with hr;subst hr
     obtain ⟨hn,dh,-⟩:=hC
     have bZ:=pn hx
     cases ji:a.eval x with
     | slice A l c =>
      rw [ji] at bZ
      cases bZ with
      | sl _ _ _ _ us _ hl sF hc hm ha bZ =>
       have iG:h.k<l:=nY dh sF kL
       obtain ⟨ad,rfl,hS,bu⟩:=ha ah
       refine ⟨.pointer (some (ad.add (cU h.k (z+1)))),?_,.rep (.ptr ad us row _ hl hS bu bZ)⟩
       have m9:0≤n∧n<(l:Int):=ah
       have hk:n.toNat=h.k:=ah
       simp [Instr.indexAt,run_underlying hu,asIntOf,m9,hz,hk,bw]
     | _=>rw [ji] at bZ;cases bZ
    ·cases hr
   ·rename_i id he
    rw [he] at hx
    split at hr
    ·rename_i q hq
     split at hr
     ·rename_i hb
      have kL:q.e=z+1:=Nat.eq_of_beq_eq_true hb
      injection hr with hr;subst hr
      obtain ⟨hn,dh,-⟩:=hC
      generalize a.eval x=V at hx
      cases hx with
      | rep h=>cases h
      | ref _ e m g l c hi hm hc hx bY =>
       rw [br hq] at hi
       injection hi with hi;injection hi with h1 hi;injection hi with h2 h3
       have iG:h.k<l:=nY dh (by rw [h2];exact hm) (by rw [←h1];exact kL)
       refine ⟨.pointer (some ⟨g,cU h.k (z+1),none⟩),?_,.addr id _ q.e q.cells.length g (by rw [br hq,h3])⟩
       have m9:0≤n∧n<(l:Int):=ah
       have hk:n.toNat=h.k:=ah
       simp [Instr.indexAt,run_underlying hu,asIntOf,m9,hz,hk,bw,fa]
      | cD _ e hi =>
       rw [br hq] at hi
       injection hi with hi;injection hi with h1 hi;injection hi with h2 h3
       omega
     ·cases hr
    ·cases hr
   ·rename_i id l' he
    rw [he] at hx
    split at hr
    ·rename_i q hq
     split at hr
     ·rename_i hb
      have kL:q.e=z+1:=Nat.eq_of_beq_eq_true hb
      injection hr with hr;subst hr
      obtain ⟨hn,dh,-⟩:=hC
      generalize a.eval x=V at hx
      cases hx with
      | rep h=>cases h
      | pre _ _ e m g l c hi sF hm hc hx bY =>
       rw [br hq] at hi
       injection hi with hi;injection hi with h1 hi;injection hi with h2 h3
       have iG:h.k<l:=nY dh sF (by rw [←h1];exact kL)
       refine ⟨.pointer (some ⟨g,cU h.k (z+1),none⟩),?_,.addr id _ q.e q.cells.length g (by rw [br hq,h3])⟩
       have m9:0≤n∧n<(l:Int):=ah
       have hk:n.toNat=h.k:=ah
       simp [Instr.indexAt,run_underlying hu,asIntOf,m9,hz,hk,bw,fa]
      | dC _ e hi=>omega
     ·cases hr
    ·cases hr
   ·rename_i id off l' he
    rw [he] at hx
    split at hr
    ·rename_i q hq
     split at hr
     ·rename_i hb
      have kL:q.e=z+1:=Nat.eq_of_beq_eq_true hb
      injection hr with hr;subst hr
      obtain ⟨hn,dh,-⟩:=hC
      generalize a.eval x=V at hx
      cases hx with
      | rep h=>cases h
      | js _ _ _ e m l c g A hi sF hm hc hx ha =>
       rw [br hq] at hi
       injection hi with hi;injection hi with h1 hi;injection hi with h2 h3
       have iG:h.k<l:=nY dh sF (by rw [←h1];exact kL)
       obtain ⟨b,J4,rfl⟩:=ha ah
       refine ⟨.pointer (some ⟨b,cU h.k (z+1)+off,none⟩),?_,.addr id _ q.e q.cells.length b (by rw [br hq,h3,J4])⟩
       have m9:0≤n∧n<(l:Int):=ah
       have hk:n.toNat=h.k:=ah
       simp [Instr.indexAt,run_underlying hu,asIntOf,m9,hz,hk,bw,l_,Nat.add_comm]
     ·cases hr
    ·cases hr
   ·cases hr
  ·cases hr
 ·rename_i len el hu
  split at hr
  ·rename_i z dw
   have hz:(sizeOf el).run P w= .ok (z+1) w:=run_sizeOf dw
   split at hr
   ·rename_i row off he
    rw [he] at hx
    injection hr with hr;subst hr
    obtain ⟨hn,dh,-⟩:=hC
    obtain ⟨ad,us,hv,hl,hS,bu,bZ⟩:=td hx
    refine ⟨.pointer (some (ad.add (cU h.k (z+1)+off))),?_,.rep (.ptr ad us row _ hl hS bu bZ)⟩
    have m9:0≤n∧n<(len:Int):=ah
    have hk:n.toNat=h.k:=ah
    simp [Instr.indexAt,run_underlying hu,asIntOf,m9,hz,hk,hv,Instr.sureAddr,bw,mM,Nat.add_comm]
   ·rename_i id off he
    rw [he] at hx
    injection hr with hr;subst hr
    obtain ⟨hn,dh,-⟩:=hC
    obtain ⟨e,m,g,hi,hv⟩:=jO hx
    refine ⟨.pointer (some ⟨g,cU h.k (z+1)+off,none⟩),?_,.addr id _ e m g hi⟩
    have m9:0≤n∧n<(len:Int):=ah
    have hk:n.toNat=h.k:=ah
    simp [Instr.indexAt,run_underlying hu,asIntOf,m9,hz,hk,hv,Instr.sureAddr,bw,l_,Nat.add_comm]
   ·cases hr
  ·cases hr
 ·cases hr
end
section
variable {P:Program} {s:AS} {o:Oper} {h:Hint} {r:AV×List Prop}
inductive Cut where
 | all|to (n:Int)|from_ (n:Int)|both (n m:Int)
def uy:AV->Option Int
 | .val (.int _ n)=>some n
 | _=>none
def vf (s:AS) (lo hi mx:Option Operand):Option Cut :=
 match lo,hi,mx with
 | none,none,none=>some .all
 | none,some y,none=>(match uy (bp s y) with|some m=>some (.to m)|none=>none)
 | some x,none,none=>(match uy (bp s x) with|some n=>some (.from_ n)|none=>none)
 | some x,some y,none=>(match uy (bp s x),uy (bp s y) with|some n,some m=>some (.both n m)|_,_=>none)
 | _,_,_=>none
def yi (P:Program) (s:AS) (t:TypeId) (x:AV) (c:Cut) (h:Hint):Option (AV×List Prop) :=
 match P.underlying t with
 | some .string =>
  (match x,c with
  | .val (.string b),.all=>some (.val (.string b),[])
  | .val (.string b),.to n=>some (fin h (.val (.string (b.extract 0 h.m)),[n=(h.m:Int),h.m≤b.size]))
  | .val (.string b),.from_ n=>some (fin h (.val (.string (b.extract h.k b.size)),[n=(h.k:Int),h.k≤b.size]))
  | .val (.string b),.both n n'=>some (fin h (.val (.string (b.extract h.k h.m)),[n=(h.k:Int),n'=(h.m:Int),h.k≤h.m,h.m≤b.size]))
  | _,_=>none)
 | some (.slice el) =>
  (match eh P el with
  | some (z+1)=>(match x,c with
   | .sl e row,.all=>some (fin h (.sl e row,[]))
   | .sl e row,.to n=>(match Nat.beq e (z+1) with|true=>some (fin h (.sl e (row.take (cU h.m e)),[n=(h.m:Int),cU h.m e≤row.length]))|false=>none)
   | .sl e row,.from_ n=>(match Nat.beq e (z+1) with|true=>some (fin h (.sl e (row.drop (cU h.k e)),[n=(h.k:Int),cU h.k e≤row.length]))|false=>none)
   | .sl e row,.both n n'=>(match Nat.beq e (z+1) with|true=>some (fin h (.sl e ((row.drop (cU h.k e)).take (cU (h.m-h.k) e)),[n=(h.k:Int),n'=(h.m:Int),h.k≤h.m,cU h.m e≤row.length]))|false=>none)
   | .ref id,.all=>some (.ref id,[])
   | .ref id,.to n=>(match look s.H id with|some q=>(match Nat.beq q.e (z+1) with|true=>some (.pre id (cU h.m q.e),[n=(h.m:Int),cU h.m q.e≤q.cells.length])|false=>none)|none=>none)
   | .ref id,.from_ n=>(match look s.H id with|some q=>(match Nat.beq q.e (z+1) with|true=>some (.js id (cU h.k q.e) (q.cells.length-cU h.k q.e),[n=(h.k:Int),cU h.k q.e≤q.cells.length])|false=>none)|none=>none)
   | .ref id,.both n n'=>(match look s.H id with|some q=>(match Nat.beq q.e (z+1) with|true=>some (.js id (cU h.k q.e) (cU (h.m-h.k) q.e),[n=(h.k:Int),n'=(h.m:Int),h.k≤h.m,cU h.m q.e≤q.cells.length])|false=>none)|none=>none)
   | .pre id l,.all=>some (.pre id l,[])
   | .pre id l,.to n=>(match look s.H id with|some q=>(match Nat.beq q.e (z+1) with|true=>some (.pre id (cU h.m q.e),[n=(h.m:Int),cU h.m q.e≤l])|false=>none)|none=>none)
   | _,_=>none)
  | _=>none)
 | some (.array len el) =>
  (match eh P el with
  | some (z+1)=>(match x,c with
   | .addr id 0,.all=>(match look s.H id with|some q=>(match Nat.beq q.e (z+1),q.full with|true,true=>some (.ref id,[q.cells.length=cU len q.e,len≤maxLen])|_,_=>none)|none=>none)
   | .addr id 0,.to n=>(match look s.H id with|some q=>(match Nat.beq q.e (z+1),q.full with|true,true=>some (.pre id (cU h.m q.e),[n=(h.m:Int),h.m≤len,q.cells.length=cU len q.e,len≤maxLen])|_,_=>none)|none=>none)
   | .addr id 0,.from_ n=>(match look s.H id with|some q=>(match Nat.beq q.e (z+1),q.full with|true,true=>some (.js id (cU h.k q.e) (cU (len-h.k) q.e),[n=(h.k:Int),h.k≤len,q.cells.length=cU len q.e,len≤maxLen])|_,_=>none)|none=>none)
   | .addr id 0,.both n n'=>(match look s.H id with|some q=>(match Nat.beq q.e (z+1),q.full with|true,true=>some (.js id (cU h.k q.e) (cU (h.m-h.k) q.e),[n=(h.k:Int),n'=(h.m:Int),h.k≤h.m,h.m≤len,q.cells.length=cU len q.e,len≤maxLen])|_,_=>none)|none=>none)
   | _,_=>none)
  | _=>none)
 | _=>none
def Bounds (c:Cut) (len cap:Nat) (l hi:Nat):Prop :=
 match c with
 | .all=>l=0∧hi=len
 | .to n=>l=0∧n=(hi:Int)∧hi≤cap
 | .from_ n=>n=(l:Int)∧l≤len∧hi=len
 | .both n n'=>n=(l:Int)∧n'=(hi:Int)∧l≤hi∧hi≤cap
theorem Cr {x:AV} {n:Int} (h:uy x=some n):∃k,x= .val (.int k n):=by
 unfold uy at h
 split at h
 ·injection h with h;subst h;exact ⟨_,rfl⟩
 ·cases h
theorem run_sliceBound {w:World} {k:IntKind} {n:Int} {y l:Nat} {code:BoundsCode} (h1:n=(l:Int)) (h2:l≤y):(Instr.sliceBound (.int k n) y code).run P w= .ok l w:=by
 have:0≤n∧n≤(y:Int):=ah
 have e:n.toNat=l:=ah
 simp [Instr.sliceBound,asIntOf,this,e]
theorem oW {S0:bm} {w0 w:World} {n:Nat} {O:List Nat} {a:Act} {φ:Nat->Option Nat} (hs:aL S0 w0 n O s a w φ) {lo hi mx:Option Operand} {c:Cut} (hc:vf s lo hi mx=some c) (Rn:Bool) {len cap l m:Nat} (hb:Bounds c len cap l m) (hle:len≤cap) :
  mx=none∧(Instr.sliceBounds Rn len cap (lo.map a.eval) (hi.map a.eval) none).run P w= .ok (l,m,cap) w:=by
 have ev:∀x z,uy (bp s x)=some z-> ∃k,a.eval x= .int k z:=fun x z hx=>by
  obtain ⟨k,e⟩:=Cr hx
  exact ⟨k,bL (e ▸ hs.bp x)⟩
 unfold vf at hc
 split at hc
 ·injection hc with hc;subst hc
  obtain ⟨rfl,rfl⟩:=hb
  exact ⟨rfl,by simp [Instr.sliceBounds]⟩
 ·split at hc
  ·rename_i z hz
   injection hc with hc;subst hc
   obtain ⟨rfl,h1,h2⟩:=hb
   obtain ⟨k,e⟩:=ev _ _ hz
   exact ⟨rfl,by simp [Instr.sliceBounds,e,run_sliceBound h1 h2]⟩
  ·cases hc
 ·split at hc
  ·rename_i z hz
   injection hc with hc;subst hc
   obtain ⟨h1,h2,rfl⟩:=hb
   obtain ⟨k,e⟩:=ev _ _ hz
   exact ⟨rfl,by simp [Instr.sliceBounds,e,run_sliceBound h1 h2]⟩
  ·cases hc
 ·split at hc
  ·rename_i z z' hz AH
   injection hc with hc;subst hc
   obtain ⟨h1,IG,h2,h3⟩:=hb
   obtain ⟨k,e⟩:=ev _ _ hz
   obtain ⟨k',e'⟩:=ev _ _ AH
   exact ⟨rfl,by simp [Instr.sliceBounds,e,e',run_sliceBound IG h3,run_sliceBound h1 h2]⟩
  ·cases hc
 ·cases hc
theorem bW {S0:bm} {w0 w:World} {n:Nat} {O:List Nat} {a:Act} {φ:Nat->Option Nat} (hs:aL S0 w0 n O s a w φ) {t el:TypeId} {x:Operand} {lo hi mx:Option Operand} {c:Cut} (ho:o.op= .slice t x lo hi mx) (hc:vf s lo hi mx=some c) (hu:P.underlying t=some (.slice el)) {z:Nat} (hz:eh P el=some z)
  {A:Option Addr} {len cap l m:Nat} (hx:a.eval x= .slice A len cap) (hb:Bounds c len cap l m) (hle:len≤cap) :
  (execOp a.eval o).run P w= .ok (.value (.slice (if cap=l then A else A.map (·.add (l*z))) (m-l) (cap-l))) w:=by
 obtain ⟨rfl,hr⟩:=oW (P:=P) hs hc true hb hle
 unfold execOp
 simp only [ho,hx]
 have AH:(sizeOf el).run P w= .ok z w:=run_sizeOf hz
 simp [Instr.sliceAt,Instr.slice,run_underlying hu,hr,AH]
theorem ju {S0:bm} {w0 w:World} {n:Nat} {O:List Nat} {a:Act} {φ:Nat->Option Nat} (hs:aL S0 w0 n O s a w φ) {t el:TypeId} {x:Operand} {lo hi mx:Option Operand} {c:Cut} (ho:o.op= .slice t x lo hi mx) (hc:vf s lo hi mx=some c) {len:Nat} (hu:P.underlying t=some (.array len el)) {z:Nat} (hz:eh P el=some z)
  {p:Addr} {l m:Nat} (hx:a.eval x= .pointer (some p)) (hb:Bounds c len len l m) :
  (execOp a.eval o).run P w= .ok (.value (.slice (some (if len=l then p else p.add (l*z))) (m-l) (len-l))) w:=by
 obtain ⟨rfl,hr⟩:=oW (P:=P) hs hc false hb (Nat.le_refl _)
 unfold execOp
 simp only [ho,hx]
 have AH:(sizeOf el).run P w= .ok z w:=run_sizeOf hz
 simp [Instr.sliceAt,Instr.sureAddr,run_underlying hu,hr,AH]
theorem jt {S0:bm} {w0 w:World} {n:Nat} {O:List Nat} {a:Act} {φ:Nat->Option Nat} (hs:aL S0 w0 n O s a w φ) {t:TypeId} {x:Operand} {lo hi mx:Option Operand} {c:Cut} (ho:o.op= .slice t x lo hi mx) (hc:vf s lo hi mx=some c) (hu:P.underlying t=some .string)
  {b:ByteArray} {l m:Nat} (hx:a.eval x= .string b) (hb:Bounds c b.size b.size l m) :
  (execOp a.eval o).run P w= .ok (.value (.string (b.extract l m))) w:=by
 obtain ⟨rfl,hr⟩:=oW (P:=P) hs hc false hb (Nat.le_refl _)
 unfold execOp
 simp only [ho,hx]
 simp [Instr.sliceAt,Instr.slice,run_underlying hu,hr]
theorem z6 {S:Nat->Prop} {w:World} {A:Option Addr} {len cap e z:Nat} {row:List AV} (bZ:cz S w (.slice A len cap) (.sl e row)) (he:e=z+1) (l m:Nat) (TD:l≤m) (hm:m≤len) :
  cz S w (.slice (if cap=l then A else A.map (·.add (l*(z+1)))) (m-l) (cap-l)) (.sl e ((row.drop (l*e)).take ((m-l)*e))):=by
 cases bZ with
 | sl _ _ _ _ us _ hl hn hc hx ha h =>
  have hle:(m-l)*e≤row.length-l*e:=by
   rw [hn,Nat.sub_mul,Nat.mul_comm e len]
   have:=Nat.mul_le_mul_right e hm
   omega
  have hlen:((row.drop (l*e)).take ((m-l)*e)).length=(m-l)*e:=by rw [List.length_take,List.length_drop];omega
  refine .sl _ _ _ _ ((us.drop (l*e)).take ((m-l)*e)) _ (by rw [hlen,List.length_take,List.length_drop];omega) (by rw [hlen,Nat.mul_comm]) ah ah (fun h0=>?_) (fun j u x hu hx=>h (l*e+j) u x (bT _ _ _ _ _ hu) (bT _ _ _ _ _ hx))
  rw [hlen] at h0
  have cV:cap≠l:=by
   intro e'
   have:m-l=0:=ah
   rw [this,Nat.zero_mul] at h0;omega
  have Gy:0<row.length:=ah
  obtain ⟨ad,rfl,hS,bu⟩:=ha Gy
  rw [if_neg cV]
  refine ⟨ad.add (l*(z+1)),rfl,by rw [gJ];exact hS,fun j u hu=>?_⟩
  rw [mM,←he]
  exact bu _ u (bT _ _ _ _ _ hu)
theorem mr {m len e q:Nat} (h:cU m e≤q) (hq:q=e*len) (he:0<e):m≤len:=by
 rw [bw,hq,Nat.mul_comm] at h
 exact Nat.le_of_mul_le_mul_left h he
theorem sR {m z:Nat} (h:m*(z+1)≤0):m=0:=by
 rcases Nat.eq_zero_or_pos m with h5|h5
 ·exact h5
 ·have:=Nat.mul_pos h5 (ah:0<z+1);omega
theorem CP {t:TypeId} {x:Operand} {lo hi mx:Option Operand} {c:Cut} (ho:o.op= .slice t x lo hi mx) (hc:vf s lo hi mx=some c) (hr:yi P s t (bp s x) c h=some r):dc P s o r.1 r.2:=by
 unfold yi at hr
 split at hr
 ·rename_i hu
  split at hr
  ·rename_i b he
   injection hr with hr;subst hr
   intro hC S0 w0 n O a w φ hs
   have ex:a.eval x= .string b:=bL (he ▸ hs.bp x)
   refine ⟨_,jt hs ho hc hu ex ⟨rfl,rfl⟩,?_⟩
   have:b.extract 0 b.size=b:=by simp
   rw [this];exact .rep (.val _)
  ·rename_i b n he
   injection hr with hr;subst hr
   refine gy ?_
   intro hC S0 w0 n' O a w φ hs
   have ex:a.eval x= .string b:=bL (he ▸ hs.bp x)
   exact ⟨_,jt hs ho hc hu ex ⟨rfl,hC.1,hC.2.1⟩,.rep (.val _)⟩
  ·rename_i b n he
   injection hr with hr;subst hr
   refine gy ?_
   intro hC S0 w0 n' O a w φ hs
   have ex:a.eval x= .string b:=bL (he ▸ hs.bp x)
   exact ⟨_,jt hs ho hc hu ex ⟨hC.1,hC.2.1,rfl⟩,.rep (.val _)⟩
  ·rename_i b n n2 he
   injection hr with hr;subst hr
   refine gy ?_
   intro hC S0 w0 n' O a w φ hs
   have ex:a.eval x= .string b:=bL (he ▸ hs.bp x)
   exact ⟨_,jt hs ho hc hu ex ⟨hC.1,hC.2.1,hC.2.2.1,hC.2.2.2.1⟩,.rep (.val _)⟩
  ·cases hr
 ·rename_i el hu
  split at hr
  ·rename_i z dw
   have sl:∀(e:Nat) (row:List AV) (X:AV) (C:List Prop),bp s x= .sl e row->e=z+1->(bx C-> ∃l m,(∀len cap,row.length=e*len->len≤cap->Bounds c len cap l m∧m≤len)∧l≤m∧X= .sl e ((row.drop (l*e)).take ((m-l)*e))∨(c= .all∧X= .sl e row))->dc P s o X C:=by
    intro e row X C he uI hX hC S0 w0 n O a w φ hs
    have hx:=hs.bp x
    rw [he] at hx
    have bZ:=pn hx
    cases ji:a.eval x with
    | slice A len cap =>
     rw [ji] at bZ
     have AM:=bZ
     cases AM with
     | sl _ _ _ _ us _ hl hn kY JZ ha h' =>
      obtain ⟨l,m,h1⟩:=hX hC
      rcases h1 with ⟨hb,TD,rfl⟩|⟨rfl,rfl⟩
      ·obtain ⟨hb,hm⟩:=hb len cap hn kY
       exact ⟨_,bW hs ho hc hu dw ji hb kY,.rep (z6 bZ uI l m TD hm)⟩
      ·refine ⟨_,bW hs ho hc hu dw ji (l:=0) (m:=len) ⟨rfl,rfl⟩ kY,?_⟩
       have:(if cap=0 then A else A.map (·.add (0*(z+1))))=A:=by
        split
        ·rfl
        ·cases A<;>simp [dA]
       rw [this];exact .rep bZ
    | _=>rw [ji] at bZ;cases bZ
   split at hr
   ·rename_i e row he
    injection hr with hr;subst hr
    refine gy ?_
    intro hC S0 w0 n O a w φ hs
    have hx:=hs.bp x
    rw [he] at hx
    have bZ:=pn hx
    cases ji:a.eval x with
    | slice A len cap =>
     rw [ji] at bZ
     have AM:=bZ
     cases AM with
     | sl _ _ _ _ us _ hl hn kY JZ ha h' =>
      refine ⟨_,bW hs ho hc hu dw ji (l:=0) (m:=len) ⟨rfl,rfl⟩ kY,?_⟩
      have:(if cap=0 then A else A.map (·.add (0*(z+1))))=A:=by
       split
       ·rfl
       ·cases A<;>simp [dA]
      rw [this];exact .rep bZ
    | _=>rw [ji] at bZ;cases bZ
   ·rename_i e row n he
    split at hr
    ·rename_i hb
     have uI:e=z+1:=Nat.eq_of_beq_eq_true hb
     injection hr with hr;subst hr
     refine gy (sl e row _ _ he uI fun hC=>⟨0,h.m,.inl ⟨fun len cap hn Nq=>?_,Nat.zero_le _,by simp [bw]⟩⟩)
     have:=mr hC.2.1 hn ah
     exact ⟨⟨rfl,hC.1,ah⟩,this⟩
    ·cases hr
   ·rename_i e row n he
    split at hr
    ·rename_i hb
     have uI:e=z+1:=Nat.eq_of_beq_eq_true hb
     injection hr with hr;subst hr
     refine gy ?_
     intro hC S0 w0 n' O a w φ hs
     have hx:=hs.bp x
     rw [he] at hx
     have bZ:=pn hx
     cases ji:a.eval x with
     | slice A len cap =>
      rw [ji] at bZ
      have AM:=bZ
      cases AM with
      | sl _ _ _ _ us _ hl hn kY JZ ha h' =>
       have hk:=mr hC.2.1 hn ah
       refine ⟨_,bW hs ho hc hu dw ji (l:=h.k) (m:=len) ⟨hC.1,hk,rfl⟩ kY,?_⟩
       have:=z6 bZ uI h.k len hk (Nat.le_refl _)
       have e2:(row.drop (h.k*e)).take ((len-h.k)*e)=row.drop (cU h.k e):=by
        rw [bw,List.take_of_length_le]
        rw [List.length_drop,hn,Nat.sub_mul,Nat.mul_comm e len]
        exact Nat.le_refl _
       rw [e2] at this
       exact .rep this
     | _=>rw [ji] at bZ;cases bZ
    ·cases hr
   ·rename_i e row n n2 he
    split at hr
    ·rename_i hb
     have uI:e=z+1:=Nat.eq_of_beq_eq_true hb
     injection hr with hr;subst hr
     refine gy (sl e row _ _ he uI fun hC=>⟨h.k,h.m,.inl ⟨fun len cap hn Nq=>?_,hC.2.2.1,by simp [bw]⟩⟩)
     have:=mr hC.2.2.2.1 hn ah
     exact ⟨⟨hC.1,hC.2.1,hC.2.2.1,ah⟩,this⟩
    ·cases hr
   ·rename_i id he
    injection hr with hr;subst hr
    intro hC S0 w0 n O a w φ hs
    have hx:=hs.bp x
    rw [he] at hx
    generalize hV:a.eval x=V at hx
    cases hx with
    | rep h=>cases h
    | ref _ e m g l c' hi hm kY hx bY =>
     refine ⟨_,bW hs ho hc hu dw hV (l:=0) (m:=l) ⟨rfl,rfl⟩ kY,?_⟩
     have:(if c'=0 then (some ⟨g,0,none⟩:Option Addr) else (some ⟨g,0,none⟩:Option Addr).map (·.add (0*(z+1))))=some ⟨g,0,none⟩:=by simp [dA]
     rw [this]
     exact .ref id e m g l c' hi hm kY hx bY
    | cD _ e hi =>
     refine ⟨_,bW hs ho hc hu dw hV (l:=0) (m:=0) ⟨rfl,rfl⟩ (Nat.le_refl _),?_⟩
     simp only [if_true]
     exact .cD id e hi
   ·rename_i id n he
    split at hr
    ·rename_i q hq
     split at hr
     ·rename_i hb
      have uI:q.e=z+1:=Nat.eq_of_beq_eq_true hb
      injection hr with hr;subst hr
      intro hC S0 w0 n' O a w φ hs
      have hx:=hs.bp x
      rw [he] at hx
      generalize hV:a.eval x=V at hx
      cases hx with
      | rep h=>cases h
      | ref _ e m g l c' hi hm kY hx bY =>
       obtain ⟨q',gL,h1,h2,h3⟩:=aQ hi
       rw [hq] at gL;injection gL with gL;subst gL
       subst h1
       have hk:=mr hC.2.1 (by rw [h2];exact hm) ah
       refine ⟨_,bW hs ho hc hu dw hV (l:=0) (m:=h.m) ⟨rfl,hC.1,ah⟩ kY,?_⟩
       have:(if c'=0 then (some ⟨g,0,none⟩:Option Addr) else (some ⟨g,0,none⟩:Option Addr).map (·.add (0*(z+1))))=some ⟨g,0,none⟩:=by simp [dA]
       rw [this]
       exact .pre id _ q.e m g h.m c' hi (by rw [bw,Nat.mul_comm]) (by rw [←h2];exact hC.2.1) ah hx bY
      | cD _ e hi =>
       obtain ⟨q',gL,h1,h2,h3⟩:=aQ hi
       rw [hq] at gL;injection gL with gL;subst gL
       have hk:h.m=0:=by
        have h4:=hC.2.1
        rw [bw,h2,uI] at h4
        exact sR h4
       refine ⟨_,bW hs ho hc hu dw hV (l:=0) (m:=h.m) ⟨rfl,hC.1,ah⟩ (Nat.le_refl _),?_⟩
       rw [hk]
       simp only [if_true]
       have e0:cU 0 q.e=0:=by rw [bw];simp
       rw [e0]
       exact .dC id e hi
     ·cases hr
    ·cases hr
   ·rename_i id n he
    split at hr
    ·rename_i q hq
     split at hr
     ·rename_i hb
      have uI:q.e=z+1:=Nat.eq_of_beq_eq_true hb
      injection hr with hr;subst hr
      intro hC S0 w0 n' O a w φ hs
      have hx:=hs.bp x
      rw [he] at hx
      generalize hV:a.eval x=V at hx
      cases hx with
      | rep h=>cases h
      | ref _ e m g l c' hi hm kY hx bY =>
       obtain ⟨q',gL,h1,h2,h3⟩:=aQ hi
       rw [hq] at gL;injection gL with gL;subst gL
       subst h1
       have hk:=mr hC.2.1 (by rw [h2];exact hm) ah
       have hle:=hC.2.1
       rw [bw] at hle
       refine ⟨_,bW hs ho hc hu dw hV (l:=h.k) (m:=l) ⟨hC.1,hk,rfl⟩ kY,?_⟩
       rw [bw]
       refine .js id _ _ q.e m (l-h.k) (c'-h.k) (some g) _ hi (by rw [h2,hm,Nat.mul_sub,Nat.mul_comm h.k]) ah ah ah (fun h0=>⟨g,rfl,?_⟩)
       have cV:c'≠h.k:=by
        intro e'
        have:l=h.k:=ah
        rw [h2,hm,this,Nat.mul_comm,Nat.sub_self] at h0;omega
       rw [if_neg cV]
       simp [fa,uI]
      | cD _ e hi =>
       obtain ⟨q',gL,h1,h2,h3⟩:=aQ hi
       rw [hq] at gL;injection gL with gL;subst gL
       have hk:h.k=0:=by
        have h4:=hC.2.1
        rw [bw,h2,uI] at h4
        exact sR h4
       refine ⟨_,bW hs ho hc hu dw hV (l:=0) (m:=0) ⟨by rw [hC.1,hk],Nat.le_refl _,rfl⟩ (Nat.le_refl _),?_⟩
       rw [hk,h2]
       have e0:cU 0 q.e=0:=by rw [bw];simp
       rw [e0]
       simp only [if_true]
       exact .js id 0 _ e 0 0 0 none none hi (by simp) (by simp) (by simp) (by simp) (fun h=>by simp at h)
     ·cases hr
    ·cases hr
   ·rename_i id n n2 he
    split at hr
    ·rename_i q hq
     split at hr
     ·rename_i hb
      have uI:q.e=z+1:=Nat.eq_of_beq_eq_true hb
      injection hr with hr;subst hr
      intro hC S0 w0 n' O a w φ hs
      have hx:=hs.bp x
      rw [he] at hx
      obtain ⟨iI,EG,GH,OD,-⟩:=hC
      generalize hV:a.eval x=V at hx
      cases hx with
      | rep h=>cases h
      | ref _ e m g l c' hi hm kY hx bY =>
       obtain ⟨q',gL,h1,h2,h3⟩:=aQ hi
       rw [hq] at gL;injection gL with gL;subst gL
       subst h1
       have hk:=mr OD (by rw [h2];exact hm) ah
       rw [bw] at OD
       refine ⟨_,bW hs ho hc hu dw hV (l:=h.k) (m:=h.m) ⟨iI,EG,GH,ah⟩ kY,?_⟩
       rw [bw,bw]
       have hmul:h.k*q.e≤h.m*q.e:=Nat.mul_le_mul_right _ GH
       refine .js id _ _ q.e m (h.m-h.k) (c'-h.k) (some g) _ hi (by rw [Nat.mul_comm]) (by rw [Nat.sub_mul];omega) ah ah (fun h0=>⟨g,rfl,?_⟩)
       have cV:c'≠h.k:=by
        intro e'
        have:h.m-h.k=0:=ah
        rw [this,Nat.zero_mul] at h0;omega
       rw [if_neg cV]
       simp [fa,uI]
      | cD _ e hi =>
       obtain ⟨q',gL,h1,h2,h3⟩:=aQ hi
       rw [hq] at gL;injection gL with gL;subst gL
       have hk:h.m=0:=by
        rw [bw,h2,uI] at OD
        exact sR OD
       have xU:h.k=0:=ah
       refine ⟨_,bW hs ho hc hu dw hV (l:=0) (m:=0) ⟨by rw [iI,xU],by rw [EG,hk],Nat.le_refl _,Nat.le_refl _⟩ (Nat.le_refl _),?_⟩
       rw [xU,hk]
       have e0:cU 0 q.e=0:=by rw [bw];simp
       simp only [Nat.sub_self,e0,if_true]
       exact .js id 0 0 e 0 0 0 none none hi (by simp) (by simp) (by simp) (by simp) (fun h=>by simp at h)
     ·cases hr
    ·cases hr
   ·rename_i id l' he
    injection hr with hr;subst hr
    intro hC S0 w0 n O a w φ hs
    have hx:=hs.bp x
    rw [he] at hx
    generalize hV:a.eval x=V at hx
    cases hx with
    | rep h=>cases h
    | pre _ _ e m g l c' hi sF hm kY hx bY =>
     refine ⟨_,bW hs ho hc hu dw hV (l:=0) (m:=l) ⟨rfl,rfl⟩ kY,?_⟩
     have:(if c'=0 then (some ⟨g,0,none⟩:Option Addr) else (some ⟨g,0,none⟩:Option Addr).map (·.add (0*(z+1))))=some ⟨g,0,none⟩:=by simp [dA]
     rw [this]
     exact .pre id _ e m g l c' hi sF hm kY hx bY
    | dC _ e hi =>
     refine ⟨_,bW hs ho hc hu dw hV (l:=0) (m:=0) ⟨rfl,rfl⟩ (Nat.le_refl _),?_⟩
     simp only [if_true]
     exact .dC id e hi
   ·rename_i id l' n he
    split at hr
    ·rename_i q hq
     split at hr
     ·rename_i hb
      have uI:q.e=z+1:=Nat.eq_of_beq_eq_true hb
      injection hr with hr;subst hr
      intro hC S0 w0 n' O a w φ hs
      have hx:=hs.bp x
      rw [he] at hx
      generalize hV:a.eval x=V at hx
      cases hx with
      | rep h=>cases h
      | pre _ _ e m g l c' hi sF hm kY hx bY =>
       obtain ⟨q',gL,h1,h2,h3⟩:=aQ hi
       rw [hq] at gL;injection gL with gL;subst gL
       subst h1
       have hk:=mr hC.2.1 sF ah
       refine ⟨_,bW hs ho hc hu dw hV (l:=0) (m:=h.m) ⟨rfl,hC.1,ah⟩ kY,?_⟩
       have:(if c'=0 then (some ⟨g,0,none⟩:Option Addr) else (some ⟨g,0,none⟩:Option Addr).map (·.add (0*(z+1))))=some ⟨g,0,none⟩:=by simp [dA]
       rw [this]
       exact .pre id _ q.e m g h.m c' hi (by rw [bw,Nat.mul_comm]) (by have:=hC.2.1;omega) ah hx bY
      | dC _ e hi =>
       have hk:h.m=0:=by
        have h4:=hC.2.1
        rw [bw,uI] at h4
        exact sR h4
       refine ⟨_,bW hs ho hc hu dw hV (l:=0) (m:=h.m) ⟨rfl,hC.1,ah⟩ (Nat.le_refl _),?_⟩
       rw [hk]
       simp only [if_true]
       have e0:cU 0 q.e=0:=by rw [bw];simp
       rw [e0]
       exact .dC id e hi
     ·cases hr
    ·cases hr
   ·cases hr
  ·cases hr
 ·rename_i len el hu
  split at hr
  ·rename_i z dw
   have arr:∀(id:Nat) (q:Row),bp s x= .addr id 0->look s.H id=some q->q.full=true-> ∀S0 w0 n O a w φ,aL S0 w0 n O s a w φ-> ∃g,a.eval x= .pointer (some ⟨g,0,none⟩)∧az s.H φ id=some (q.e,q.cells.length,some g)∧aV w g=q.cells.length:=by
    intro id q he hq hf S0 w0 n O a w φ hs
    have hx:=hs.bp x
    rw [he] at hx
    obtain ⟨e,m,g,hi,hv⟩:=jO hx
    obtain ⟨q',gL,h1,h2,h3⟩:=aQ hi
    rw [hq] at gL;injection gL with gL;subst gL
    refine ⟨g,hv,by rw [br hq,h3],?_⟩
    have aP:=hs.rows id q hq
    unfold bN at aP
    rw [h3] at aP
    obtain ⟨cur,te,fr,hg,-,-,mS,-⟩:=aP
    unfold aV;rw [hg]
    exact mS hf
   split at hr
   ·rename_i id he
    split at hr
    ·rename_i q hq
     split at hr
     ·rename_i hb hf
      have uI:q.e=z+1:=Nat.eq_of_beq_eq_true hb
      injection hr with hr;subst hr
      intro hC S0 w0 n O a w φ hs
      obtain ⟨g,hv,hi,gl⟩:=arr id q he hq hf S0 w0 n O a w φ hs
      obtain ⟨iI,EG,-⟩:=hC
      rw [bw] at iI
      refine ⟨_,ju hs ho hc hu dw hv (l:=0) (m:=len) ⟨rfl,rfl⟩,?_⟩
      have:(if len=0 then (⟨g,0,none⟩:Addr) else (⟨g,0,none⟩:Addr).add (0*(z+1)))=⟨g,0,none⟩:=by simp [dA]
      rw [this]
      exact .ref id q.e _ g len len hi (by rw [iI,Nat.mul_comm]) (Nat.le_refl _) EG (by rw [gl,iI,Nat.mul_comm])
     ·cases hr
    ·cases hr
   ·rename_i id n he
    split at hr
    ·rename_i q hq
     split at hr
     ·rename_i hb hf
      have uI:q.e=z+1:=Nat.eq_of_beq_eq_true hb
      injection hr with hr;subst hr
      intro hC S0 w0 n' O a w φ hs
      obtain ⟨g,hv,hi,gl⟩:=arr id q he hq hf S0 w0 n' O a w φ hs
      obtain ⟨Qb,GH,iI,EG,-⟩:=hC
      rw [bw] at iI
      refine ⟨_,ju hs ho hc hu dw hv (l:=0) (m:=h.m) ⟨rfl,Qb,GH⟩,?_⟩
      have:(if len=0 then (⟨g,0,none⟩:Addr) else (⟨g,0,none⟩:Addr).add (0*(z+1)))=⟨g,0,none⟩:=by simp [dA]
      rw [this,bw]
      exact .pre id _ q.e _ g h.m len hi (by rw [Nat.mul_comm]) (by rw [iI];exact Nat.mul_le_mul_right _ GH) GH EG (by rw [gl,iI,Nat.mul_comm])
     ·cases hr
    ·cases hr
   ·rename_i id n he
    split at hr
    ·rename_i q hq
     split at hr
     ·rename_i hb hf
      have uI:q.e=z+1:=Nat.eq_of_beq_eq_true hb
      injection hr with hr;subst hr
      intro hC S0 w0 n' O a w φ hs
      obtain ⟨g,hv,hi,gl⟩:=arr id q he hq hf S0 w0 n' O a w φ hs
      obtain ⟨Qb,GH,iI,EG,-⟩:=hC
      rw [bw] at iI
      refine ⟨_,ju hs ho hc hu dw hv (l:=h.k) (m:=len) ⟨Qb,GH,rfl⟩,?_⟩
      rw [bw,bw]
      have hmul:h.k*q.e≤len*q.e:=Nat.mul_le_mul_right _ GH
      refine .js id _ _ q.e _ (len-h.k) (len-h.k) (some g) _ hi (by rw [Nat.mul_comm]) (by rw [Nat.sub_mul,iI];omega) ah ah (fun h0=>⟨g,rfl,?_⟩)
      have cV:len≠h.k:=by
       intro e'
       have:len-h.k=0:=ah
       rw [this,Nat.zero_mul] at h0;omega
      rw [if_neg cV]
      simp [fa,uI]
     ·cases hr
    ·cases hr
   ·rename_i id n n2 he
    split at hr
    ·rename_i q hq
     split at hr
     ·rename_i hb hf
      have uI:q.e=z+1:=Nat.eq_of_beq_eq_true hb
      injection hr with hr;subst hr
      intro hC S0 w0 n' O a w φ hs
      obtain ⟨g,hv,hi,gl⟩:=arr id q he hq hf S0 w0 n' O a w φ hs
      obtain ⟨Qb,OD,TX,GH,iI,EG,-⟩:=hC
      rw [bw] at iI
      refine ⟨_,ju hs ho hc hu dw hv (l:=h.k) (m:=h.m) ⟨Qb,OD,TX,GH⟩,?_⟩
      rw [bw,bw]
      have hmul:h.k*q.e≤h.m*q.e:=Nat.mul_le_mul_right _ TX
      have Tz:h.m*q.e≤len*q.e:=Nat.mul_le_mul_right _ GH
      refine .js id _ _ q.e _ (h.m-h.k) (len-h.k) (some g) _ hi (by rw [Nat.mul_comm]) (by rw [Nat.sub_mul,iI];omega) ah ah (fun h0=>⟨g,rfl,?_⟩)
      have cV:len≠h.k:=by
       intro e'
       have:h.m-h.k=0:=ah
       rw [this,Nat.zero_mul] at h0;omega
      rw [if_neg cV]
      simp [fa,uI]
     ·cases hr
    ·cases hr
   ·cases hr
  ·cases hr
 ·cases hr
end
section
variable {P:Program} {s:AS} {o:Oper} {h:Hint} {r:AV×List Prop}
def rv (P:Program) (t:TypeId) (cs:List AV) (off:Nat) (h:Hint):Option (AV×List Prop) :=
 match eh P t,P.underlying t with
 | some sz,some d =>
  (match d with
  | .struct _| .array _ _=>(match Nat.beq ((cs.drop off).take sz).length sz with|true=>some (.agg ((cs.drop off).take sz),[])|false=>none)
  | _=>(match h.av with
   | some y=>some (y,[cs[off]?=some y])
   | none=>(match cs[off]? with|some y=>some (y,[])|none=>none)))
 | _,_=>none
theorem wS {I:Info} {S:Nat->Prop} {w:World} {t:TypeId} {cs:List AV} {off:Nat} (hr:rv P t cs off h=some r) (hC:bx r.2) (vs:List Value) (hl:vs.length=cs.length) (hd:∀(j:Nat) v c,vs[j]?=some v->cs[j]?=some c->Den I S w v c) :
  ∃v,(part t vs.toArray off).run P w= .ok v w∧Den I S w v r.1:=by
 unfold rv at hr
 split at hr
 ·rename_i sz d dw hu
  have hz:(sizeOf t).run P w= .ok sz w:=run_sizeOf dw
  have agg:cF P t=true->Nat.beq ((cs.drop off).take sz).length sz=true->r=(.agg ((cs.drop off).take sz),[])-> ∃v,(part t vs.toArray off).run P w= .ok v w∧Den I S w v r.1:=by
   intro ha hb hr
   subst hr
   have hlen:=Nat.eq_of_beq_eq_true hb
   rw [List.length_take,List.length_drop] at hlen
   refine ⟨.agg (vs.toArray.extract off (off+sz)),?_,?_⟩
   ·simp [part,iw ⟨d,hu⟩,ha,hz]
   ·have e:vs.toArray.extract off (off+sz)=((vs.drop off).take sz).toArray:=by
     simp [List.extract_eq_take_drop]
    rw [e]
    exact .agg _ _ (by rw [List.length_take,List.length_drop,List.length_take,List.length_drop];omega) fun j v c hv hc=>hd (off+j) v c (bT _ _ _ _ _ hv) (bT _ _ _ _ _ hc)
  have one:∀y,cF P t=false->cs[off]?=some y-> ∃v,(part t vs.toArray off).run P w= .ok v w∧Den I S w v y:=by
   intro y ha hy
   have dh:off<vs.length:=by have:=(List.getElem?_eq_some_iff.1 hy).1;omega
   have hv:vs[off]?=some vs[off]:=List.getElem?_eq_getElem dh
   refine ⟨vs[off],?_,hd off _ y hv hy⟩
   simp [part,iw ⟨d,hu⟩,ha,dh]
  split at hr
  ·have ha:cF P t=true:=by unfold cF;rw [hu]
   split at hr
   ·rename_i hb;injection hr with hr;exact agg ha hb hr.symm
   ·cases hr
  ·have ha:cF P t=true:=by unfold cF;rw [hu]
   split at hr
   ·rename_i hb;injection hr with hr;exact agg ha hb hr.symm
   ·cases hr
  ·rename_i Oq RT
   have ha:cF P t=false:=by
    unfold cF;rw [hu]
    cases d<;>first|rfl|exact absurd rfl (Oq _)|exact absurd rfl (RT _ _)
   split at hr
   ·injection hr with hr;subst hr
    exact one _ ha hC.1
   ·split at hr
    ·rename_i y hy
     injection hr with hr;subst hr
     exact one _ ha hy
    ·cases hr
 ·cases hr
def ym (P:Program) (t:TypeId) (x:AV) (f:Nat) (h:Hint):Option (AV×List Prop) :=
 match P.underlying t,x with
 | some (.struct fields),.agg cs=>(match fields[f]? with|some fd=>rv P fd.type cs fd.offset h|none=>none)
 | _,_=>none
theorem CW {t:TypeId} {x:Operand} {f:Nat} (ho:o.op= .field t x f) (hr:ym P t (bp s x) f h=some r):dc P s o r.1 r.2:=by
 intro hC S0 w0 n O a w φ hs
 have hx:=hs.bp x
 unfold ym at hr
 split at hr
 ·rename_i fields cs hu he
  split at hr
  ·rename_i fd hf
   rw [he] at hx
   obtain ⟨vs,hv,hl,hd⟩:=ki hx
   obtain ⟨v,h1,h2⟩:=wS hr hC vs hl hd
   refine ⟨v,?_,h2⟩
   unfold execOp
   simp [ho,Instr.field,run_underlying hu,hf,hv,asAgg,h1]
  ·cases hr
 ·cases hr
def rz (x:AV) (i:Nat):Option (AV×List Prop) :=
 match x with
 | .bq cs=>(match cs[i]? with|some y=>some (y,[])|none=>none)
 | _=>none
theorem yn {x:Operand} {i:Nat} (ho:o.op= .extract x i) (hr:rz (bp s x) i=some r):dc P s o r.1 r.2:=by
 intro hC S0 w0 n O a w φ hs
 have hx:=hs.bp x
 unfold rz at hr
 split at hr
 ·rename_i cs he
  split at hr
  ·rename_i y hy
   injection hr with hr;subst hr
   rw [he] at hx
   obtain ⟨vs,hv,hl,hd⟩:=yP hx
   have dh:i<vs.length:=by have:=(List.getElem?_eq_some_iff.1 hy).1;omega
   have Us:vs[i]?=some vs[i]:=List.getElem?_eq_getElem dh
   refine ⟨vs[i],?_,hd i _ y Us hy⟩
   unfold execOp
   simp [ho,Instr.extract,hv,dh]
  ·cases hr
 ·cases hr
def yk (P:Program) (t:TypeId) (x:AV) (n:Int) (h:Hint):Option (AV×List Prop) :=
 match P.underlying t,x with
 | some (.array len el),.agg cs=>(match eh P el with|some z=>(match rv P el cs (cU h.k z) h with|some r=>some (r.1,(n=(h.k:Int))::(h.k<len)::r.2)|none=>none)|none=>none)
 | some (.array len el),.arr cs=>(match eh P el with|some z=>(match rv P el cs (cU h.k z) h with|some r=>some (r.1,(n=(h.k:Int))::(h.k<len)::r.2)|none=>none)|none=>none)
 | some .string,.val (.string b)=>some (fin h (.val (.int .u8 (bv (b.data.toList.getD h.k 0))),[n=(h.k:Int),h.k<b.size]))
 | _,_=>none
theorem qp {I:Info} {S:Nat->Prop} {w:World} {v:Value} {cs:List AV} (h:Den I S w v (.arr cs)):∃vs:List Value,v= .agg vs.toArray∧vs.length=cs.length∧ ∀(j:Nat) v c,vs[j]?=some v->cs[j]?=some c->cz S w v c:=by
 cases h with
 | rep h=>cases h with|arr vs _ hl h=>exact ⟨vs,rfl,hl,h⟩
theorem CU {t:TypeId} {x i:Operand} {k:IntKind} {n:Int} (ho:o.op= .index t x i) (hi:bp s i= .val (.int k n)) (hr:yk P t (bp s x) n h=some r):dc P s o r.1 r.2:=by
 unfold yk at hr
 have arr:∀(len:Nat) (el:TypeId) (z:Nat) (q:AV×List Prop) (cs:List AV),P.underlying t=some (.array len el)->eh P el=some z->rv P el cs (cU h.k z) h=some q->r=(q.1,(n=(h.k:Int))::(h.k<len)::q.2) ->
   (∀S0 w0 n O a w φ,aL S0 w0 n O s a w φ-> ∃vs:List Value,a.eval x= .agg vs.toArray∧vs.length=cs.length∧ ∀(j:Nat) v c,vs[j]?=some v->cs[j]?=some c->Den (az s.H φ) (aN S0 w φ O) w v c)->dc P s o r.1 r.2:=by
  intro len el z q cs hu hz hq hr hX
  subst hr
  intro hC S0 w0 n' O a w φ hs
  obtain ⟨h1,h2,hC⟩:=hC
  have ei:a.eval i= .int k n:=bL (hi ▸ hs.bp i)
  obtain ⟨vs,hv,hl,hd⟩:=hX S0 w0 n' O a w φ hs
  obtain ⟨v,h3,h4⟩:=wS hq hC vs hl hd
  refine ⟨v,?_,h4⟩
  have m9:0≤n∧n<(len:Int):=ah
  have hk:n.toNat=h.k:=ah
  have AH:(sizeOf el).run P w= .ok z w:=run_sizeOf hz
  rw [bw] at h3
  unfold execOp
  simp [ho,Instr.index,run_underlying hu,hv,asIntOf,ei,m9,hk,AH,h3]
 split at hr
 ·rename_i len el cs hu he
  split at hr
  ·rename_i z hz
   split at hr
   ·rename_i q hq
    injection hr with hr
    refine arr len el z q cs hu hz hq hr.symm fun S0 w0 n O a w φ hs=>?_
    have hx:=hs.bp x
    rw [he] at hx
    exact ki hx
   ·cases hr
  ·cases hr
 ·rename_i len el cs hu he
  split at hr
  ·rename_i z hz
   split at hr
   ·rename_i q hq
    injection hr with hr
    refine arr len el z q cs hu hz hq hr.symm fun S0 w0 n O a w φ hs=>?_
    have hx:=hs.bp x
    rw [he] at hx
    obtain ⟨vs,h1,h2,h3⟩:=qp hx
    exact ⟨vs,h1,h2,fun j v c hv hc=>.rep (h3 j v c hv hc)⟩
   ·cases hr
  ·cases hr
 ·rename_i b hu he
  injection hr with hr;subst hr
  refine gy ?_
  intro hC S0 w0 n' O a w φ hs
  obtain ⟨h1,h2,-⟩:=hC
  have ei:a.eval i= .int k n:=bL (hi ▸ hs.bp i)
  have ex:a.eval x= .string b:=bL (he ▸ hs.bp x)
  refine ⟨_,?_,.rep (.val _)⟩
  have h0:0≤n:=ah
  have hk:n.toNat=h.k:=ah
  unfold execOp
  simp [ho,Instr.index,run_underlying hu,ex,asIntOf,ei,h0,hk,h2]
  rfl
 ·cases hr
def I4 (x:AV):Option (AV×List Prop) :=
 match x with
 | .ptr row off=>some (.ptr row off,[])
 | .addr id off=>some (.addr id off,[])
 | .val (.func (.func f) l c)=>some (.val (.func (.func f) l c),[])
 | _=>none
theorem I3 {x:Operand} (ho:o.op= .nilCheck x) (hr:I4 (bp s x)=some r):dc P s o r.1 r.2:=by
 intro hC S0 w0 n O a w φ hs
 have hx:=hs.bp x
 unfold I4 at hr
 split at hr
 ·rename_i row off he
  injection hr with hr;subst hr
  rw [he] at hx
  obtain ⟨ad,us,hv,-⟩:=td hx
  refine ⟨a.eval x,?_,hx⟩
  unfold execOp
  simp [ho,hv]
 ·rename_i id off he
  injection hr with hr;subst hr
  rw [he] at hx
  obtain ⟨e,m,g,-,hv⟩:=jO hx
  refine ⟨a.eval x,?_,hx⟩
  unfold execOp
  simp [ho,hv]
 ·rename_i f l c he
  injection hr with hr;subst hr
  rw [he] at hx
  have hv:=bL hx
  refine ⟨a.eval x,?_,hx⟩
  unfold execOp
  simp [ho,hv]
 ·cases hr
def CQ (s:AS) (c x y:Operand) (h:Hint):Option (AV×List Prop) :=
 match bp s c with
 | .val (.bool b)=>(match h.b with|true=>some (bp s x,[b=true])|false=>some (bp s y,[b=false]))
 | _=>none
theorem FZ {c x y:Operand} {h:Hint} (ho:o.op= .pick c x y) (hr:CQ s c x y h=some r):dc P s o r.1 r.2:=by
 intro hC S0 w0 n O a w φ hs
 unfold CQ at hr
 split at hr
 ·rename_i b he
  split at hr
  ·cases hr
   have ec:a.eval c= .bool true:=by
    have h1:a.eval c= .bool b:=bL (he ▸ hs.bp c)
    rw [h1,show b=true from hC.1]
   refine ⟨a.eval x,?_,hs.bp x⟩
   unfold execOp
   simp [ho,ec,asBool]
  ·cases hr
   have ec:a.eval c= .bool false:=by
    have h1:a.eval c= .bool b:=bL (he ▸ hs.bp c)
    rw [h1,show b=false from hC.1]
   refine ⟨a.eval y,?_,hs.bp y⟩
   unfold execOp
   simp [ho,ec,asBool]
 ·cases hr
def I6 (P:Program) (s:AS) (ts:Array TypeId) (ty:TypeId) (x:AV) (h:Hint):Option (AV×List Prop) :=
 match x with
 | .val u=>(match j9 P (Builtin.len_ ts ty #[u]) with|some z=>some (fin h (.val z,[]))|none=>none)
 | x=>(match ts[0]? with
  | some t=>(match P.underlying t with
   | some (.slice _)=>(match x with
    | .nil=>some (.val (.int .i64 0),[])
    | .sl (e+1) row=>some (.val (.int .i64 h.k),[row.length=cU h.k (e+1)])
    | .ref id=>(match look s.H id with|some ⟨e+1,_,_,cells⟩=>some (.val (.int .i64 h.k),[cells.length=cU h.k (e+1)])|_=>none)
    | .pre id l=>(match look s.H id with|some ⟨e+1,_,_,_⟩=>some (.val (.int .i64 h.k),[l=cU h.k (e+1)])|_=>none)
    | .js id _ l=>(match look s.H id with|some ⟨e+1,_,_,_⟩=>some (.val (.int .i64 h.k),[l=cU h.k (e+1)])|_=>none)
    | _=>none)
   | some (.array n _)=>some (.val (.int .i64 n),[])
   | _=>none)
  | none=>none)
theorem q_ {q e l k:Nat} (h1:q=cU k (e+1)) (h2:q=(e+1)*l):l=k:=by
 rw [bw,h2,Nat.mul_comm k] at h1
 exact Nat.eq_of_mul_eq_mul_left ah h1
theorem I5 {x:Operand} {ts:Array TypeId} (ho:o.op= .call {callee:=.builtin .len,args:= #[x],argTypes:=ts}) (hr:I6 P s ts o.type (bp s x) h=some r):dc P s o r.1 r.2:=by
 unfold I6 at hr
 split at hr
 ·rename_i u he
  split at hr
  ·rename_i z hz
   injection hr with hr;subst hr
   refine gy ?_
   intro hC S0 w0 n O a w φ hs
   have ex:a.eval x=u:=bL (he ▸ hs.bp x)
   refine ⟨z,?_,.rep (.val _)⟩
   unfold execOp
   simp [ho,resolve,invoke,builtin,ex,fJ w hz]
  ·cases hr
 ·split at hr
  ·rename_i t ht
   split at hr
   ·rename_i el hu
    have run:∀(a:Act) (w:World) (A:Option Addr) (l c:Nat),a.eval x= .slice A l c->(execOp a.eval o).run P w= .ok (.value (.int .i64 l)) w:=by
     intro a w A l c hv
     unfold execOp
     simp [ho,resolve,invoke,builtin,hv,Builtin.len_,ht,run_underlying hu,goInt]
    split at hr
    ·rename_i he
     injection hr with hr;subst hr
     intro hC S0 w0 n O a w φ hs
     have hx:=hs.bp x
     rw [he] at hx
     generalize hV:a.eval x=V at hx
     cases hx with|rep h=>cases h with|nil=>exact ⟨_,run a w _ _ _ hV,.rep (.val _)⟩
    ·rename_i e row he
     injection hr with hr;subst hr
     intro hC S0 w0 n O a w φ hs
     have hx:=hs.bp x
     rw [he] at hx
     have bZ:=pn hx
     generalize hV:a.eval x=V at bZ
     cases bZ with
     | sl A l c _ us _ hl hn hc hm ha h' =>
      have:=q_ hC.1 hn
      subst this
      exact ⟨_,run a w _ _ _ hV,.rep (.val _)⟩
    ·rename_i id he
     split at hr
     ·rename_i e pu fu cells hq
      injection hr with hr;subst hr
      intro hC S0 w0 n O a w φ hs
      have hx:=hs.bp x
      rw [he] at hx
      generalize hV:a.eval x=V at hx
      cases hx with
      | rep h=>cases h
      | ref _ e m g l c hi hm hc hx bY =>
       rw [br hq] at hi
       injection hi with hi;injection hi with h1 hi;injection hi with h2 h3
       have:=q_ hC.1 (by rw [show cells.length=m from h2,hm,←h1])
       subst this
       exact ⟨_,run a w _ _ _ hV,.rep (.val _)⟩
      | cD _ e hi =>
       rw [br hq] at hi
       injection hi with hi;injection hi with h1 hi;injection hi with h2 h3
       have:=q_ (l:=0) hC.1 (by rw [show cells.length=0 from h2];simp)
       rw [←this]
       exact ⟨_,run a w _ _ _ hV,.rep (.val _)⟩
     ·cases hr
    ·rename_i id l' he
     split at hr
     ·rename_i e pu fu cells hq
      injection hr with hr;subst hr
      intro hC S0 w0 n O a w φ hs
      have hx:=hs.bp x
      rw [he] at hx
      generalize hV:a.eval x=V at hx
      cases hx with
      | rep h=>cases h
      | pre _ _ e m g l c hi hn hm hc hx bY =>
       rw [br hq] at hi
       injection hi with hi;injection hi with h1 hi;injection hi with h2 h3
       have:=q_ hC.1 (by rw [hn,←h1])
       subst this
       exact ⟨_,run a w _ _ _ hV,.rep (.val _)⟩
      | dC _ e hi =>
       have:=q_ (l:=0) hC.1 (by simp)
       rw [←this]
       exact ⟨_,run a w _ _ _ hV,.rep (.val _)⟩
     ·cases hr
    ·rename_i id off l' he
     split at hr
     ·rename_i e pu fu cells hq
      injection hr with hr;subst hr
      intro hC S0 w0 n O a w φ hs
      have hx:=hs.bp x
      rw [he] at hx
      generalize hV:a.eval x=V at hx
      cases hx with
      | rep h=>cases h
      | js _ _ _ e m l c g A hi hn hm hc hx ha =>
       rw [br hq] at hi
       injection hi with hi;injection hi with h1 hi;injection hi with h2 h3
       have:=q_ hC.1 (by rw [hn,←h1])
       subst this
       exact ⟨_,run a w _ _ _ hV,.rep (.val _)⟩
     ·cases hr
    ·cases hr
   ·rename_i n' el hu
    injection hr with hr;subst hr
    intro hC S0 w0 n O a w φ hs
    refine ⟨.int .i64 n',?_,.rep (.val _)⟩
    unfold execOp
    simp [ho,resolve,invoke,builtin,Builtin.len_,ht,run_underlying hu,goInt]
   ·cases hr
  ·cases hr
def tC (s:AS):List Operand->Option (List Value)
 | []=>some []
 | x::l=>match bp s x,tC s l with| .val u,some m=>some (u::m)|_,_=>none
theorem vU {S0:bm} {w0 w:World} {n:Nat} {O:List Nat} {a:Act} {φ:Nat->Option Nat} (hs:aL S0 w0 n O s a w φ):∀(xs:List Operand) (us:List Value),tC s xs=some us->xs.map a.eval=us
 | [],us,h=>by cases h;rfl
 | x::l,us,h=>by
  simp only [tC] at h
  split at h
  ·rename_i u m hu hm
   injection h with h;subst h
   rw [List.map_cons,vU hs l m hm,show a.eval x=u from bL (hu ▸ hs.bp x)]
  ·cases h
def NH (P:Program) (b:Builtin) (ts:Array TypeId) (ty:TypeId) (us:List Value):Option (AV×List Prop) :=
 match b with
 | .min=>(match j9 P (Builtin.min_ ts ty us.toArray) with|some z=>some (.val z,[])|none=>none)
 | .max=>(match j9 P (Builtin.max_ ts ty us.toArray) with|some z=>some (.val z,[])|none=>none)
 | _=>none
theorem Lm {b:Builtin} {xs:Array Operand} {ts:Array TypeId} {us:List Value} (ho:o.op= .call {callee:=.builtin b,args:=xs,argTypes:=ts}) (hu:tC s xs.toList=some us) (hr:NH P b ts o.type us=some r):dc P s o r.1 r.2:=by
 intro hC S0 w0 n O a w φ hs
 have e:=vU hs _ _ hu
 have e2:xs.map a.eval=us.toArray:=Array.toList_inj.1 (by rw [Array.toList_map,e])
 unfold NH at hr
 split at hr
 ·split at hr
  ·rename_i z hz
   injection hr with hr;subst hr
   refine ⟨z,?_,.rep (.val _)⟩
   unfold execOp
   simp [ho,resolve,invoke,builtin,e2,fJ w hz]
  ·cases hr
 ·split at hr
  ·rename_i z hz
   injection hr with hr;subst hr
   refine ⟨z,?_,.rep (.val _)⟩
   unfold execOp
   simp [ho,resolve,invoke,builtin,e2,fJ w hz]
  ·cases hr
 ·cases hr
end
end Go.Proofs.YtjgbhhnghedgdaaGreatDoor
