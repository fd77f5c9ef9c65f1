import Derived.Test.YtjgbhhnghedgdaaGreatDoorZmRW
import Derived.Shelf.Unicode.DecodeSlow
import Derived.Calls
import Derived.Laws.Cells
set_option linter.all false
namespace Go.Proofs.YtjgbhhnghedgdaaGreatDoor
open Go.RowKit
inductive AV where
 | val (v:Value)
 | nil
 | agg (cs:List AV)
 | bk (cs:List AV)
 | arr (cs:List AV)
 | sl (e:Nat) (row:List AV)
 | ptr (row:List AV) (off:Nat)
 | own (e:Nat) (row:List AV)
 | box (row:List AV)
 | ref (id:Nat)
 | pre (id n:Nat)
 | js (id off n:Nat)
 | addr (id off:Nat)
 | kX (f:Nat) (cs:List AV)
 | pC (e:Nat) (row:List AV)
 | dead
 deriving Inhabited
inductive cB (S:Nat->Prop) (w:World):Value->AV->Prop
 | val (v:Value):cB S w v (.val v)
 | nil:cB S w (.slice none 0 0) .nil
 | agg (vs:List Value) (cs:List AV) (hl:vs.length=cs.length) (h:∀(j:Nat) v c,vs[j]?=some v->cs[j]?=some c->cB S w v c):cB S w (.agg vs.toArray) (.agg cs)
 | bk (vs:List Value) (cs:List AV) (hl:vs.length=cs.length) (h:∀(j:Nat) v c,vs[j]?=some v->cs[j]?=some c->cB S w v c):cB S w (.tuple vs.toArray) (.bk cs)
 | arr (vs:List Value) (cs:List AV) (hl:vs.length=cs.length) (h:∀(j:Nat) v c,vs[j]?=some v->cs[j]?=some c->cB S w v c):cB S w (.agg vs.toArray) (.arr cs)
 | sl (A:Option Addr) (n c e:Nat) (us:List Value) (row:List AV) (hl:us.length=row.length) (hn:row.length=e*n) (hc:n≤c) (hm:c≤maxLen)
   (ha:0<row.length-> ∃ad,A=some ad∧S ad.block∧ ∀(j:Nat) u,us[j]?=some u->w.cell? (ad.add j)=some u)
   (h:∀(j:Nat) u x,us[j]?=some u->row[j]?=some x->cB S w u x):cB S w (.slice A n c) (.sl e row)
 | pC (A:Option Addr) (n e:Nat) (us:List Value) (row:List AV) (hl:us.length=row.length) (hn:row.length=e*n) (hm:n≤maxLen)
   (ha:0<row.length-> ∃ad,A=some ad∧S ad.block∧ ∀(j:Nat) u,us[j]?=some u->w.cell? (ad.add j)=some u)
   (h:∀(j:Nat) u x,us[j]?=some u->row[j]?=some x->cB S w u x):cB S w (.slice A n n) (.pC e row)
 | ptr (ad:Addr) (us:List Value) (row:List AV) (off:Nat) (hl:us.length=row.length) (hs:S ad.block) (ha:∀(j:Nat) u,us[j]?=some u->w.cell? (ad.add j)=some u)
   (h:∀(j:Nat) u x,us[j]?=some u->row[j]?=some x->cB S w u x):cB S w (.pointer (some (ad.add off))) (.ptr row off)
 | kX (f:Nat) (vs:List Value) (cs:List AV) (hl:vs.length=cs.length) (h:∀(j:Nat) v c,vs[j]?=some v->cs[j]?=some c->cB S w v c):cB S w (.func (.func f) #[] vs.toArray) (.kX f cs)
theorem ky {w w':World} {p:Addr} (h:w'.heap[p.block]?=w.heap[p.block]?):w'.cell? p=w.cell? p:=World.cell?_of_block (w:=w) h
theorem cB.mono {S S':Nat->Prop} {w w':World} (hS:∀b,S b->S' b∧w'.heap[b]?=w.heap[b]?) {v:Value} {av:AV} (h:cB S w v av):cB S' w' v av:=by
 induction h with
 | val v=>exact .val v
 | nil=>exact .nil
 | agg vs cs hl _ ih=>exact .agg vs cs hl ih
 | bk vs cs hl _ ih=>exact .bk vs cs hl ih
 | arr vs cs hl _ ih=>exact .arr vs cs hl ih
 | sl A n c e us row hl hn hc hm ha _ ih =>
  refine .sl A n c e us row hl hn hc hm (fun h0=>?_) ih
  obtain ⟨ad,rfl,hb,bw⟩:=ha h0
  exact ⟨ad,rfl,(hS _ hb).1,fun j u hu=>(ky (by rw [gM];exact (hS _ hb).2)).trans (bw j u hu)⟩
 | pC A n e us row hl hn hm ha _ ih =>
  refine .pC A n e us row hl hn hm (fun h0=>?_) ih
  obtain ⟨ad,rfl,hb,bw⟩:=ha h0
  exact ⟨ad,rfl,(hS _ hb).1,fun j u hu=>(ky (by rw [gM];exact (hS _ hb).2)).trans (bw j u hu)⟩
 | ptr ad us row off hl hs ha _ ih =>
  exact .ptr ad us row off hl (hS _ hs).1 (fun j u hu=>(ky (by rw [gM];exact (hS _ hs).2)).trans (ha j u hu)) ih
 | kX f vs cs hl _ ih=>exact .kX f vs cs hl ih
abbrev Info:=Nat->Option (Nat×Nat×Option Nat)
def a7 (w:World) (g:Nat):Nat:=match w.heap[g]? with|some (.cells c _ _)=>c.size|_=>0
inductive Den (I:Info) (S:Nat->Prop) (w:World):Value->AV->Prop
 | rep {v:Value} {av:AV} (h:cB S w v av):Den I S w v av
 | agg (vs:List Value) (cs:List AV) (hl:vs.length=cs.length) (h:∀(j:Nat) v c,vs[j]?=some v->cs[j]?=some c->Den I S w v c):Den I S w (.agg vs.toArray) (.agg cs)
 | bk (vs:List Value) (cs:List AV) (hl:vs.length=cs.length) (h:∀(j:Nat) v c,vs[j]?=some v->cs[j]?=some c->Den I S w v c):Den I S w (.tuple vs.toArray) (.bk cs)
 | ref (id e m g l c:Nat) (hi:I id=some (e,m,some g)) (hm:m=e*l) (hc:l≤c) (hx:c≤maxLen) (hs:a7 w g=e*c):Den I S w (.slice (some ⟨g,0,none⟩) l c) (.ref id)
 | cD (id e:Nat) (hi:I id=some (e,0,none)):Den I S w (.slice none 0 0) (.ref id)
 | pre (id n e m g l c:Nat) (hi:I id=some (e,m,some g)) (hn:n=e*l) (hm:n≤m) (hc:l≤c) (hx:c≤maxLen) (hs:a7 w g=e*c):Den I S w (.slice (some ⟨g,0,none⟩) l c) (.pre id n)
 | dB (id e:Nat) (hi:I id=some (e,0,none)):Den I S w (.slice none 0 0) (.pre id 0)
 | js (id off n e m l c:Nat) (g:Option Nat) (A:Option Addr) (hi:I id=some (e,m,g)) (hn:n=e*l) (hm:off+n≤m) (hc:l≤c) (hx:c≤maxLen) (ha:0<n-> ∃b,g=some b∧A=some ⟨b,off,none⟩):Den I S w (.slice A l c) (.js id off n)
 | addr (id off e m g:Nat) (hi:I id=some (e,m,some g)):Den I S w (.pointer (some ⟨g,off,none⟩)) (.addr id off)
 | dead (v:Value):Den I S w v .dead
theorem Den.mono {I I':Info} {S S':Nat->Prop} {w w':World} (hI:∀id x,I id=some x->I' id=some x) (hS:∀b,S b->S' b∧w'.heap[b]?=w.heap[b]?)
  (hL:∀id e m g,I id=some (e,m,some g)->a7 w' g=a7 w g) {v:Value} {av:AV} (h:Den I S w v av):Den I' S' w' v av:=by
 induction h with
 | rep h=>exact .rep (h.mono hS)
 | agg vs cs hl _ ih=>exact .agg vs cs hl ih
 | bk vs cs hl _ ih=>exact .bk vs cs hl ih
 | ref id e m g l c hi hm hc hx hs=>exact .ref id e m g l c (hI _ _ hi) hm hc hx ((hL _ _ _ _ hi).trans hs)
 | cD id e hi=>exact .cD id e (hI _ _ hi)
 | pre id n e m g l c hi hn hm hc hx hs=>exact .pre id n e m g l c (hI _ _ hi) hn hm hc hx ((hL _ _ _ _ hi).trans hs)
 | dB id e hi=>exact .dB id e (hI _ _ hi)
 | js id off n e m l c g A hi hn hm hc hx ha=>exact .js id off n e m l c g A (hI _ _ hi) hn hm hc hx ha
 | addr id off e m g hi=>exact .addr id off e m g (hI _ _ hi)
 | dead v=>exact .dead v
structure Row where
 e:Nat
 pure:Bool
 full:Bool
 cells:List AV
def bh (I:Info) (S:Nat->Prop) (w:World) (p:Bool) (u:Value) (x:AV):Prop:=match p with|true=>cB S w u x|false=>Den I S w u x
def bR (I:Info) (S:Nat->Prop) (w:World) (b:Option Nat) (r:Row):Prop :=
 match b with
 | none=>r.cells= []
 | some g=>∃cur te fr,w.heap[g]?=some (.cells cur te fr)∧(∀j,j<cur.size-> ¬(fr.1≤j∧j<fr.2))∧r.cells.length≤cur.size∧(r.full=true->cur.size=r.cells.length) ∧
   ∀(j:Nat) u x,cur[j]?=some u->r.cells[j]?=some x->bh I S w r.pure u x
def look {α:Type}:List (Nat×α)->Nat->Option α
 | [],_=>none
 | (k,x)::l,i=>match Nat.beq k i with|true=>some x|false=>look l i
def cP {α:Type}:List (Nat×α)->Nat->List (Nat×α)
 | [],_=>[]
 | (k,x)::l,i=>match Nat.beq k i with|true=>cP l i|false=>(k,x)::cP l i
def d_ {α:Type} (f:α->α):List (Nat×α)->List (Nat×α)
 | []=>[]
 | (k,x)::l=>(k,f x)::d_ f l
theorem bK (k i:Nat):(Nat.beq k i=true∧k=i)∨(Nat.beq k i=false∧k≠i):=by
 cases h:Nat.beq k i with
 | true=>exact .inl ⟨rfl,Nat.eq_of_beq_eq_true h⟩
 | false=>exact .inr ⟨rfl,Nat.ne_of_beq_eq_false h⟩
theorem aF {α:Type} (k:Nat) (x:α) (l:List (Nat×α)) (i:Nat):look ((k,x)::l) i=if k=i then some x else look l i:=by
 rcases bK k i with ⟨h,e⟩|⟨h,e⟩<;>simp [look,h,e]
theorem bJ {α:Type} (l:List (Nat×α)) (i j:Nat):look (cP l i) j=if i=j then none else look l j:=by
 induction l with
 | nil=>simp [cP,look]
 | cons p l ih =>
  obtain ⟨k,x⟩:=p
  rcases bK k i with ⟨h,e⟩|⟨h,e⟩
  ·simp only [cP,h];rw [ih,aF,e]
   by_cases hj:i=j<;>simp [hj]
  ·simp only [cP,h,aF,ih]
   by_cases hk:k=j
   ·subst hk;simp [Ne.symm e]
   ·simp [hk]
theorem cy {α:Type} (f:α->α) (l:List (Nat×α)) (i:Nat):look (d_ f l) i=(look l i).map f:=by
 induction l with
 | nil=>rfl
 | cons p l ih =>
  obtain ⟨k,x⟩:=p
  simp only [d_,aF,ih]
  by_cases hk:k=i<;>simp [hk]
theorem bQ {α:Type} (l m:List (Nat×α)) (i:Nat):look (l++m) i=(look l i).or (look m i):=by
 induction l with
 | nil=>simp [look]
 | cons p l ih =>
  obtain ⟨k,x⟩:=p
  simp only [List.cons_append,aF,ih]
  by_cases hk:k=i<;>simp [hk]
structure AS where
 F:List (Nat×AV)
 H:List (Nat×Row)
def az (H:List (Nat×Row)) (φ:Nat->Option Nat):Info:=fun id=>(look H id).map fun r=>(r.e,r.cells.length,φ id)
def TB (b:Nat):Prop:=b=0∨b=1
def Good (w:World):Prop:=Lib.Utf8Tabs 0 1 w
theorem Good.aa {w w':World} (h:Good w) (hk:∀b,TB b->w'.heap[b]?=w.heap[b]?):Good w' :=
 ⟨fun c hc=>(World.cell?_of_block (hk _ (.inl rfl))).trans (h.1 c hc),fun i hi=>⟨(World.cell?_of_block (hk _ (.inr rfl))).trans (h.2 i hi).1,(World.cell?_of_block (hk _ (.inr rfl))).trans (h.2 i hi).2⟩⟩
theorem Good.lt {w:World} (h:Good w) {b:Nat} (hb:TB b):b<w.heap.size:=by
 have lt:∀ {a:Addr} {v:Value},w.cell? a=some v->a.block<w.heap.size:=fun {a v} hc=>by
  rcases Nat.lt_or_ge a.block w.heap.size with h'|h'
  ·exact h'
  ·simp [World.cell?,Array.getElem?_eq_none h'] at hc
 rcases hb with rfl|rfl
 ·exact lt (h.1 0 (by decide))
 ·exact lt (h.2 0 (by decide)).1
structure bn where
 S:Nat->Prop
 X:Nat->Prop
 fix:Nat->Option Nat
 sG:List Deferred:=[]
instance:CoeFun bn fun _=>Nat->Prop:=⟨bn.S⟩
def QS (S0:bn) (w0:World) (id g:Nat):Prop:=(id<1000000000000∨S0.fix id=some g)∧(w0.heap.size≤g∨S0.X g)
structure Kept (S0:bn) (w0 w:World):Prop where
 os:w.os=w0.os
 tape:w.tape=w0.tape
 output:w.output=w0.output
 size:w0.heap.size≤w.heap.size
 block:∀k,k<w0.heap.size-> ¬S0.X k->w.heap[k]?=w0.heap[k]?
 g0:Good w0
 gx:∀b,TB b-> ¬S0.X b
theorem Kept.mP {S0:bn} {w0 w:World} (h:Kept S0 w0 w):Good w:=h.g0.aa fun b hb=>h.block b (h.g0.lt hb) (h.gx b hb)
theorem Kept.pV {S0:bn} {w0 w w':World} (h:Kept S0 w0 w) (hb:Below w.heap.size w w'):Kept S0 w0 w' :=
 ⟨hb.os.trans h.os,hb.tape.trans h.tape,hb.output.trans h.output,Nat.le_trans h.size hb.size,fun k hk hx=>(hb.block k (Nat.lt_of_lt_of_le hk h.size)).trans (h.block k hk hx),h.g0,h.gx⟩
theorem Kept.below {S0:bn} {w0 w:World} (h:Kept S0 w0 w) (hX:∀b,¬S0.X b):Below w0.heap.size w0 w :=
 ⟨h.os,h.tape,h.output,h.size,fun k hk=>h.block k hk (hX k)⟩
def aQ (S0:bn) (w:World) (φ:Nat->Option Nat) (O:List Nat):Nat->Prop:=fun b=>b<w.heap.size∧b ∉ O∧(∀id,φ id≠some b)∧S0 b
structure aO (S0:bn) (w0:World) (n:Nat) (O:List Nat) (s:AS) (a:Act) (w:World) (φ:Nat->Option Nat):Prop where
 jS:a.tmps.size=n
 jV:a.defers=S0.sG
 cZ:Kept S0 w0 w
 cC:∀i av,look s.F i=some av->Den (az s.H φ) (aQ S0 w φ O) w (a.tmps.getD i undef) av
 rows:∀id r,look s.H id=some r->bR (az s.H φ) (aQ S0 w φ O) w (φ id) r
 only:∀id,look s.H id=none->φ id=none
 inj:∀id pw g,φ id=some g->φ pw=some g->id=pw
 cY:∀id g,φ id=some g->QS S0 w0 id g∧g<w.heap.size
 apart:∀id g,φ id=some g->g ∉ O
 new:∀b,(w0.heap.size≤b∨S0.X b)->S0 b
def ix (S0:bn) (w0:World) (n:Nat) (s:AS) (a:Act) (w:World):Prop:=∃ φ,aO S0 w0 n [] s a w φ
theorem Kept.sU {S0:bn} {w0 w:World} (h:Kept S0 w0 w) {g:Nat} (hg:w0.heap.size≤g∨S0.X g):¬TB g:=fun hb=>hg.elim (fun h1=>by have:=h.g0.lt hb;omega) (h.gx g hb)
theorem aO.sU {S0:bn} {w0 w:World} {n:Nat} {O:List Nat} {s:AS} {a:Act} {φ:Nat->Option Nat} (h:aO S0 w0 n O s a w φ) {b:Nat} (hb:TB b):¬ ∃id,φ id=some b:=fun ⟨id,hid⟩=>h.cZ.sU (h.cY id b hid).1.2 hb
def jU (s:AS) (i:Nat):AV:=match look s.F i with|some x=>x|none=>.dead
def lx (s:AS) (i:Nat) (x:AV):AS:=⟨(i,x)::cP s.F i,s.H⟩
theorem rv (s:AS) (i j:Nat) (x:AV):look (lx s i x).F j=if i=j then some x else look s.F j:=by
 simp only [lx,aF,bJ]
 by_cases h:i=j<;>simp [h]
section
variable {S0:bn} {w0 w w':World} {n:Nat} {O:List Nat} {s:AS} {a:Act} {φ:Nat->Option Nat}
theorem aO.get (h:aO S0 w0 n O s a w φ) (i:Nat):Den (az s.H φ) (aQ S0 w φ O) w (a.tmps.getD i undef) (jU s i):=by
 unfold jU
 cases hl:look s.F i with
 | none=>exact .dead _
 | some x=>exact h.cC i x hl
theorem qa (a:Act) (d i:Nat) (v:Value) (hd:d<a.tmps.size):(a.put (some d) v).tmps.getD i undef=if d=i then v else a.tmps.getD i undef:=by
 simp only [Act.put]
 by_cases h:d=i
 ·subst h;simp [hd]
 ·simp [h,Array.getElem?_setIfInBounds_ne h]
theorem tR (a:Act) (d:Option Nat) (v:Value):(a.put d v).tmps.size=a.tmps.size:=by cases d<;>simp [Act.put]
theorem pH (a:Act) (d:Option Nat) (v:Value):(a.put d v).defers=a.defers:=by cases d<;>simp [Act.put]
theorem aO.put (h:aO S0 w0 n O s a w φ) {d:Nat} (hd:d<n) {v:Value} {x:AV} (hx:Den (az s.H φ) (aQ S0 w φ O) w v x):aO S0 w0 n O (lx s d x) (a.put (some d) v) w φ where
 jS:=(tR ..).trans h.jS
 jV:=(pH ..).trans h.jV
 cZ:=h.cZ
 cC:=fun i av hi=>by
  rw [qa a d i v (by rw [h.jS];exact hd)]
  rw [rv] at hi
  by_cases e:d=i
  ·rw [if_pos e] at hi ⊢
   injection hi with hi
   subst hi;exact hx
  ·rw [if_neg e] at hi ⊢
   exact h.cC i av hi
 rows:=h.rows
 only:=h.only
 inj:=h.inj
 cY:=h.cY
 apart:=h.apart
 new:=h.new
theorem aO.grow (h:aO S0 w0 n O s a w φ) (hb:Below w.heap.size w w'):aO S0 w0 n O s a w' φ where
 jS:=h.jS
 jV:=h.jV
 cZ:=h.cZ.pV hb
 cC:=fun i av hi=>(h.cC i av hi).mono (fun _ _ h=>h) (fun b hS=>⟨⟨Nat.lt_of_lt_of_le hS.1 hb.size,hS.2⟩,hb.block b hS.1⟩) (fun id e m g hi=>by
  have hg:φ id=some g:=by
   unfold az at hi
   cases hl:look s.H id with
   | none=>rw [hl] at hi;cases hi
   | some r=>rw [hl] at hi;simp at hi;exact hi.2.2
  unfold a7;rw [hb.block g (h.cY id g hg).2])
 rows:=fun id r hr=>by
  have aR:=h.rows id r hr
  unfold bR at aR ⊢
  cases ct:φ id with
  | none=>rw [ct] at aR;exact aR
  | some g =>
   rw [ct] at aR
   obtain ⟨cur,te,fr,hg,hf,hl,m7,hc⟩:=aR
   refine ⟨cur,te,fr,(hb.block g (h.cY id g ct).2).trans hg,hf,hl,m7,fun j u x hu hx=>?_⟩
   have bw:=hc j u x hu hx
   have hS:∀b,aQ S0 w φ O b->aQ S0 w' φ O b∧w'.heap[b]?=w.heap[b]?:=fun b hS=>⟨⟨Nat.lt_of_lt_of_le hS.1 hb.size,hS.2⟩,hb.block b hS.1⟩
   unfold bh at bw ⊢
   cases hp:r.pure with
   | true=>rw [hp] at bw;exact bw.mono hS
   | false =>
    rw [hp] at bw
    exact bw.mono (fun _ _ h=>h) hS (fun id e m g hi=>by
     have hg:φ id=some g:=by
      unfold az at hi
      cases hl:look s.H id with
      | none=>rw [hl] at hi;cases hi
      | some r=>rw [hl] at hi;simp at hi;exact hi.2.2
     unfold a7;rw [hb.block g (h.cY id g hg).2])
 only:=h.only
 inj:=h.inj
 cY:=fun id g hg=>⟨(h.cY id g hg).1,Nat.lt_of_lt_of_le (h.cY id g hg).2 hb.size⟩
 apart:=h.apart
 new:=h.new
end
def aB (id:Nat):AV->AV
 | .ref i=>match Nat.beq i id with|true=>.dead|false=>.ref i
 | .pre i n=>match Nat.beq i id with|true=>.dead|false=>.pre i n
 | .js i o n=>match Nat.beq i id with|true=>.dead|false=>.js i o n
 | .addr i o=>match Nat.beq i id with|true=>.dead|false=>.addr i o
 | .agg _=>.dead
 | .bk _=>.dead
 | x=>x
def ES (id:Nat):AV->AV
 | .agg cs=>.agg (cs.map (aB id))
 | x=>aB id x
def jO (id:Nat):AV->AV
 | .bk cs=>.bk (cs.map (ES id))
 | x=>ES id x
def cK (id:Nat) (r:Row):Row:=match r.pure with|true=>r|false=>⟨r.e,false,r.full,r.cells.map (aB id)⟩
def cp (id:Nat) (s:AS):AS:=⟨d_ (jO id) s.F,d_ (cK id) (cP s.H id)⟩
def kB (id:Nat) (r:Row):AV->AV
 | .ref i=>match Nat.beq i id with|true=>.sl r.e r.cells|false=>.ref i
 | .pre i n=>match Nat.beq i id with|true=>.sl r.e (r.cells.take n)|false=>.pre i n
 | .js i o n=>match Nat.beq i id with|true=>.sl r.e ((r.cells.drop o).take n)|false=>.js i o n
 | .addr i o=>match Nat.beq i id with|true=>.ptr r.cells o|false=>.addr i o
 | .agg _=>.dead
 | .bk _=>.dead
 | x=>x
def Er (id:Nat) (r:Row):AV->AV
 | .agg cs=>.agg (cs.map (kB id r))
 | x=>kB id r x
def Me (id:Nat) (r:Row):AV->AV
 | .bk cs=>.bk (cs.map (Er id r))
 | x=>Er id r x
def fR (id:Nat) (r:Row) (q:Row):Row:=match q.pure with|true=>q|false=>⟨q.e,false,q.full,q.cells.map (kB id r)⟩
def gq (id:Nat) (r:Row) (s:AS):AS:=⟨d_ (Me id r) s.F,d_ (fR id r) (cP s.H id)⟩
section
variable {I I':Info} {S S':Nat->Prop} {w w':World}
structure jX (I I':Info) (S S':Nat->Prop) (w:World) (f:AV->AV):Prop where
 leaf:∀v x,Den I S w v x->(∀cs,x≠ .agg cs)->(∀cs,x≠ .bk cs)->Den I' S' w v (f x)
 agg:∀cs,f (.agg cs)= .dead
 bk:∀cs,f (.bk cs)= .dead
theorem jX.all {f:AV->AV} (h:jX I I' S S' w f) {v:Value} {x:AV} (hx:Den I S w v x):Den I' S' w v (f x):=by
 cases x with
 | agg cs=>rw [h.agg];exact .dead _
 | bk cs=>rw [h.bk];exact .dead _
 | _=>exact h.leaf v _ hx (by intro cs e;cases e) (by intro cs e;cases e)
theorem ko {v:Value} {cs:List AV} (h:Den I S w v (.agg cs)):∃vs:List Value,v= .agg vs.toArray∧vs.length=cs.length∧ ∀(j:Nat) v c,vs[j]?=some v->cs[j]?=some c->Den I S w v c:=by
 cases h with
 | rep h=>cases h with|agg vs _ hl h=>exact ⟨vs,rfl,hl,fun j v c hv hc=>.rep (h j v c hv hc)⟩
 | agg vs _ hl h=>exact ⟨vs,rfl,hl,h⟩
theorem zv {v:Value} {cs:List AV} (h:Den I S w v (.bk cs)):∃vs:List Value,v= .tuple vs.toArray∧vs.length=cs.length∧ ∀(j:Nat) v c,vs[j]?=some v->cs[j]?=some c->Den I S w v c:=by
 cases h with
 | rep h=>cases h with|bk vs _ hl h=>exact ⟨vs,rfl,hl,fun j v c hv hc=>.rep (h j v c hv hc)⟩
 | bk vs _ hl h=>exact ⟨vs,rfl,hl,h⟩
theorem jX.one {f:AV->AV} (h:jX I I' S S' w f) {v:Value} {x:AV} (hx:Den I S w v x) {g:AV->AV} (hg:∀cs,g (.agg cs)= .agg (cs.map f)) (ja:∀y,(∀cs,y≠ .agg cs)->g y=f y):Den I' S' w v (g x):=by
 by_cases hc:∃cs,x= .agg cs
 ·obtain ⟨cs,rfl⟩:=hc
  obtain ⟨vs,rfl,hl,hd⟩:=ko hx
  rw [hg]
  refine .agg vs _ (by simpa using hl) fun j v c hv hc=>?_
  rw [List.getElem?_map] at hc
  cases hj:cs[j]? with
  | none=>rw [hj] at hc;cases hc
  | some y=>rw [hj] at hc;injection hc with hc;subst hc;exact h.all (hd j v y hv hj)
 ·rw [ja x fun cs e=>hc ⟨cs,e⟩]
  exact h.all hx
theorem jX.two {f:AV->AV} (h:jX I I' S S' w f) {v:Value} {x:AV} (hx:Den I S w v x) {g k:AV->AV} (hg:∀cs,g (.agg cs)= .agg (cs.map f)) (ja:∀y,(∀cs,y≠ .agg cs)->g y=f y)
  (hk:∀cs,k (.bk cs)= .bk (cs.map g)) (oK:∀y,(∀cs,y≠ .bk cs)->k y=g y):Den I' S' w v (k x):=by
 by_cases hc:∃cs,x= .bk cs
 ·obtain ⟨cs,rfl⟩:=hc
  obtain ⟨vs,rfl,hl,hd⟩:=zv hx
  rw [hk]
  refine .bk vs _ (by simpa using hl) fun j v c hv hc=>?_
  rw [List.getElem?_map] at hc
  cases hj:cs[j]? with
  | none=>rw [hj] at hc;cases hc
  | some y=>rw [hj] at hc;injection hc with hc;subst hc;exact h.one (hd j v y hv hj) hg ja
 ·rw [oK x fun cs e=>hc ⟨cs,e⟩]
  exact h.one hx hg ja
theorem Be (id:Nat) (y:AV) (h:∀cs,y≠ .agg cs):ES id y=aB id y:=by
 cases y with
 | agg cs=>exact absurd rfl (h cs)
 | _=>rfl
theorem Bd (id:Nat) (y:AV) (h:∀cs,y≠ .bk cs):jO id y=ES id y:=by
 cases y with
 | bk cs=>exact absurd rfl (h cs)
 | _=>rfl
theorem An (id:Nat) (r:Row) (y:AV) (h:∀cs,y≠ .agg cs):Er id r y=kB id r y:=by
 cases y with
 | agg cs=>exact absurd rfl (h cs)
 | _=>rfl
theorem Am (id:Nat) (r:Row) (y:AV) (h:∀cs,y≠ .bk cs):Me id r y=Er id r y:=by
 cases y with
 | bk cs=>exact absurd rfl (h cs)
 | _=>rfl
theorem uM (id:Nat) (hI:∀i x,i≠id->I i=some x->I' i=some x) (hS:∀b,S b->S' b):jX I I' S S' w (aB id) where
 agg:=fun _=>rfl
 bk:=fun _=>rfl
 leaf:=fun v x hx h1 h2=>by
  have sZ:∀b,S b->S' b∧w.heap[b]?=w.heap[b]?:=fun b h=>⟨hS b h,rfl⟩
  cases hx with
  | rep h=>cases h with
   | val v=>exact .rep (.val v)
   | nil=>exact .rep .nil
   | agg vs cs _ _=>exact absurd rfl (h1 cs)
   | bk vs cs _ _=>exact absurd rfl (h2 cs)
   | arr vs cs hl h=>exact .rep ((cB.arr vs cs hl h).mono sZ)
   | sl A n c e us row hl hn hc hm ha h=>exact .rep ((cB.sl A n c e us row hl hn hc hm ha h).mono sZ)
   | pC A n e us row hl hn hm ha h=>exact .rep ((cB.pC A n e us row hl hn hm ha h).mono sZ)
   | ptr ad us row off hl hs ha h=>exact .rep ((cB.ptr ad us row off hl hs ha h).mono sZ)
   | kX f vs cs hl h=>exact .rep ((cB.kX f vs cs hl h).mono sZ)
  | agg vs cs _ _=>exact absurd rfl (h1 cs)
  | bk vs cs _ _=>exact absurd rfl (h2 cs)
  | ref i e m g l c hi hm hc hx hs =>
   rcases bK i id with ⟨h,e⟩|⟨h,e⟩<;>simp only [aB,h]
   ·exact .dead _
   ·exact .ref i _ m g l c (hI _ _ e hi) hm hc hx hs
  | cD i e hi =>
   rcases bK i id with ⟨h,e⟩|⟨h,e⟩<;>simp only [aB,h]
   ·exact .dead _
   ·exact .cD i _ (hI _ _ e hi)
  | pre i n e m g l c hi hn hm hc hx hs =>
   rcases bK i id with ⟨h,e⟩|⟨h,e⟩<;>simp only [aB,h]
   ·exact .dead _
   ·exact .pre i n _ m g l c (hI _ _ e hi) hn hm hc hx hs
  | dB i e hi =>
   rcases bK i id with ⟨h,e⟩|⟨h,e⟩<;>simp only [aB,h]
   ·exact .dead _
   ·exact .dB i _ (hI _ _ e hi)
  | js i off n e m l c g A hi hn hm hc hx ha =>
   rcases bK i id with ⟨h,e⟩|⟨h,e⟩<;>simp only [aB,h]
   ·exact .dead _
   ·exact .js i off n _ m l c g A (hI _ _ e hi) hn hm hc hx ha
  | addr i off e m g hi =>
   rcases bK i id with ⟨h,e⟩|⟨h,e⟩<;>simp only [aB,h]
   ·exact .dead _
   ·exact .addr i off _ m g (hI _ _ e hi)
  | dead v=>exact .dead _
theorem Den.kill (id:Nat) (hI:∀i x,i≠id->I i=some x->I' i=some x) (hS:∀b,S b->S' b) {v:Value} {x:AV} (h:Den I S w v x):Den I' S' w v (jO id x) :=
 (uM id hI hS).two h (fun _=>rfl) (Be id) (fun _=>rfl) (Bd id)
theorem fe {r:Row} {g l c:Nat} {cur:Array Value} {te:TypeId} {fr:Nat×Nat} (hg:w.heap[g]?=some (.cells cur te fr)) (hS:S g) (cells:List AV) (off:Nat) (hl:off+cells.length≤cur.size)
  (hn:cells.length=r.e*l) (hc:l≤c) (hm:c≤maxLen) (A:Option Addr) (hA:0<cells.length->A=some ⟨g,off,none⟩) (h:∀(j:Nat) u x,cur[off+j]?=some u->cells[j]?=some x->cB S w u x):cB S w (.slice A l c) (.sl r.e cells):=by
 refine .sl A l c r.e ((cur.toList.drop off).take cells.length) cells (by have:cur.toList.length=cur.size:=rfl;rw [List.length_take,List.length_drop];omega) hn hc hm (fun h0=>⟨_,hA h0,hS,fun j u hu=>?_⟩) (fun j u x hu hx=>?_)
 ·have e:(⟨g,off,none⟩:Addr).add j=⟨g,off+j,none⟩:=by unfold Addr.add;split<;>simp_all
  rw [e,cell_of_row w g _ cur te fr hg]
  rw [List.getElem?_take] at hu
  split at hu
  ·rw [List.getElem?_drop] at hu;simpa using hu
  ·cases hu
 ·refine h j u x ?_ hx
  rw [List.getElem?_take] at hu
  split at hu
  ·rw [List.getElem?_drop] at hu;simpa using hu
  ·cases hu
theorem pj {g off:Nat} {cur:Array Value} {te:TypeId} {fr:Nat×Nat} (hg:w.heap[g]?=some (.cells cur te fr)) (hS:S g) (cells:List AV) (hl:cells.length≤cur.size)
  (h:∀(j:Nat) u x,cur[j]?=some u->cells[j]?=some x->cB S w u x):cB S w (.pointer (some ⟨g,off,none⟩)) (.ptr cells off):=by
 have e:∀j,(⟨g,0,none⟩:Addr).add j=⟨g,j,none⟩:=fi g
 have:=cB.ptr (S:=S) (w:=w) ⟨g,0,none⟩ (cur.toList.take cells.length) cells off (by have:cur.toList.length=cur.size:=rfl;rw [List.length_take];omega) hS (fun j u hu=>?_) (fun j u x hu hx=>?_)
 ·rw [e] at this;exact this
 ·rw [e,cell_of_row w g _ cur te fr hg]
  rw [List.getElem?_take] at hu
  split at hu
  ·simpa using hu
  ·cases hu
 ·refine h j u x ?_ hx
  rw [List.getElem?_take] at hu
  split at hu
  ·simpa using hu
  ·cases hu
end
def erase (φ:Nat->Option Nat) (id:Nat):Nat->Option Nat:=fun i=>if i=id then none else φ i
def fI (φ:Nat->Option Nat) (id g:Nat):Nat->Option Nat:=fun i=>if i=id then some g else φ i
section
variable {S0:bn} {w0 w w':World} {n:Nat} {O:List Nat} {s:AS} {a:Act} {φ:Nat->Option Nat}
theorem aT {H:List (Nat×Row)} {id e m:Nat} {b:Option Nat} (h:az H φ id=some (e,m,b)):∃r,look H id=some r∧r.e=e∧r.cells.length=m∧φ id=b:=by
 unfold az at h
 cases hl:look H id with
 | none=>rw [hl] at h;cases h
 | some r=>rw [hl] at h;simp at h;exact ⟨r,rfl,h⟩
theorem bu {H:List (Nat×Row)} {id:Nat} {r:Row} (h:look H id=some r):az H φ id=some (r.e,r.cells.length,φ id):=by
 unfold az;rw [h];rfl
theorem fQ (id:Nat) (r:Row):(cK id r).e=r.e∧(cK id r).cells.length=r.cells.length∧(cK id r).pure=r.pure∧(cK id r).full=r.full:=by
 unfold cK
 cases h:r.pure<;>simp [h]
theorem gw (id:Nat) (r q:Row):(fR id r q).e=q.e∧(fR id r q).cells.length=q.cells.length∧(fR id r q).pure=q.pure∧(fR id r q).full=q.full:=by
 unfold fR
 cases h:q.pure<;>simp [h]
theorem nK (id i:Nat) (x:Nat×Nat×Option Nat) (cW:i≠id) (h:az s.H φ i=some x):az (cp id s).H (erase φ id) i=some x:=by
 obtain ⟨e,m,b⟩:=x
 obtain ⟨r,hl,he,hm,hb⟩:=aT h
 have:look (cp id s).H i=some (cK id r):=by
  unfold cp;rw [cy,bJ,if_neg (Ne.symm cW),hl];rfl
 rw [bu this,(fQ id r).1,(fQ id r).2.1,he,hm]
 unfold erase;rw [if_neg cW,hb]
theorem kt (id i:Nat) (q:Row) (x:Nat×Nat×Option Nat) (cW:i≠id) (h:az s.H φ i=some x):az (gq id q s).H (erase φ id) i=some x:=by
 obtain ⟨e,m,b⟩:=x
 obtain ⟨r,hl,he,hm,hb⟩:=aT h
 have:look (gq id q s).H i=some (fR id q r):=by
  unfold gq;rw [cy,bJ,if_neg (Ne.symm cW),hl];rfl
 rw [bu this,(gw id q r).1,(gw id q r).2.1,he,hm]
 unfold erase;rw [if_neg cW,hb]
theorem aO.jx (h:aO S0 w0 n O s a w φ) (id:Nat) (O':List Nat) (hO:O'=match φ id with|some g=>g::O|none=>O):aO S0 w0 n O' (cp id s) a w (erase φ id):=by
 have hF:∀b,aQ S0 w φ O b->aQ S0 w (erase φ id) O' b:=by
  intro b ⟨h1,h2,h3,h4⟩
  refine ⟨h1,?_,fun i hi=>?_,h4⟩
  ·rw [hO]
   cases ct:φ id with
   | none=>exact h2
   | some g =>
    simp only [List.mem_cons,not_or]
    exact ⟨fun e=>h3 id (by rw [ct,e]),h2⟩
  ·unfold erase at hi
   split at hi
   ·cases hi
   ·exact h3 i hi
 refine ⟨h.jS,h.jV,h.cZ,fun i av hi=>?_,fun i r hr=>?_,fun i hi=>?_,fun i j g hi hj=>?_,fun i g hi=>?_,fun i g hi=>?_,h.new⟩
 ·unfold cp at hi
  rw [cy] at hi
  cases hl:look s.F i with
  | none=>rw [hl] at hi;cases hi
  | some x =>
   rw [hl] at hi;injection hi with hi;subst hi
   exact (h.cC i x hl).kill id (nK id) hF
 ·have iq:=hr
  unfold cp at iq
  rw [cy,bJ] at iq
  by_cases cW:id=i
  ·rw [if_pos cW] at iq;cases iq
  ·rw [if_neg cW] at iq
   cases hl:look s.H i with
   | none=>rw [hl] at iq;cases iq
   | some q =>
    rw [hl] at iq;injection iq with iq;subst iq
    have hq:=h.rows i q hl
    have C6:erase φ id i=φ i:=by unfold erase;rw [if_neg (Ne.symm cW)]
    rw [C6]
    unfold bR at hq ⊢
    cases hb:φ i with
    | none =>
     rw [hb] at hq
     have:=(fQ id q).2.1
     simp only at hq ⊢
     rw [hq] at this;exact List.length_eq_zero_iff.1 this
    | some g =>
     rw [hb] at hq
     obtain ⟨cur,te,fr,hg,hf,hlen,m7,hc⟩:=hq
     refine ⟨cur,te,fr,hg,hf,by rw [(fQ id q).2.1];exact hlen,by rw [(fQ id q).2.1,(fQ id q).2.2.2];exact m7,fun j u x hu hx=>?_⟩
     rw [(fQ id q).2.2.1]
     unfold bh
     cases hp:q.pure with
     | true =>
      have:cK id q=q:=by unfold cK;rw [hp]
      rw [this] at hx
      have:=hc j u x hu hx
      unfold bh at this;rw [hp] at this
      exact this.mono fun b hb=>⟨hF b hb,rfl⟩
     | false =>
      have:(cK id q).cells=q.cells.map (aB id):=by unfold cK;rw [hp]
      rw [this,List.getElem?_map] at hx
      cases hj:q.cells[j]? with
      | none=>rw [hj] at hx;cases hx
      | some y =>
       rw [hj] at hx;injection hx with hx;subst hx
       have:=hc j u y hu hj
       unfold bh at this;rw [hp] at this
       exact (uM id (nK id) hF).all this
 ·unfold cp at hi
  rw [cy,bJ] at hi
  unfold erase
  by_cases cW:id=i
  ·rw [if_pos cW.symm]
  ·rw [if_neg cW] at hi
   rw [if_neg (Ne.symm cW)]
   refine h.only i ?_
   cases hl:look s.H i with
   | none=>rfl
   | some r=>rw [hl] at hi;cases hi
 ·unfold erase at hi hj
  split at hi
  ·cases hi
  ·split at hj
   ·cases hj
   ·exact h.inj i j g hi hj
 ·unfold erase at hi
  split at hi
  ·cases hi
  ·exact h.cY i g hi
 ·unfold erase at hi
  split at hi
  ·cases hi
  ·rename_i cW
   rw [hO]
   cases ct:φ id with
   | none=>exact h.apart i g hi
   | some g' =>
    simp only [List.mem_cons,not_or]
    exact ⟨fun e=>cW (h.inj i id g hi (by rw [ct,e])),h.apart i g hi⟩
theorem aO.wK (h:aO S0 w0 n O s a w φ) (hO:∀g∈O,w0.heap.size≤g∨S0.X g) (IP:w'.os=w.os) (uQ:w'.tape=w.tape) (uR:w'.output=w.output) (dw:w.heap.size≤w'.heap.size) (hb:∀b,b<w.heap.size->b ∉ O->w'.heap[b]?=w.heap[b]?):aO S0 w0 n O s a w' φ:=by
 have hF:∀b,aQ S0 w φ O b->aQ S0 w' φ O b∧w'.heap[b]?=w.heap[b]?:=fun b h=>⟨⟨by have:=h.1;omega,h.2⟩,hb b h.1 h.2.1⟩
 have hL:∀id e m g,az s.H φ id=some (e,m,some g)->a7 w' g=a7 w g:=by
  intro id e m g hi
  obtain ⟨r,-,-,-,ct⟩:=aT hi
  unfold a7;rw [hb g (h.cY id g ct).2 (h.apart id g ct)]
 refine ⟨h.jS,h.jV,⟨IP.trans h.cZ.os,uQ.trans h.cZ.tape,uR.trans h.cZ.output,Nat.le_trans h.cZ.size dw,fun k hk hx=>?_,h.cZ.g0,h.cZ.gx⟩,fun i av hi=>(h.cC i av hi).mono (fun _ _ h=>h) hF hL,fun id r hr=>?_,h.only,h.inj,fun id g hg=>⟨(h.cY id g hg).1,Nat.lt_of_lt_of_le (h.cY id g hg).2 dw⟩,h.apart,h.new⟩
 ·rw [hb k (by have:=h.cZ.size;omega) (fun hm=>by rcases hO k hm with h|h;omega;exact hx h)]
  exact h.cZ.block k hk hx
 ·have aR:=h.rows id r hr
  unfold bR at aR ⊢
  cases ct:φ id with
  | none=>rw [ct] at aR;exact aR
  | some g =>
   rw [ct] at aR
   obtain ⟨cur,te,fr,hg,hf,hl,m7,hc⟩:=aR
   refine ⟨cur,te,fr,(hb g (h.cY id g ct).2 (h.apart id g ct)).trans hg,hf,hl,m7,fun j u x hu hx=>?_⟩
   have bw:=hc j u x hu hx
   unfold bh at bw ⊢
   cases hp:r.pure with
   | true=>rw [hp] at bw;exact bw.mono hF
   | false=>rw [hp] at bw;exact bw.mono (fun _ _ h=>h) hF hL
theorem aO.await (h:aO S0 w0 n O s a w φ) (g:Nat) (hg:w.heap.size≤g):aO S0 w0 n (g::O) s a w φ:=by
 have hF:∀b,aQ S0 w φ O b->aQ S0 w φ (g::O) b∧w.heap[b]?=w.heap[b]?:=fun b h=>⟨⟨h.1,by simp only [List.mem_cons,not_or];exact ⟨by have:=h.1;omega,h.2.1⟩,h.2.2⟩,rfl⟩
 have hL:∀id e m g,az s.H φ id=some (e,m,some g)->a7 w g=a7 w g:=fun _ _ _ _ _=>rfl
 refine ⟨h.jS,h.jV,h.cZ,fun i av hi=>(h.cC i av hi).mono (fun _ _ h=>h) hF hL,fun id r hr=>?_,h.only,h.inj,h.cY,fun id g' ja=>?_,h.new⟩
 ·have aR:=h.rows id r hr
  unfold bR at aR ⊢
  cases ct:φ id with
  | none=>rw [ct] at aR;exact aR
  | some g =>
   rw [ct] at aR
   obtain ⟨cur,te,fr,hg,hf,hl,m7,hc⟩:=aR
   refine ⟨cur,te,fr,hg,hf,hl,m7,fun j u x hu hx=>?_⟩
   have bw:=hc j u x hu hx
   unfold bh at bw ⊢
   cases hp:r.pure with
   | true=>rw [hp] at bw;exact bw.mono hF
   | false=>rw [hp] at bw;exact bw.mono (fun _ _ h=>h) hF hL
 ·simp only [List.mem_cons,not_or]
  exact ⟨by have:=(h.cY id g' ja).2;omega,h.apart id g' ja⟩
theorem rJ {id g:Nat} (hid:φ id=none) (b:Nat):aQ S0 w φ (g::O) b↔aQ S0 w (fI φ id g) O b:=by
 unfold aQ fI
 constructor
 ·rintro ⟨h1,h2,h3,h4⟩
  simp only [List.mem_cons,not_or] at h2
  refine ⟨h1,h2.2,fun i hi=>?_,h4⟩
  split at hi
  ·injection hi with hi;exact h2.1 hi.symm
  ·exact h3 i hi
 ·rintro ⟨h1,h2,h3,h4⟩
  refine ⟨h1,?_,fun i hi=>?_,h4⟩
  ·simp only [List.mem_cons,not_or]
   exact ⟨fun e=>h3 id (by rw [if_pos rfl,e]),h2⟩
  ·by_cases e:i=id
   ·subst e;rw [hid] at hi;cases hi
   ·exact h3 i (by rw [if_neg e];exact hi)
theorem aO.xz {g id:Nat} {r:Row} (h:aO S0 w0 n (g::O) s a w φ) (Bu:QS S0 w0 id g) (Gj:g<w.heap.size) (Qc:g ∉ O) (hid:look s.H id=none)
  (hr:bR (az s.H φ) (aQ S0 w φ (g::O)) w (some g) r):aO S0 w0 n O ⟨s.F,(id,r)::s.H⟩ a w (fI φ id g):=by
 have ct:=h.only id hid
 have hF:∀b,aQ S0 w φ (g::O) b->aQ S0 w (fI φ id g) O b∧w.heap[b]?=w.heap[b]?:=fun b hb=>⟨(rJ ct b).1 hb,rfl⟩
 have hI:∀i x,az s.H φ i=some x->az ((id,r)::s.H) (fI φ id g) i=some x:=by
  intro i x hi
  obtain ⟨e,m,b⟩:=x
  obtain ⟨q,hl,he,hm,hb⟩:=aT hi
  have cW:id≠i:=fun e=>by subst e;rw [hid] at hl;cases hl
  rw [bu (r:=q) (by rw [aF,if_neg cW,hl])]
  unfold fI;rw [if_neg (Ne.symm cW),he,hm,hb]
 have hL:∀id e m g,az s.H φ id=some (e,m,some g)->a7 w g=a7 w g:=fun _ _ _ _ _=>rfl
 have aR:∀b q,bR (az s.H φ) (aQ S0 w φ (g::O)) w b q->bR (az ((id,r)::s.H) (fI φ id g)) (aQ S0 w (fI φ id g) O) w b q:=by
  intro b q hq
  unfold bR at hq ⊢
  cases b with
  | none=>exact hq
  | some g' =>
   obtain ⟨cur,te,fr,hg,hf,hl,m7,hc⟩:=hq
   refine ⟨cur,te,fr,hg,hf,hl,m7,fun j u x hu hx=>?_⟩
   have bw:=hc j u x hu hx
   unfold bh at bw ⊢
   cases hp:q.pure with
   | true=>rw [hp] at bw;exact bw.mono hF
   | false=>rw [hp] at bw;exact bw.mono hI hF hL
 refine ⟨h.jS,h.jV,h.cZ,fun i av hi=>(h.cC i av hi).mono hI hF hL,fun i q hq=>?_,fun i hi=>?_,fun i j g' hi hj=>?_,fun i g' hi=>?_,fun i g' hi=>?_,h.new⟩
 ·rw [aF] at hq
  by_cases e:id=i
  ·rw [if_pos e] at hq;injection hq with hq;subst hq;subst e
   have:fI φ id g id=some g:=by unfold fI;rw [if_pos rfl]
   rw [this];exact aR _ _ hr
  ·rw [if_neg e] at hq
   have:fI φ id g i=φ i:=by unfold fI;rw [if_neg (Ne.symm e)]
   rw [this];exact aR _ _ (h.rows i q hq)
 ·rw [aF] at hi
  by_cases e:id=i
  ·rw [if_pos e] at hi;cases hi
  ·rw [if_neg e] at hi
   unfold fI;rw [if_neg (Ne.symm e)];exact h.only i hi
 ·have cW:∀i,φ i=some g'->g'≠g:=fun i hi e=>h.apart i g' hi (by rw [e];simp)
  unfold fI at hi hj
  split at hi<;>split at hj
  ·omega
  ·injection hi with hi;exact absurd hi.symm (cW j hj)
  ·injection hj with hj;exact absurd hj.symm (cW i hi)
  ·exact h.inj i j g' hi hj
 ·unfold fI at hi
  split at hi
  ·rename_i e;injection hi with hi;subst hi;exact ⟨e ▸ Bu,Gj⟩
  ·exact h.cY i g' hi
 ·unfold fI at hi
  split at hi
  ·injection hi with hi;subst hi;exact Qc
  ·exact fun hm=>h.apart i g' hi (by simp [hm])
theorem aO.rZ (h:aO S0 w0 n O s a w φ) {id:Nat} {r:Row} (hid:look s.H id=none) (hr:r.cells= []):aO S0 w0 n O ⟨s.F,(id,r)::s.H⟩ a w φ:=by
 have ct:=h.only id hid
 have hI:∀i x,az s.H φ i=some x->az ((id,r)::s.H) φ i=some x:=by
  intro i x hi
  obtain ⟨e,m,b⟩:=x
  obtain ⟨q,hl,he,hm,hb⟩:=aT hi
  have cW:id≠i:=fun e=>by subst e;rw [hid] at hl;cases hl
  rw [bu (r:=q) (by rw [aF,if_neg cW,hl]),he,hm,hb]
 have hF:∀b,aQ S0 w φ O b->aQ S0 w φ O b∧w.heap[b]?=w.heap[b]?:=fun b hb=>⟨hb,rfl⟩
 have hL:∀id e m g,az s.H φ id=some (e,m,some g)->a7 w g=a7 w g:=fun _ _ _ _ _=>rfl
 refine ⟨h.jS,h.jV,h.cZ,fun i av hi=>(h.cC i av hi).mono hI hF hL,fun i q hq=>?_,fun i hi=>?_,h.inj,h.cY,h.apart,h.new⟩
 ·rw [aF] at hq
  by_cases e:id=i
  ·rw [if_pos e] at hq;injection hq with hq;subst hq;subst e
   rw [ct];exact hr
  ·rw [if_neg e] at hq
   have gO:=h.rows i q hq
   unfold bR at gO ⊢
   cases hb:φ i with
   | none=>rw [hb] at gO;exact gO
   | some g' =>
    rw [hb] at gO
    obtain ⟨cur,te,fr,hg,hf,hl,m7,hc⟩:=gO
    refine ⟨cur,te,fr,hg,hf,hl,m7,fun j u x hu hx=>?_⟩
    have bw:=hc j u x hu hx
    unfold bh at bw ⊢
    cases hp:q.pure with
    | true=>rw [hp] at bw;exact bw
    | false=>rw [hp] at bw;exact bw.mono hI hF hL
 ·rw [aF] at hi
  by_cases e:id=i
  ·rw [if_pos e] at hi;cases hi
  ·rw [if_neg e] at hi;exact h.only i hi
theorem aO.vf {g:Nat} (h:aO S0 w0 n (g::O) s a w φ):aO S0 w0 n O s a w φ:=by
 have hF:∀b,aQ S0 w φ (g::O) b->aQ S0 w φ O b∧w.heap[b]?=w.heap[b]?:=fun b h=>⟨⟨h.1,fun hm=>h.2.1 (by simp [hm]),h.2.2⟩,rfl⟩
 have hL:∀id e m g,az s.H φ id=some (e,m,some g)->a7 w g=a7 w g:=fun _ _ _ _ _=>rfl
 refine ⟨h.jS,h.jV,h.cZ,fun i av hi=>(h.cC i av hi).mono (fun _ _ h=>h) hF hL,fun id r hr=>?_,h.only,h.inj,h.cY,fun id g' ja hm=>h.apart id g' ja (by simp [hm]),h.new⟩
 have aR:=h.rows id r hr
 unfold bR at aR ⊢
 cases ct:φ id with
 | none=>rw [ct] at aR;exact aR
 | some g =>
  rw [ct] at aR
  obtain ⟨cur,te,fr,hg,hf,hl,m7,hc⟩:=aR
  refine ⟨cur,te,fr,hg,hf,hl,m7,fun j u x hu hx=>?_⟩
  have bw:=hc j u x hu hx
  unfold bh at bw ⊢
  cases hp:r.pure with
  | true=>rw [hp] at bw;exact bw.mono hF
  | false=>rw [hp] at bw;exact bw.mono (fun _ _ h=>h) hF hL
theorem aO.Md (h:aO S0 w0 n O s a w φ) {id:Nat} {r:Row} (hr:look s.H id=some r) (hp:r.pure=true):aO S0 w0 n O (gq id r s) a w (erase φ id):=by
 have hF:∀b,aQ S0 w φ O b->aQ S0 w (erase φ id) O b:=by
  intro b ⟨h1,h2,h3,h4⟩
  refine ⟨h1,h2,fun i hi=>?_,h4⟩
  unfold erase at hi
  split at hi
  ·cases hi
  ·exact h3 i hi
 have NV:∀b,aQ S0 w φ O b->aQ S0 w (erase φ id) O b∧w.heap[b]?=w.heap[b]?:=fun b hb=>⟨hF b hb,rfl⟩
 have aR:=h.rows id r hr
 have hI:=bu (φ:=φ) hr
 have ok:jX (az s.H φ) (az (gq id r s).H (erase φ id)) (aQ S0 w φ O) (aQ S0 w (erase φ id) O) w (kB id r):=by
  refine ⟨fun v x hx h1 h2=>?_,fun _=>rfl,fun _=>rfl⟩
  have Rh:∀g,φ id=some g->aQ S0 w (erase φ id) O g:=fun g hg=>⟨(h.cY id g hg).2,h.apart id g hg,fun i hi=>by
   unfold erase at hi
   split at hi
   ·cases hi
   ·rename_i cW;exact cW (h.inj i id g hi hg),h.new g (h.cY id g hg).1.2⟩
  have Bw:∀g,φ id=some g-> ∃cur te fr,w.heap[g]?=some (.cells cur te fr)∧r.cells.length≤cur.size∧ ∀(j:Nat) u x,cur[j]?=some u->r.cells[j]?=some x->cB (aQ S0 w (erase φ id) O) w u x:=by
   intro g hg
   have IJ:=aR
   unfold bR at IJ
   rw [hg] at IJ
   obtain ⟨cur,te,fr,ja,hf,hl,-,hc⟩:=IJ
   refine ⟨cur,te,fr,ja,hl,fun j u x hu hx=>?_⟩
   have:=hc j u x hu hx
   unfold bh at this;rw [hp] at this
   exact this.mono NV
  have Es:∀(l:List AV) (k j:Nat) (x:AV),(l.take k)[j]?=some x->l[j]?=some x:=by
   intro l k j x hx
   rw [List.getElem?_take] at hx
   split at hx
   ·exact hx
   ·cases hx
  cases hx with
  | rep h=>cases h with
   | val v=>exact .rep (.val v)
   | nil=>exact .rep .nil
   | agg vs cs _ _=>exact absurd rfl (h1 cs)
   | bk vs cs _ _=>exact absurd rfl (h2 cs)
   | arr vs cs hl h=>exact .rep ((cB.arr vs cs hl h).mono NV)
   | sl A n c e us row hl hn hc hm ha h=>exact .rep ((cB.sl A n c e us row hl hn hc hm ha h).mono NV)
   | pC A n e us row hl hn hm ha h=>exact .rep ((cB.pC A n e us row hl hn hm ha h).mono NV)
   | ptr ad us row off hl hs ha h=>exact .rep ((cB.ptr ad us row off hl hs ha h).mono NV)
   | kX f vs cs hl h=>exact .rep ((cB.kX f vs cs hl h).mono NV)
  | agg vs cs _ _=>exact absurd rfl (h1 cs)
  | bk vs cs _ _=>exact absurd rfl (h2 cs)
  | ref i e m g l c hi hm hc hx hs =>
   rcases bK i id with ⟨hb,e'⟩|⟨hb,e'⟩<;>simp only [kB,hb]
   ·subst e'
    rw [hI] at hi;injection hi with hi;injection hi with he hi;injection hi with Mr hg
    obtain ⟨cur,te,fr,ja,hl,la⟩:=Bw g hg
    exact .rep (fe (r:=r) ja (Rh g hg) r.cells 0 ah (by rw [Mr,he];exact hm) hc hx _ (fun _=>rfl) (fun j u x hu hx=>la j u x (by simpa using hu) hx))
   ·exact .ref i _ m g l c (kt id i r _ e' hi) hm hc hx hs
  | cD i e hi =>
   rcases bK i id with ⟨hb,e'⟩|⟨hb,e'⟩<;>simp only [kB,hb]
   ·subst e'
    rw [hI] at hi;injection hi with hi;injection hi with he hi;injection hi with Mr hg
    have h0:r.cells= []:=List.length_eq_zero_iff.1 Mr
    rw [h0]
    exact .rep (.sl none 0 0 _ [] [] rfl (by simp) (by simp) (by simp) (fun h=>by simp at h) (fun j u x hu=>by simp at hu))
   ·exact .cD i _ (kt id i r _ e' hi)
  | pre i k e m g l c hi hn hm hc hx hs =>
   rcases bK i id with ⟨hb,e'⟩|⟨hb,e'⟩<;>simp only [kB,hb]
   ·subst e'
    rw [hI] at hi;injection hi with hi;injection hi with he hi;injection hi with Mr hg
    obtain ⟨cur,te,fr,ja,hl,la⟩:=Bw g hg
    exact .rep (fe (r:=r) ja (Rh g hg) (r.cells.take k) 0 (by rw [List.length_take];omega) (by rw [List.length_take,he,←hn];omega) hc hx _ (fun _=>rfl) (fun j u x hu hx=>la j u x (by simpa using hu) (Es _ _ _ _ hx)))
   ·exact .pre i k _ m g l c (kt id i r _ e' hi) hn hm hc hx hs
  | dB i e hi =>
   rcases bK i id with ⟨hb,e'⟩|⟨hb,e'⟩<;>simp only [kB,hb]
   ·simp only [List.take_zero]
    exact .rep (.sl none 0 0 _ [] [] rfl (by simp) (by simp) (by simp) (fun h=>by simp at h) (fun j u x hu=>by simp at hu))
   ·exact .dB i _ (kt id i r _ e' hi)
  | js i off k e m l c g A hi hn hm hc hx ha =>
   rcases bK i id with ⟨hb,e'⟩|⟨hb,e'⟩<;>simp only [kB,hb]
   ·subst e'
    rw [hI] at hi;injection hi with hi;injection hi with he hi;injection hi with Mr hg
    have hlen:((r.cells.drop off).take k).length=k:=by rw [List.length_take,List.length_drop];omega
    by_cases hk:0<k
    ·obtain ⟨b,kP,hA⟩:=ha hk
     rw [kP] at hg
     obtain ⟨cur,te,fr,ja,hl,la⟩:=Bw b hg
     exact .rep (fe (r:=r) ja (Rh b hg) ((r.cells.drop off).take k) off (by rw [hlen];omega) (by rw [hlen,he,←hn]) hc hx _ (fun _=>hA) (fun j u x hu hx=>la (off+j) u x hu (by have:=Es _ _ _ _ hx;rw [List.getElem?_drop] at this;exact this)))
    ·have h0:(r.cells.drop off).take k= []:=List.length_eq_zero_iff.1 ah
     rw [h0]
     exact .rep (.sl A l c r.e [] [] rfl (by rw [he];simp;omega) hc hx (fun h=>by simp at h) (fun j u x hu=>by simp at hu))
   ·exact .js i off k _ m l c g A (kt id i r _ e' hi) hn hm hc hx ha
  | addr i off e m g hi =>
   rcases bK i id with ⟨hb,e'⟩|⟨hb,e'⟩<;>simp only [kB,hb]
   ·subst e'
    rw [hI] at hi;injection hi with hi;injection hi with he hi;injection hi with Mr hg
    obtain ⟨cur,te,fr,ja,hl,la⟩:=Bw g hg
    exact .rep (pj ja (Rh g hg) r.cells hl la)
   ·exact .addr i off _ m g (kt id i r _ e' hi)
  | dead v=>exact .dead _
 refine ⟨h.jS,h.jV,h.cZ,fun i av hi=>?_,fun i q hq=>?_,fun i hi=>?_,fun i j g hi hj=>?_,fun i g hi=>?_,fun i g hi=>?_,h.new⟩
 ·unfold gq at hi
  rw [cy] at hi
  cases hl:look s.F i with
  | none=>rw [hl] at hi;cases hi
  | some x =>
   rw [hl] at hi;injection hi with hi;subst hi
   exact ok.two (h.cC i x hl) (fun _=>rfl) (An id r) (fun _=>rfl) (Am id r)
 ·have iq:=hq
  unfold gq at iq
  rw [cy,bJ] at iq
  by_cases cW:id=i
  ·rw [if_pos cW] at iq;cases iq
  ·rw [if_neg cW] at iq
   cases hl:look s.H i with
   | none=>rw [hl] at iq;cases iq
   | some p =>
    rw [hl] at iq;injection iq with iq;subst iq
    have gO:=h.rows i p hl
    have C6:erase φ id i=φ i:=by unfold erase;rw [if_neg (Ne.symm cW)]
    rw [C6]
    unfold bR at gO ⊢
    cases hb:φ i with
    | none =>
     rw [hb] at gO
     have:=(gw id r p).2.1
     simp only at gO ⊢
     rw [gO] at this;exact List.length_eq_zero_iff.1 this
    | some g =>
     rw [hb] at gO
     obtain ⟨cur,te,fr,hg,hf,hlen,m7,hc⟩:=gO
     refine ⟨cur,te,fr,hg,hf,by rw [(gw id r p).2.1];exact hlen,by rw [(gw id r p).2.1,(gw id r p).2.2.2];exact m7,fun j u x hu hx=>?_⟩
     rw [(gw id r p).2.2.1]
     unfold bh
     cases EZ:p.pure with
     | true =>
      have:fR id r p=p:=by unfold fR;rw [EZ]
      rw [this] at hx
      have:=hc j u x hu hx
      unfold bh at this;rw [EZ] at this
      exact this.mono NV
     | false =>
      have:(fR id r p).cells=p.cells.map (kB id r):=by unfold fR;rw [EZ]
      rw [this,List.getElem?_map] at hx
      cases hj:p.cells[j]? with
      | none=>rw [hj] at hx;cases hx
      | some y =>
       rw [hj] at hx;injection hx with hx;subst hx
       have:=hc j u y hu hj
       unfold bh at this;rw [EZ] at this
       exact ok.all this
 ·unfold gq at hi
  rw [cy,bJ] at hi
  unfold erase
  by_cases cW:id=i
  ·rw [if_pos cW.symm]
  ·rw [if_neg cW] at hi
   rw [if_neg (Ne.symm cW)]
   refine h.only i ?_
   cases hl:look s.H i with
   | none=>rfl
   | some r=>rw [hl] at hi;cases hi
 ·unfold erase at hi hj
  split at hi
  ·cases hi
  ·split at hj
   ·cases hj
   ·exact h.inj i j g hi hj
 ·unfold erase at hi
  split at hi
  ·cases hi
  ·exact h.cY i g hi
 ·unfold erase at hi
  split at hi
  ·cases hi
  ·exact h.apart i g hi
end
def bz:List Prop->Prop
 | []=>True
 | p::l=>p∧bz l
structure Hint where
 av:Option AV:=none
 k:Nat:=0
 m:Nat:=0
 b:Bool:=true
 g:Bool:=true
 ln:List (Nat×Nat):=[]
 ho:List (Nat×Row):=[]
def kf {α:Type} (P:Program):Sem α->Option α
 | .pure a=>some a
 | .program k=>kf P (k P)
 | .mark _ k=>kf P k
 | _=>none
theorem fO {α:Type} {P:Program} (w:World):∀ {x:Sem α} {a:α},kf P x=some a->x.run P w= .ok a w
 | .pure a,_,h=>by injection h with h;subst h;rfl
 | .program k,a,h=>by show (k P).run P w=_;exact fO w h
 | .mark _ k,a,h=>by show k.run P w=_;exact fO w h
 | .load ..,_,h| .store ..,_,h| .new ..,_,h| .shape ..,_,h| .freeze ..,_,h| .frozen ..,_,h| .getObj ..,_,h| .setObj ..,_,h| .choose ..,_,h| .sys ..,_,h| .halt ..,_,h=>by cases h
def bE:Value->AV
 | .slice none 0 0=>.nil
 | v=>.val v
def zw:Value->AV
 | .agg cs=>.agg (cs.toList.map bE)
 | v=>bE v
def bp (s:AS):Operand->AV
 | .tmp t=>jU s t
 | .const v=>zw v
 | .global _=>.dead
 | .func f=>.val (.func (.func f) #[] #[])
section
variable {I:Info} {S:Nat->Prop} {w:World}
theorem fV (v:Value):cB S w v (bE v):=by
 unfold bE
 split
 ·exact .nil
 ·exact .val _
theorem FO (v:Value):cB S w v (zw v):=by
 unfold zw
 split
 ·rename_i cs
  have:=cB.agg (S:=S) (w:=w) cs.toList (cs.toList.map bE) (by simp) (fun j v c hv hc=>by
   rw [List.getElem?_map,hv] at hc
   injection hc with hc;subst hc;exact fV v)
  simpa using this
 ·exact fV _
end
section
variable {S0:bn} {w0 w:World} {n:Nat} {O:List Nat} {s:AS} {a:Act} {φ:Nat->Option Nat} {P:Program}
theorem aO.bp (h:aO S0 w0 n O s a w φ) (x:Operand):Den (az s.H φ) (aQ S0 w φ O) w (a.eval x) (bp s x):=by
 cases x with
 | tmp t=>exact h.get t
 | const v=>exact .rep (FO v)
 | global g=>exact .dead _
 | func f=>exact .rep (.val _)
end
theorem bM {I:Info} {S:Nat->Prop} {w:World} {v u:Value} (h:Den I S w v (.val u)):v=u:=by
 cases h with|rep h=>cases h;rfl
def dc (P:Program) (s:AS) (o:Oper) (x:AV) (C:List Prop):Prop :=
 bz C-> ∀S0 w0 n O a w φ,aO S0 w0 n O s a w φ-> ∃v,(execOp a.eval o).run P w= .ok (.value v) w∧Den (az s.H φ) (aQ S0 w φ O) w v x
def fin (h:Hint) (r:AV×List Prop):AV×List Prop:=match h.av with|none=>r|some y=>(y,(r.1=y)::r.2)
theorem gD {P:Program} {s:AS} {o:Oper} {h:Hint} {r:AV×List Prop} (hr:dc P s o r.1 r.2):dc P s o (fin h r).1 (fin h r).2:=by
 unfold fin
 split
 ·exact hr
 ·rename_i y _
  intro hC
  obtain ⟨rfl,hC⟩:=hC
  exact hr hC
def eC (P:Program) (t:TypeId):Option Nat:=(P.info? t).map (·.size)
def cF (P:Program) (t:TypeId):Bool:=match P.underlying t with|some (.struct _)|some (.array _ _)=>true|_=>false
def Iz (P:Program) (t:TypeId):Bool:=match P.underlying t with|some (.array _ _)=>true|_=>false
def Uq (P:Program) (t:TypeId):Option TypeId:=match P.underlying t with|some (.slice e)=>some e|_=>none
section
variable {P:Program} {w:World}
theorem run_sizeOf {t:TypeId} {k:Nat} (h:eC P t=some k):(sizeOf t).run P w= .ok k w:=by
 unfold eC at h
 cases hi:P.info? t with
 | none=>rw [hi] at h;cases h
 | some i=>rw [hi] at h;injection h with h;simp [sizeOf,typeInfo,hi,h]
theorem iz {t:TypeId} (hu:∃d,P.underlying t=some d):(isAgg t).run P w= .ok (cF P t) w:=by
 obtain ⟨d,hd⟩:=hu
 unfold isAgg cF
 simp only [Sem.run_bind,run_underlying hd,Result.andThen_ok,hd]
 cases d<;>rfl
end
def JE (P:Program) (op:BinOp) (t:TypeId) (x y:Operand) (u v:Value):Option (AV×List Prop) :=
 match op,u,v with
 | .quo,.int k a,.int k' b=>if k=k' then some (.val (.int k (k.wrap (a.tdiv b))),[b≠0]) else none
 | .rem,.int k a,.int k' b=>if k=k' then some (.val (.int k (a.tmod b)),[b≠0]) else none
 | .shl,.int k a,.int _ b=>some (.val (.int k (k.wrap (a*2^min b.toNat k.bits))),[0≤b])
 | .shr,.int k a,.int _ b=>some (.val (.int k (a.fdiv (2^min b.toNat k.bits))),[0≤b])
 | .add,.string a,.string b=>some (.val (.string (a++b)),[a.size+b.size≤9223372036854775807])
 | op,u,v=>match kf P (do eqGuard op t x y u v;binOp op t u v) with|some z=>some (.val z,[])|none=>none
theorem JD {P:Program} {s:AS} {o:Oper} {op:BinOp} {t t':TypeId} {x y:Operand} {u v:Value} {r:AV×List Prop} (ho:o.op= .binOp op t x y t') (hx:bp s x= .val u) (hy:bp s y= .val v) (h:JE P op t x y u v=some r):dc P s o r.1 r.2:=by
 intro hC S0 w0 n O a w φ hs
 have ex:a.eval x=u:=bM (hx ▸ hs.bp x)
 have ey:a.eval y=v:=bM (hy ▸ hs.bp y)
 unfold execOp
 simp only [ho,ex,ey]
 unfold JE at h
 split at h
 ·split at h
  ·rename_i hk
   injection h with h;subst h;subst hk
   have hb:=hC.1
   refine ⟨_,?_,.rep (.val _)⟩
   simp [eqGuard,binOp,Op.intDiv,hb]
  ·cases h
 ·split at h
  ·rename_i hk
   injection h with h;subst h;subst hk
   have hb:=hC.1
   refine ⟨_,?_,.rep (.val _)⟩
   simp [eqGuard,binOp,Op.intDiv,hb]
  ·cases h
 ·injection h with h;subst h
  have hb:¬(_:Int)<0:=Int.not_lt.2 hC.1
  refine ⟨_,?_,.rep (.val _)⟩
  simp [eqGuard,binOp,Op.shift,hb]
 ·injection h with h;subst h
  have hb:¬(_:Int)<0:=Int.not_lt.2 hC.1
  refine ⟨_,?_,.rep (.val _)⟩
  simp [eqGuard,binOp,Op.shift,hb]
 ·injection h with h;subst h
  have hb:¬(IntKind.i64.max<((_:Nat):Int)):=fun q=>by
   have h1:=hC.1
   have h2:IntKind.i64.max=9223372036854775807:=rfl
   rw [h2] at q
   exact absurd (Int.ofNat_le.2 h1) (Int.not_le.2 q)
  refine ⟨_,?_,.rep (.val _)⟩
  simp only [eqGuard,binOp,Op.stringOp,gt_iff_lt,if_neg hb]
  simp
 ·split at h
  ·rename_i z hz
   injection h with h;subst h
   refine ⟨z,?_,.rep (.val _)⟩
   rw [Sem.run_bind,fO w hz];rfl
  ·cases h
def N9 (P:Program) (op:UnOp) (u:Value):Option (AV×List Prop):=match kf P (Op.unary op u) with|some z=>some (.val z,[])|none=>none
theorem LL {P:Program} {s:AS} {o:Oper} {op:UnOp} {t:TypeId} {x:Operand} {u:Value} {r:AV×List Prop} (ho:o.op= .unOp op t x) (hx:bp s x= .val u) (h:N9 P op u=some r):dc P s o r.1 r.2:=by
 intro hC S0 w0 n O a w φ hs
 have ex:a.eval x=u:=bM (hx ▸ hs.bp x)
 unfold execOp
 simp only [ho,ex]
 unfold N9 at h
 split at h
 ·rename_i z hz
  injection h with h;subst h
  refine ⟨z,?_,.rep (.val _)⟩
  rw [Sem.run_bind,fO w hz];rfl
 ·cases h
def jG (s:AS):AV->Option AV
 | .ref id=>match look s.H id with|some r=>(match r.pure with|true=>some (.sl r.e r.cells)|false=>none)|none=>none
 | .pre id n=>match look s.H id with|some r=>(match r.pure with|true=>some (.sl r.e (r.cells.take n))|false=>none)|none=>none
 | .js id o n=>match look s.H id with|some r=>(match r.pure with|true=>some (.sl r.e ((r.cells.drop o).take n))|false=>none)|none=>none
 | .addr id o=>match look s.H id with|some r=>(match r.pure with|true=>some (.ptr r.cells o)|false=>none)|none=>none
 | .agg _=>none
 | .bk _=>none
 | .dead=>none
 | .own _ _=>none
 | .box _=>none
 | x=>some x
def oO (s:AS):List AV->Option (List AV)
 | []=>some []
 | x::l=>match jG s x,oO s l with|some y,some m=>some (y::m)|_,_=>none
def view (s:AS):AV->Option AV
 | .agg cs=>match oO s cs with|some l=>some (.agg l)|none=>none
 | x=>jG s x
section
variable {S0:bn} {w0 w:World} {n:Nat} {O:List Nat} {s:AS} {a:Act} {φ:Nat->Option Nat} {P:Program}
theorem kG (h:aO S0 w0 n O s a w φ) {id:Nat} {r:Row} {g:Nat} (hr:look s.H id=some r) (hp:r.pure=true) (hg:φ id=some g) :
  ∃cur te fr,w.heap[g]?=some (.cells cur te fr)∧(∀j,j<cur.size-> ¬(fr.1≤j∧j<fr.2))∧r.cells.length≤cur.size∧ ∀(j:Nat) u x,cur[j]?=some u->r.cells[j]?=some x->cB (aQ S0 w φ O) w u x:=by
 have aR:=h.rows id r hr
 unfold bR at aR
 rw [hg] at aR
 obtain ⟨cur,te,fr,ja,hf,hl,-,hc⟩:=aR
 refine ⟨cur,te,fr,ja,hf,hl,fun j u x hu hx=>?_⟩
 have:=hc j u x hu hx
 unfold bh at this;rw [hp] at this
 exact this
theorem qt (b:Nat) (h:aQ S0 w φ O b):b<w.heap.size∧w.heap[b]?=w.heap[b]?:=⟨h.1,rfl⟩
theorem bZ {α:Type} (l:List α) (k j:Nat) (x:α) (hx:(l.take k)[j]?=some x):l[j]?=some x:=by
 rw [List.getElem?_take] at hx
 split at hx
 ·exact hx
 ·cases hx
theorem iN {S:Nat->Prop} (A:Option Addr) (l c e:Nat) (hn:0=e*l) (hc:l≤c) (hm:c≤maxLen):cB S w (.slice A l c) (.sl e []) :=
 .sl A l c e [] [] rfl hn hc hm (fun h=>by simp at h) (fun j u x hu=>by simp at hu)
theorem Aj (h:aO S0 w0 n O s a w φ) {v:Value} {x y:AV} (hx:Den (az s.H φ) (aQ S0 w φ O) w v x) (hv:jG s x=some y):cB (fun b=>b<w.heap.size) w v y:=by
 cases hx with
 | rep h =>
  have:=h.mono (qt (w:=w) (φ:=φ) (O:=O))
  cases h<;>simp [jG] at hv<;>subst hv<;>exact this
 | agg vs cs _ _=>simp [jG] at hv
 | bk vs cs _ _=>simp [jG] at hv
 | dead v=>simp [jG] at hv
 | ref id e m g l c hi hm hc hx hs =>
  obtain ⟨r,hr,he,ml,ct⟩:=aT hi
  simp only [jG,hr] at hv
  cases hp:r.pure with
  | false=>rw [hp] at hv;cases hv
  | true =>
   rw [hp] at hv;injection hv with hv;subst hv
   obtain ⟨cur,te,fr,hg,hf,hl,la⟩:=kG h hr hp ct
   exact fe (r:=r) hg (h.cY id g ct).2 r.cells 0 ah (by rw [ml,he];exact hm) hc hx _ (fun _=>rfl) (fun j u x hu hx=>(la j u x (by simpa using hu) hx).mono qt)
 | cD id e hi =>
  obtain ⟨r,hr,he,ml,ct⟩:=aT hi
  simp only [jG,hr] at hv
  cases hp:r.pure with
  | false=>rw [hp] at hv;cases hv
  | true =>
   rw [hp] at hv;injection hv with hv;subst hv
   rw [List.length_eq_zero_iff.1 ml]
   exact iN _ _ _ _ (by simp) (by simp) (by simp)
 | pre id k e m g l c hi hn hm hc hx hs =>
  obtain ⟨r,hr,he,ml,ct⟩:=aT hi
  simp only [jG,hr] at hv
  cases hp:r.pure with
  | false=>rw [hp] at hv;cases hv
  | true =>
   rw [hp] at hv;injection hv with hv;subst hv
   obtain ⟨cur,te,fr,hg,hf,hl,la⟩:=kG h hr hp ct
   exact fe (r:=r) hg (h.cY id g ct).2 (r.cells.take k) 0 (by rw [List.length_take];omega) (by rw [List.length_take,he,←hn];omega) hc hx _ (fun _=>rfl) (fun j u x hu hx=>(la j u x (by simpa using hu) (bZ _ _ _ _ hx)).mono qt)
 | dB id e hi =>
  obtain ⟨r,hr,he,ml,ct⟩:=aT hi
  simp only [jG,hr] at hv
  cases hp:r.pure with
  | false=>rw [hp] at hv;cases hv
  | true =>
   rw [hp] at hv;injection hv with hv;subst hv
   simp only [List.take_zero]
   exact iN _ _ _ _ (by simp) (by simp) (by simp)
 | js id off k e m l c g A hi hn hm hc hx ha =>
  obtain ⟨r,hr,he,ml,ct⟩:=aT hi
  simp only [jG,hr] at hv
  cases hp:r.pure with
  | false=>rw [hp] at hv;cases hv
  | true =>
   rw [hp] at hv;injection hv with hv;subst hv
   have hlen:((r.cells.drop off).take k).length=k:=by rw [List.length_take,List.length_drop];omega
   by_cases hk:0<k
   ·obtain ⟨b,hb,hA⟩:=ha hk
    rw [hb] at ct
    obtain ⟨cur,te,fr,hg,hf,hl,la⟩:=kG h hr hp ct
    exact fe (r:=r) hg (h.cY id b ct).2 ((r.cells.drop off).take k) off (by rw [hlen];omega) (by rw [hlen,he,←hn]) hc hx _ (fun _=>hA) (fun j u x hu hx=>(la (off+j) u x hu (by have:=bZ _ _ _ _ hx;rw [List.getElem?_drop] at this;exact this)).mono qt)
   ·rw [show (r.cells.drop off).take k= [] from List.length_eq_zero_iff.1 ah]
    exact iN _ _ _ _ (by rw [he];omega) hc hx
 | addr id off e m g hi =>
  obtain ⟨r,hr,he,ml,ct⟩:=aT hi
  simp only [jG,hr] at hv
  cases hp:r.pure with
  | false=>rw [hp] at hv;cases hv
  | true =>
   rw [hp] at hv;injection hv with hv;subst hv
   obtain ⟨cur,te,fr,hg,hf,hl,la⟩:=kG h hr hp ct
   exact pj hg (h.cY id g ct).2 r.cells hl (fun j u x hu hx=>(la j u x hu hx).mono qt)
theorem Ai (h:aO S0 w0 n O s a w φ):∀(cs l:List AV) (vs:List Value),oO s cs=some l->vs.length=cs.length->(∀(j:Nat) v c,vs[j]?=some v->cs[j]?=some c->Den (az s.H φ) (aQ S0 w φ O) w v c) ->
  l.length=cs.length∧ ∀(j:Nat) v c,vs[j]?=some v->l[j]?=some c->cB (fun b=>b<w.heap.size) w v c
 | [],l,vs,hv,hl,hd=>by simp [oO] at hv;subst hv;exact ⟨rfl,fun j v c _ hc=>by simp at hc⟩
 | x::cs,l,[],hv,hl,hd=>by simp at hl
 | x::cs,l,v0::vs,hv,hl,hd=>by
  simp only [oO] at hv
  cases h1:jG s x with
  | none=>rw [h1] at hv;cases hv
  | some y =>
   cases h2:oO s cs with
   | none=>rw [h1,h2] at hv;cases hv
   | some m =>
    rw [h1,h2] at hv;injection hv with hv;subst hv
    obtain ⟨e1,e2⟩:=Ai h cs m vs h2 (by simpa using hl) fun j v c hv hc=>hd (j+1) v c (by simpa using hv) (by simpa using hc)
    refine ⟨by simp [e1],fun j v c hv hc=>?_⟩
    cases j with
    | zero=>simp at hv hc;subst hv;subst hc;exact Aj h (hd 0 _ _ rfl rfl) h1
    | succ j=>exact e2 j v c (by simpa using hv) (by simpa using hc)
theorem xG (h:aO S0 w0 n O s a w φ) {v:Value} {x y:AV} (hx:Den (az s.H φ) (aQ S0 w φ O) w v x) (hv:view s x=some y):cB (fun b=>b<w.heap.size) w v y:=by
 by_cases hc:∃cs,x= .agg cs
 ·obtain ⟨cs,rfl⟩:=hc
  obtain ⟨vs,rfl,hl,hd⟩:=ko hx
  simp only [view] at hv
  cases h1:oO s cs with
  | none=>rw [h1] at hv;cases hv
  | some l =>
   rw [h1] at hv;injection hv with hv;subst hv
   obtain ⟨e1,e2⟩:=Ai h cs l vs h1 hl hd
   exact .agg vs l ah e2
 ·have:view s x=jG s x:=by
   cases x with
   | agg cs=>exact absurd ⟨cs,rfl⟩ hc
   | _=>rfl
  rw [this] at hv
  exact Aj h hx hv
end
def ag (bs:List UInt8):List AV:=bs.map fun c=>.val (.int .u8 (bv c))
def aj (l:List UInt64):List AV:=l.map fun c=>.val (.int .u64 (wv c))
def au (l:List Int):List AV:=l.map fun c=>.val (.int .i64 c)
theorem aD (l:List UInt8):(ag l).length=l.length:=by simp [ag]
theorem aC (l:List UInt64):(aj l).length=l.length:=by simp [aj]
theorem ks (l:List Int):(au l).length=l.length:=by simp [au]
theorem wW {S:Nat->Prop} {w:World} {v:Value} {bs:List UInt8} (h:cB S w v (.sl 1 (ag bs))) (hS:∀b,S b->b<w.heap.size):i4 w v (sM bs):=by
 cases h with
 | sl A n c e us row hl hn hc hm ha h =>
  have Gc:us=sM bs:=by
   apply List.ext_getElem?
   intro j
   cases hu:us[j]? with
   | none =>
    have:us.length≤j:=List.getElem?_eq_none_iff.1 hu
    rw [List.getElem?_eq_none (by rw [gn];rw [aD] at hl;omega)]
   | some u =>
    have hj:j<bs.length:=by have:=(List.getElem?_eq_some_iff.1 hu).1;rw [hl,aD] at this;exact this
    have hx:(ag bs)[j]?=some (.val (.int .u8 (bv bs[j]))):=by simp [ag,hj]
    have:=h j u _ hu hx
    cases this
    simp [sM,hj]
  subst Gc
  rw [aD] at hn ha
  have sV:bs.length=n:=ah
  subst sV
  refine ⟨A,c,by rw [gn],by rw [gn];exact hc,hm,by rw [gn],fun h0=>?_⟩
  rw [gn] at h0
  obtain ⟨ad,e,hs,bw⟩:=ha h0
  exact ⟨ad,e,hS _ hs,bw⟩
def DG (P:Program) (s:AS) (src dst:TypeId) (x:AV) (h:Hint):Option (AV×List Prop) :=
 match x with
 | .val u=>(match kf P (convert src dst u) with|some z=>some (fin h (.val z,[]))|none=>none)
 | x =>
  match P.underlying src,P.underlying dst,view s x,h.av with
  | some (.slice e),some .string,some (.sl 1 row),some (.val (.string b)) =>
   (match P.underlying e with|some (.int .u8)=>some (.val (.string b),[row=ag b.data.toList])|_=>none)
  | _,_,_,_=>none
theorem GH {P:Program} {s:AS} {o:Oper} {src dst:TypeId} {x:Operand} {h:Hint} {r:AV×List Prop} (ho:o.op= .convert src dst x) (hr:DG P s src dst (bp s x) h=some r):dc P s o r.1 r.2:=by
 unfold DG at hr
 split at hr
 ·rename_i u hx
  split at hr
  ·rename_i z hz
   injection hr with hr;subst hr
   apply gD
   intro hC S0 w0 n O a w φ hs
   have ex:a.eval x=u:=bM (hx ▸ hs.bp x)
   unfold execOp
   simp only [ho,ex]
   refine ⟨z,?_,.rep (.val _)⟩
   rw [Sem.run_bind,fO w hz];rfl
  ·cases hr
 ·split at hr
  ·rename_i e row b h1 h2 h3 h4
   split at hr
   ·rename_i h5
    injection hr with hr;subst hr
    intro hC S0 w0 n O a w φ hs
    have hv:=xG hs (hs.bp x) h3
    rw [hC.1] at hv
    have cw:=vU (P:=P) (wW hv (fun _ h=>h)) src dst e h1 h5 h2
    unfold execOp
    simp only [ho]
    refine ⟨.string b,?_,.rep (.val _)⟩
    rw [Sem.run_bind,cw];rfl
   ·cases hr
  ·cases hr
def cV:Nat->Nat->Nat
 | k,1=>k
 | k,e=>k*e
theorem bx (k e:Nat):cV k e=k*e:=by
 unfold cV
 split<;>simp
def pD (P:Program) (t:TypeId) (pure:Bool) (cells:List AV) (off:Nat) (h:Hint):Option (AV×List Prop) :=
 match eC P t,P.underlying t with
 | some sz,some d =>
  (match d with
  | .struct _=>(match h.av with
   | some (.agg cs)=>some (.agg cs,[(cells.drop off).take sz=cs,cs.length=sz])
   | some _=>none
   | none=>(match Nat.beq ((cells.drop off).take sz).length sz with|true=>some (.agg ((cells.drop off).take sz),[])|false=>none))
  | .array _ _=>(match h.av,pure with
   | some (.arr cs),true=>some (.arr cs,[(cells.drop off).take sz=cs,cs.length=sz])
   | some (.agg cs),_=>some (.agg cs,[(cells.drop off).take sz=cs,cs.length=sz])
   | _,_=>none)
  | _=>(match h.av with
   | some y=>some (y,[cells[off]?=some y])
   | none=>(match cells[off]? with|some y=>some (y,[])|none=>none)))
 | _,_=>none
section
variable {P:Program} {w:World} {I:Info} {S:Nat->Prop}
theorem sR {t:TypeId} {p:Addr} {vs:List Value} {d:TypeDesc} (hd:P.underlying t=some d) (ha:cF P t=true) (hs:eC P t=some vs.length) (h:∀(j:Nat) v,vs[j]?=some v->w.cell? (p.add j)=some v) :
  (loadVar t p).run P w= .ok (.agg vs.toArray) w:=by
 unfold loadVar
 rw [Sem.run_bind,iz ⟨d,hd⟩]
 simp only [Result.andThen_ok,ha,if_true]
 rw [Sem.run_bind,run_sizeOf hs]
 simp only [Result.andThen_ok]
 rw [Sem.run_bind,run_loadCells_list w p vs h]
 rfl
theorem sQ {t:TypeId} {p:Addr} {v:Value} {d:TypeDesc} (hd:P.underlying t=some d) (ha:cF P t=false) (h:w.cell? p=some v) :
  (loadVar t p).run P w= .ok v w:=by
 unfold loadVar
 rw [Sem.run_bind,iz ⟨d,hd⟩]
 simp [ha,h]
theorem bV {α:Type} (l:List α) (off k j:Nat) (x:α) (hx:((l.drop off).take k)[j]?=some x):l[off+j]?=some x:=by
 have:=bZ _ _ _ _ hx
 rw [List.getElem?_drop] at this;exact this
theorem dz (p:Addr):p.add 0=p:=by simp [Addr.add]
theorem rM {t:TypeId} {pure:Bool} {cells:List AV} {off:Nat} {h:Hint} {r:AV×List Prop} (hr:pD P t pure cells off h=some r) (hC:bz r.2) (p:Addr) (us:List Value) (hl:cells.length≤us.length)
  (bw:∀(j:Nat) u,us[off+j]?=some u->w.cell? (p.add j)=some u) (hd:∀(j:Nat) u x,us[j]?=some u->cells[j]?=some x->bh I S w pure u x) :
  ∃v,(loadVar t p).run P w= .ok v w∧Den I S w v r.1:=by
 have den:∀(j:Nat) u x,us[j]?=some u->cells[j]?=some x->Den I S w u x:=by
  intro j u x hu hx
  have:=hd j u x hu hx
  unfold bh at this
  cases pure with
  | true=>exact .rep this
  | false=>exact this
 unfold pD at hr
 split at hr
 ·rename_i sz d dw hu
  have agg:∀(cs:List AV),cF P t=true->(cells.drop off).take sz=cs->cs.length=sz-> ∃vs:List Value,vs=(us.drop off).take sz∧(loadVar t p).run P w= .ok (.agg vs.toArray) w∧vs.length=cs.length∧(∀(j:Nat) v c,vs[j]?=some v->cs[j]?=some c->us[off+j]?=some v∧cells[off+j]?=some c):=by
   intro cs ha he hlen
   have Gh:cs.length=min sz (cells.length-off):=by rw [←he,List.length_take,List.length_drop]
   have OS:((us.drop off).take sz).length=sz:=by rw [List.length_take,List.length_drop];omega
   refine ⟨_,rfl,sR hu ha (by rw [OS];exact dw) (fun j v hv=>bw j v (bV _ _ _ _ _ hv)),ah,fun j v c hv hc=>⟨bV _ _ _ _ _ hv,?_⟩⟩
   rw [←he] at hc;exact bV _ _ _ _ _ hc
  have one:∀y,cF P t=false->cells[off]?=some y-> ∃v,(loadVar t p).run P w= .ok v w∧Den I S w v y:=by
   intro y ha hy
   have dk:off<us.length:=by have:=(List.getElem?_eq_some_iff.1 hy).1;omega
   have hv:us[off]?=some us[off]:=List.getElem?_eq_getElem dk
   refine ⟨us[off],sQ hu ha ?_,den off _ y hv hy⟩
   have:=bw 0 us[off] (by simp)
   rw [dz] at this;exact this
  split at hr
  ·have ha:cF P t=true:=by unfold cF;rw [hu]
   split at hr
   ·rename_i cs _
    injection hr with hr;subst hr
    obtain ⟨vs,-,h1,h2,h3⟩:=agg cs ha hC.1 hC.2.1
    exact ⟨_,h1,.agg vs cs h2 fun j v c hv hc=>den _ _ _ (h3 j v c hv hc).1 (h3 j v c hv hc).2⟩
   ·cases hr
   ·split at hr
    ·rename_i hb
     injection hr with hr;subst hr
     obtain ⟨vs,-,h1,h2,h3⟩:=agg _ ha rfl (Nat.eq_of_beq_eq_true hb)
     exact ⟨_,h1,.agg vs _ h2 fun j v c hv hc=>den _ _ _ (h3 j v c hv hc).1 (h3 j v c hv hc).2⟩
    ·cases hr
  ·have ha:cF P t=true:=by unfold cF;rw [hu]
   split at hr
   ·rename_i cs _
    injection hr with hr;subst hr
    obtain ⟨vs,-,h1,h2,h3⟩:=agg cs ha hC.1 hC.2.1
    exact ⟨_,h1,.rep (.arr vs cs h2 fun j v c hv hc=>by have:=hd _ _ _ (h3 j v c hv hc).1 (h3 j v c hv hc).2;exact this)⟩
   ·rename_i cs _
    injection hr with hr;subst hr
    obtain ⟨vs,-,h1,h2,h3⟩:=agg cs ha hC.1 hC.2.1
    exact ⟨_,h1,.agg vs cs h2 fun j v c hv hc=>den _ _ _ (h3 j v c hv hc).1 (h3 j v c hv hc).2⟩
   ·cases hr
  ·rename_i OP P7
   have ha:cF P t=false:=by
    unfold cF;rw [hu]
    cases d<;>first|rfl|exact absurd rfl (OP _)|exact absurd rfl (P7 _ _)
   split at hr
   ·injection hr with hr;subst hr
    exact one _ ha hC.1
   ·split at hr
    ·rename_i y hy
     injection hr with hr;subst hr
     exact one _ ha hy
    ·cases hr
 ·cases hr
end
def Du (P:Program) (s:AS) (t:TypeId) (x:AV) (h:Hint):Option (AV×List Prop) :=
 match x with
 | .ptr row off=>pD P t true row off h
 | .addr id off=>(match look s.H id with|some r=>pD P t r.pure r.cells off h|none=>none)
 | _=>none
section
variable {P:Program} {s:AS} {o:Oper} {h:Hint} {r:AV×List Prop}
theorem tx {I:Info} {S:Nat->Prop} {w:World} {v:Value} {row:List AV} {off:Nat} (h:Den I S w v (.ptr row off)):∃(ad:Addr) (us:List Value),v= .pointer (some (ad.add off))∧us.length=row.length∧S ad.block∧(∀(j:Nat) u,us[j]?=some u->w.cell? (ad.add j)=some u)∧ ∀(j:Nat) u x,us[j]?=some u->row[j]?=some x->cB S w u x:=by
 cases h with|rep h=>cases h with|ptr ad us _ _ hl hs ha h=>exact ⟨ad,us,rfl,hl,hs,ha,h⟩
theorem jR {I:Info} {S:Nat->Prop} {w:World} {v:Value} {id off:Nat} (h:Den I S w v (.addr id off)):∃e m g,I id=some (e,m,some g)∧v= .pointer (some ⟨g,off,none⟩):=by
 cases h with
 | rep h=>cases h
 | addr id off e m g hi=>exact ⟨e,m,g,hi,rfl⟩
theorem mh (g o j:Nat):(⟨g,o,none⟩:Addr).add j=⟨g,o+j,none⟩:=by unfold Addr.add;split<;>simp_all
theorem Gz {t:TypeId} {x:Operand} (ho:o.op= .load t x) (hr:Du P s t (bp s x) h=some r):dc P s o r.1 r.2:=by
 intro hC S0 w0 n O a w φ hs
 have hx:=hs.bp x
 unfold execOp
 simp only [ho]
 unfold Du at hr
 split at hr
 ·rename_i row off he
  rw [he] at hx
  obtain ⟨ad,us,hv,hl,hS,bw,b_⟩:=tx hx
  obtain ⟨v,h1,h2⟩:=rM (I:=az s.H φ) (S:=aQ S0 w φ O) hr hC (ad.add off) us ah (fun j u hu=>by rw [mX];exact bw _ u hu) (fun j u x hu hx=>by show cB _ _ _ _;exact b_ j u x hu hx)
  refine ⟨v,?_,h2⟩
  simp only [Instr.loadAt,hv,Instr.sureAddr,Sem.run_bind,Sem.run_pure,Result.andThen_ok,h1]
 ·rename_i id off he
  rw [he] at hx
  obtain ⟨e,m,g,hi,hv⟩:=jR hx
  obtain ⟨q,hq,-,-,ct⟩:=aT hi
  rw [hq] at hr
  have aR:=hs.rows id q hq
  unfold bR at aR
  rw [ct] at aR
  obtain ⟨cur,te,fr,hg,hf,hl,-,hc⟩:=aR
  obtain ⟨v,h1,h2⟩:=rM (I:=az s.H φ) (S:=aQ S0 w φ O) hr hC ⟨g,off,none⟩ cur.toList hl (fun j u hu=>by rw [mh,cell_of_row w g _ cur te fr hg];simpa using hu) (fun j u x hu hx=>hc j u x (by simpa using hu) hx)
  refine ⟨v,?_,h2⟩
  simp only [Instr.loadAt,hv,Instr.sureAddr,Sem.run_bind,Sem.run_pure,Result.andThen_ok,h1]
 ·cases hr
def nV (P:Program) (t:TypeId) (x:AV) (f:Nat):Option (AV×List Prop) :=
 match P.underlying t with
 | some (.struct fields) =>
  (match fields[f]? with
  | some fd=>(match eC P fd.type with
   | some (_+1)=>(match x with
    | .ptr row off=>some (.ptr row (off+fd.offset),[])
    | .addr id off=>some (.addr id (off+fd.offset),[])
    | _=>none)
   | _=>none)
  | none=>none)
 | _=>none
theorem vp {t:TypeId} {x:Operand} {f:Nat} (ho:o.op= .fieldAddr t x f) (hr:nV P t (bp s x) f=some r):dc P s o r.1 r.2:=by
 intro hC S0 w0 n O a w φ hs
 have hx:=hs.bp x
 unfold execOp
 simp only [ho]
 unfold nV at hr
 split at hr
 ·rename_i fields hu
  split at hr
  ·rename_i fd hf
   split at hr
   ·rename_i k dw
    have hz:(sizeOf fd.type).run P w= .ok (k+1) w:=run_sizeOf dw
    split at hr
    ·rename_i row off he
     injection hr with hr;subst hr
     rw [he] at hx
     obtain ⟨ad,us,hv,hl,hS,bw,b_⟩:=tx hx
     refine ⟨.pointer (some (ad.add (off+fd.offset))),?_,.rep (.ptr ad us row _ hl hS bw b_)⟩
     simp [Instr.fieldAt,run_underlying hu,hf,hv,Instr.sureAddr,fieldPlace,hz,mX]
    ·rename_i id off he
     injection hr with hr;subst hr
     rw [he] at hx
     obtain ⟨e,m,g,hi,hv⟩:=jR hx
     refine ⟨.pointer (some ⟨g,off+fd.offset,none⟩),?_,.addr id _ e m g hi⟩
     simp [Instr.fieldAt,run_underlying hu,hf,hv,Instr.sureAddr,fieldPlace,hz,mh]
    ·cases hr
   ·cases hr
  ·cases hr
 ·cases hr
def Jy (P:Program) (s:AS) (t:TypeId) (x:AV) (n:Int) (h:Hint):Option (AV×List Prop) :=
 match P.underlying t with
 | some (.slice el) =>
  (match eC P el with
  | some (z+1)=>(match x with
   | .sl e row=>(match Nat.beq e (z+1) with|true=>some (.ptr row (cV h.k (z+1)),[n=(h.k:Int),cV h.k (z+1)<row.length])|false=>none)
   | .ref id=>(match look s.H id with|some q=>(match Nat.beq q.e (z+1) with|true=>some (.addr id (cV h.k (z+1)),[n=(h.k:Int),cV h.k (z+1)<q.cells.length])|false=>none)|none=>none)
   | .pre id l=>(match look s.H id with|some q=>(match Nat.beq q.e (z+1) with|true=>some (.addr id (cV h.k (z+1)),[n=(h.k:Int),cV h.k (z+1)<l])|false=>none)|none=>none)
   | .js id off l=>(match look s.H id with|some q=>(match Nat.beq q.e (z+1) with|true=>some (.addr id (cV h.k (z+1)+off),[n=(h.k:Int),cV h.k (z+1)<l])|false=>none)|none=>none)
   | _=>none)
  | _=>none)
 | some (.array len el) =>
  (match eC P el with
  | some (z+1)=>(match x with
   | .ptr row off=>some (.ptr row (cV h.k (z+1)+off),[n=(h.k:Int),h.k<len])
   | .addr id off=>some (.addr id (cV h.k (z+1)+off),[n=(h.k:Int),h.k<len])
   | _=>none)
  | _=>none)
 | _=>none
theorem pF {I:Info} {S:Nat->Prop} {w:World} {v:Value} {e:Nat} {row:List AV} (h:Den I S w v (.sl e row)):cB S w v (.sl e row):=by
 cases h with|rep h=>exact h
theorem og {k z l e m:Nat} (h:cV k (z+1)<m) (hm:m=e*l) (he:e=z+1):k<l:=by
 rw [bx,hm,he,Nat.mul_comm] at h
 exact Nat.lt_of_mul_lt_mul_left h
theorem Jx {t:TypeId} {x i:Operand} {k:IntKind} {n:Int} (ho:o.op= .indexAddr t x i) (hi:bp s i= .val (.int k n)) (hr:Jy P s t (bp s x) n h=some r):dc P s o r.1 r.2:=by
 intro hC S0 w0 n' O a w φ hs
 have hx:=hs.bp x
 have ei:a.eval i= .int k n:=bM (hi ▸ hs.bp i)
 unfold execOp
 simp only [ho,ei]
 unfold Jy at hr
 split at hr
 ·rename_i el hu
  split at hr
  ·rename_i z dw
   have hz:(sizeOf el).run P w= .ok (z+1) w:=run_sizeOf dw
   split at hr
   ·rename_i e row he
    rw [he] at hx
    split at hr
    ·rename_i hb
     have kP:e=z+1:=Nat.eq_of_beq_eq_true hb
     injection hr with hr;subst hr
     obtain ⟨hn,dk,-⟩:=hC
     have b_:=pF hx
     cases iW:a.eval x with
     | slice A l c =>
      rw [iW] at b_
      cases b_ with
      | sl _ _ _ _ us _ hl sV hc hm ha b_ =>
       have iH:h.k<l:=og dk sV kP
       obtain ⟨ad,rfl,hS,bw⟩:=ha ah
       refine ⟨.pointer (some (ad.add (cV h.k (z+1)))),?_,.rep (.ptr ad us row _ hl hS bw b_)⟩
       have nn:0≤n∧n<(l:Int):=ah
       have hk:n.toNat=h.k:=ah
       simp [Instr.indexAt,run_underlying hu,asIntOf,nn,hz,hk,bx]
     | _=>rw [iW] at b_;cases b_
    ·cases hr
   ·rename_i id he
    rw [he] at hx
    split at hr
    ·rename_i q hq
     split at hr
     ·rename_i hb
      have kP:q.e=z+1:=Nat.eq_of_beq_eq_true hb
      injection hr with hr;subst hr
      obtain ⟨hn,dk,-⟩:=hC
      generalize a.eval x=V at hx
      cases hx with
      | rep h=>cases h
      | ref _ e m g l c hi hm hc hx b7 =>
       rw [bu hq] at hi
       injection hi with hi;injection hi with h1 hi;injection hi with h2 h3
       have iH:h.k<l:=og dk (by rw [h2];exact hm) (by rw [←h1];exact kP)
       refine ⟨.pointer (some ⟨g,cV h.k (z+1),none⟩),?_,.addr id _ q.e q.cells.length g (by rw [bu hq,h3])⟩
       have nn:0≤n∧n<(l:Int):=ah
       have hk:n.toNat=h.k:=ah
       simp [Instr.indexAt,run_underlying hu,asIntOf,nn,hz,hk,bx,fi]
      | cD _ e hi =>
       rw [bu hq] at hi
       injection hi with hi;injection hi with h1 hi;injection hi with h2 h3
       omega
     ·cases hr
    ·cases hr
   ·rename_i id l' he
    rw [he] at hx
    split at hr
    ·rename_i q hq
     split at hr
     ·rename_i hb
      have kP:q.e=z+1:=Nat.eq_of_beq_eq_true hb
      injection hr with hr;subst hr
      obtain ⟨hn,dk,-⟩:=hC
      generalize a.eval x=V at hx
      cases hx with
      | rep h=>cases h
      | pre _ _ e m g l c hi sV hm hc hx b7 =>
       rw [bu hq] at hi
       injection hi with hi;injection hi with h1 hi;injection hi with h2 h3
       have iH:h.k<l:=og dk sV (by rw [←h1];exact kP)
       refine ⟨.pointer (some ⟨g,cV h.k (z+1),none⟩),?_,.addr id _ q.e q.cells.length g (by rw [bu hq,h3])⟩
       have nn:0≤n∧n<(l:Int):=ah
       have hk:n.toNat=h.k:=ah
       simp [Instr.indexAt,run_underlying hu,asIntOf,nn,hz,hk,bx,fi]
      | dB _ e hi=>omega
     ·cases hr
    ·cases hr
   ·rename_i id off l' he
    rw [he] at hx
    split at hr
    ·rename_i q hq
     split at hr
     ·rename_i hb
      have kP:q.e=z+1:=Nat.eq_of_beq_eq_true hb
      injection hr with hr;subst hr
      obtain ⟨hn,dk,-⟩:=hC
      generalize a.eval x=V at hx
      cases hx with
      | rep h=>cases h
      | js _ _ _ e m l c g A hi sV hm hc hx ha =>
       rw [bu hq] at hi
       injection hi with hi;injection hi with h1 hi;injection hi with h2 h3
       have iH:h.k<l:=og dk sV (by rw [←h1];exact kP)
       obtain ⟨b,Ku,rfl⟩:=ha ah
       refine ⟨.pointer (some ⟨b,cV h.k (z+1)+off,none⟩),?_,.addr id _ q.e q.cells.length b (by rw [bu hq,h3,Ku])⟩
       have nn:0≤n∧n<(l:Int):=ah
       have hk:n.toNat=h.k:=ah
       simp [Instr.indexAt,run_underlying hu,asIntOf,nn,hz,hk,bx,mh,Nat.add_comm]
     ·cases hr
    ·cases hr
   ·cases hr
  ·cases hr
 ·rename_i len el hu
  split at hr
  ·rename_i z dw
   have hz:(sizeOf el).run P w= .ok (z+1) w:=run_sizeOf dw
   split at hr
   ·rename_i row off he
    rw [he] at hx
    injection hr with hr;subst hr
    obtain ⟨hn,dk,-⟩:=hC
    obtain ⟨ad,us,hv,hl,hS,bw,b_⟩:=tx hx
    refine ⟨.pointer (some (ad.add (cV h.k (z+1)+off))),?_,.rep (.ptr ad us row _ hl hS bw b_)⟩
    have nn:0≤n∧n<(len:Int):=ah
    have hk:n.toNat=h.k:=ah
    simp [Instr.indexAt,run_underlying hu,asIntOf,nn,hz,hk,hv,Instr.sureAddr,bx,mX,Nat.add_comm]
   ·rename_i id off he
    rw [he] at hx
    injection hr with hr;subst hr
    obtain ⟨hn,dk,-⟩:=hC
    obtain ⟨e,m,g,hi,hv⟩:=jR hx
    refine ⟨.pointer (some ⟨g,cV h.k (z+1)+off,none⟩),?_,.addr id _ e m g hi⟩
    have nn:0≤n∧n<(len:Int):=ah
    have hk:n.toNat=h.k:=ah
    simp [Instr.indexAt,run_underlying hu,asIntOf,nn,hz,hk,hv,Instr.sureAddr,bx,mh,Nat.add_comm]
   ·cases hr
  ·cases hr
 ·cases hr
end
section
variable {P:Program} {s:AS} {o:Oper} {h:Hint} {r:AV×List Prop}
inductive Cut where
 | all|to (n:Int)|from_ (n:Int)|both (n m:Int)
def uO:AV->Option Int
 | .val (.int _ n)=>some n
 | _=>none
def vy (s:AS) (lo hi mx:Option Operand):Option Cut :=
 match lo,hi,mx with
 | none,none,none=>some .all
 | none,some y,none=>(match uO (bp s y) with|some m=>some (.to m)|none=>none)
 | some x,none,none=>(match uO (bp s x) with|some n=>some (.from_ n)|none=>none)
 | some x,some y,none=>(match uO (bp s x),uO (bp s y) with|some n,some m=>some (.both n m)|_,_=>none)
 | _,_,_=>none
def y9 (P:Program) (s:AS) (t:TypeId) (x:AV) (c:Cut) (h:Hint):Option (AV×List Prop) :=
 match P.underlying t with
 | some .string =>
  (match x,c with
  | .val (.string b),.all=>some (.val (.string b),[])
  | .val (.string b),.to n=>some (fin h (.val (.string (b.extract 0 h.m)),[n=(h.m:Int),h.m≤b.size]))
  | .val (.string b),.from_ n=>some (fin h (.val (.string (b.extract h.k b.size)),[n=(h.k:Int),h.k≤b.size]))
  | .val (.string b),.both n n'=>some (fin h (.val (.string (b.extract h.k h.m)),[n=(h.k:Int),n'=(h.m:Int),h.k≤h.m,h.m≤b.size]))
  | _,_=>none)
 | some (.slice el) =>
  (match eC P el with
  | some (z+1)=>(match x,c with
   | .sl e row,.all=>some (fin h (.sl e row,[]))
   | .sl e row,.to n=>(match Nat.beq e (z+1) with|true=>some (fin h (.sl e (row.take (cV h.m e)),[n=(h.m:Int),cV h.m e≤row.length]))|false=>none)
   | .sl e row,.from_ n=>(match Nat.beq e (z+1) with|true=>some (fin h (.sl e (row.drop (cV h.k e)),[n=(h.k:Int),cV h.k e≤row.length]))|false=>none)
   | .sl e row,.both n n'=>(match Nat.beq e (z+1) with|true=>some (fin h (.sl e ((row.drop (cV h.k e)).take (cV (h.m-h.k) e)),[n=(h.k:Int),n'=(h.m:Int),h.k≤h.m,cV h.m e≤row.length]))|false=>none)
   | .ref id,.all=>some (.ref id,[])
   | .ref id,.to n=>(match look s.H id with|some q=>(match Nat.beq q.e (z+1) with|true=>some (.pre id (cV h.m q.e),[n=(h.m:Int),cV h.m q.e≤q.cells.length])|false=>none)|none=>none)
   | .ref id,.from_ n=>(match look s.H id with|some q=>(match Nat.beq q.e (z+1) with|true=>some (.js id (cV h.k q.e) (q.cells.length-cV h.k q.e),[n=(h.k:Int),cV h.k q.e≤q.cells.length])|false=>none)|none=>none)
   | .ref id,.both n n'=>(match look s.H id with|some q=>(match Nat.beq q.e (z+1) with|true=>some (.js id (cV h.k q.e) (cV (h.m-h.k) q.e),[n=(h.k:Int),n'=(h.m:Int),h.k≤h.m,cV h.m q.e≤q.cells.length])|false=>none)|none=>none)
   | .pre id l,.all=>some (.pre id l,[])
   | .pre id l,.to n=>(match look s.H id with|some q=>(match Nat.beq q.e (z+1) with|true=>some (.pre id (cV h.m q.e),[n=(h.m:Int),cV h.m q.e≤l])|false=>none)|none=>none)
   | _,_=>none)
  | _=>none)
 | some (.array len el) =>
  (match eC P el with
  | some (z+1)=>(match x,c with
   | .addr id 0,.all=>(match look s.H id with|some q=>(match Nat.beq q.e (z+1),q.full with|true,true=>some (.ref id,[q.cells.length=cV len q.e,len≤maxLen])|_,_=>none)|none=>none)
   | .addr id 0,.to n=>(match look s.H id with|some q=>(match Nat.beq q.e (z+1),q.full with|true,true=>some (.pre id (cV h.m q.e),[n=(h.m:Int),h.m≤len,q.cells.length=cV len q.e,len≤maxLen])|_,_=>none)|none=>none)
   | .addr id 0,.from_ n=>(match look s.H id with|some q=>(match Nat.beq q.e (z+1),q.full with|true,true=>some (.js id (cV h.k q.e) (cV (len-h.k) q.e),[n=(h.k:Int),h.k≤len,q.cells.length=cV len q.e,len≤maxLen])|_,_=>none)|none=>none)
   | .addr id 0,.both n n'=>(match look s.H id with|some q=>(match Nat.beq q.e (z+1),q.full with|true,true=>some (.js id (cV h.k q.e) (cV (h.m-h.k) q.e),[n=(h.k:Int),n'=(h.m:Int),h.k≤h.m,h.m≤len,q.cells.length=cV len q.e,len≤maxLen])|_,_=>none)|none=>none)
   | _,_=>none)
  | _=>none)
 | _=>none
def Bounds (c:Cut) (len cap:Nat) (l hi:Nat):Prop :=
 match c with
 | .all=>l=0∧hi=len
 | .to n=>l=0∧n=(hi:Int)∧hi≤cap
 | .from_ n=>n=(l:Int)∧l≤len∧hi=len
 | .both n n'=>n=(l:Int)∧n'=(hi:Int)∧l≤hi∧hi≤cap
theorem C5 {x:AV} {n:Int} (h:uO x=some n):∃k,x= .val (.int k n):=by
 unfold uO at h
 split at h
 ·injection h with h;subst h;exact ⟨_,rfl⟩
 ·cases h
theorem run_sliceBound {w:World} {k:IntKind} {n:Int} {y l:Nat} {code:BoundsCode} (h1:n=(l:Int)) (h2:l≤y):(Instr.sliceBound (.int k n) y code).run P w= .ok l w:=by
 have:0≤n∧n≤(y:Int):=ah
 have e:n.toNat=l:=ah
 simp [Instr.sliceBound,asIntOf,this,e]
theorem pb {S0:bn} {w0 w:World} {n:Nat} {O:List Nat} {a:Act} {φ:Nat->Option Nat} (hs:aO S0 w0 n O s a w φ) {lo hi mx:Option Operand} {c:Cut} (hc:vy s lo hi mx=some c) (RM:Bool) {len cap l m:Nat} (hb:Bounds c len cap l m) (hle:len≤cap) :
  mx=none∧(Instr.sliceBounds RM len cap (lo.map a.eval) (hi.map a.eval) none).run P w= .ok (l,m,cap) w:=by
 have ev:∀x z,uO (bp s x)=some z-> ∃k,a.eval x= .int k z:=fun x z hx=>by
  obtain ⟨k,e⟩:=C5 hx
  exact ⟨k,bM (e ▸ hs.bp x)⟩
 unfold vy at hc
 split at hc
 ·injection hc with hc;subst hc
  obtain ⟨rfl,rfl⟩:=hb
  exact ⟨rfl,by simp [Instr.sliceBounds]⟩
 ·split at hc
  ·rename_i z hz
   injection hc with hc;subst hc
   obtain ⟨rfl,h1,h2⟩:=hb
   obtain ⟨k,e⟩:=ev _ _ hz
   exact ⟨rfl,by simp [Instr.sliceBounds,e,run_sliceBound h1 h2]⟩
  ·cases hc
 ·split at hc
  ·rename_i z hz
   injection hc with hc;subst hc
   obtain ⟨h1,h2,rfl⟩:=hb
   obtain ⟨k,e⟩:=ev _ _ hz
   exact ⟨rfl,by simp [Instr.sliceBounds,e,run_sliceBound h1 h2]⟩
  ·cases hc
 ·split at hc
  ·rename_i z z' hz Bj
   injection hc with hc;subst hc
   obtain ⟨h1,Jc,h2,h3⟩:=hb
   obtain ⟨k,e⟩:=ev _ _ hz
   obtain ⟨k',e'⟩:=ev _ _ Bj
   exact ⟨rfl,by simp [Instr.sliceBounds,e,e',run_sliceBound Jc h3,run_sliceBound h1 h2]⟩
  ·cases hc
 ·cases hc
theorem bX {S0:bn} {w0 w:World} {n:Nat} {O:List Nat} {a:Act} {φ:Nat->Option Nat} (hs:aO S0 w0 n O s a w φ) {t el:TypeId} {x:Operand} {lo hi mx:Option Operand} {c:Cut} (ho:o.op= .slice t x lo hi mx) (hc:vy s lo hi mx=some c) (hu:P.underlying t=some (.slice el)) {z:Nat} (hz:eC P el=some z)
  {A:Option Addr} {len cap l m:Nat} (hx:a.eval x= .slice A len cap) (hb:Bounds c len cap l m) (hle:len≤cap) :
  (execOp a.eval o).run P w= .ok (.value (.slice (if cap=l then A else A.map (·.add (l*z))) (m-l) (cap-l))) w:=by
 obtain ⟨rfl,hr⟩:=pb (P:=P) hs hc true hb hle
 unfold execOp
 simp only [ho,hx]
 have Bj:(sizeOf el).run P w= .ok z w:=run_sizeOf hz
 simp [Instr.sliceAt,Instr.slice,run_underlying hu,hr,Bj]
theorem jv {S0:bn} {w0 w:World} {n:Nat} {O:List Nat} {a:Act} {φ:Nat->Option Nat} (hs:aO S0 w0 n O s a w φ) {t el:TypeId} {x:Operand} {lo hi mx:Option Operand} {c:Cut} (ho:o.op= .slice t x lo hi mx) (hc:vy s lo hi mx=some c) {len:Nat} (hu:P.underlying t=some (.array len el)) {z:Nat} (hz:eC P el=some z)
  {p:Addr} {l m:Nat} (hx:a.eval x= .pointer (some p)) (hb:Bounds c len len l m) :
  (execOp a.eval o).run P w= .ok (.value (.slice (some (if len=l then p else p.add (l*z))) (m-l) (len-l))) w:=by
 obtain ⟨rfl,hr⟩:=pb (P:=P) hs hc false hb (Nat.le_refl _)
 unfold execOp
 simp only [ho,hx]
 have Bj:(sizeOf el).run P w= .ok z w:=run_sizeOf hz
 simp [Instr.sliceAt,Instr.sureAddr,run_underlying hu,hr,Bj]
theorem ju {S0:bn} {w0 w:World} {n:Nat} {O:List Nat} {a:Act} {φ:Nat->Option Nat} (hs:aO S0 w0 n O s a w φ) {t:TypeId} {x:Operand} {lo hi mx:Option Operand} {c:Cut} (ho:o.op= .slice t x lo hi mx) (hc:vy s lo hi mx=some c) (hu:P.underlying t=some .string)
  {b:ByteArray} {l m:Nat} (hx:a.eval x= .string b) (hb:Bounds c b.size b.size l m) :
  (execOp a.eval o).run P w= .ok (.value (.string (b.extract l m))) w:=by
 obtain ⟨rfl,hr⟩:=pb (P:=P) hs hc false hb (Nat.le_refl _)
 unfold execOp
 simp only [ho,hx]
 simp [Instr.sliceAt,Instr.slice,run_underlying hu,hr]
theorem AE {S:Nat->Prop} {w:World} {A:Option Addr} {len cap e z:Nat} {row:List AV} (b_:cB S w (.slice A len cap) (.sl e row)) (he:e=z+1) (l m:Nat) (T4:l≤m) (hm:m≤len) :
  cB S w (.slice (if cap=l then A else A.map (·.add (l*(z+1)))) (m-l) (cap-l)) (.sl e ((row.drop (l*e)).take ((m-l)*e))):=by
 cases b_ with
 | sl _ _ _ _ us _ hl hn hc hx ha h =>
  have hle:(m-l)*e≤row.length-l*e:=by
   rw [hn,Nat.sub_mul,Nat.mul_comm e len]
   have:=Nat.mul_le_mul_right e hm
   omega
  have hlen:((row.drop (l*e)).take ((m-l)*e)).length=(m-l)*e:=by rw [List.length_take,List.length_drop];omega
  refine .sl _ _ _ _ ((us.drop (l*e)).take ((m-l)*e)) _ (by rw [hlen,List.length_take,List.length_drop];omega) (by rw [hlen,Nat.mul_comm]) ah ah (fun h0=>?_) (fun j u x hu hx=>h (l*e+j) u x (bV _ _ _ _ _ hu) (bV _ _ _ _ _ hx))
  rw [hlen] at h0
  have cW:cap≠l:=by
   intro e'
   have:m-l=0:=ah
   rw [this,Nat.zero_mul] at h0;omega
  have G_:0<row.length:=ah
  obtain ⟨ad,rfl,hS,bw⟩:=ha G_
  rw [if_neg cW]
  refine ⟨ad.add (l*(z+1)),rfl,by rw [gM];exact hS,fun j u hu=>?_⟩
  rw [mX,←he]
  exact bw _ u (bV _ _ _ _ _ hu)
theorem mD {m len e q:Nat} (h:cV m e≤q) (hq:q=e*len) (he:0<e):m≤len:=by
 rw [bx,hq,Nat.mul_comm] at h
 exact Nat.le_of_mul_le_mul_left h he
theorem tc {m z:Nat} (h:m*(z+1)≤0):m=0:=by
 rcases Nat.eq_zero_or_pos m with h5|h5
 ·exact h5
 ·have:=Nat.mul_pos h5 (ah:0<z+1);omega
theorem Dq {t:TypeId} {x:Operand} {lo hi mx:Option Operand} {c:Cut} (ho:o.op= .slice t x lo hi mx) (hc:vy s lo hi mx=some c) (hr:y9 P s t (bp s x) c h=some r):dc P s o r.1 r.2:=by
 unfold y9 at hr
 split at hr
 ·rename_i hu
  split at hr
  ·rename_i b he
   injection hr with hr;subst hr
   intro hC S0 w0 n O a w φ hs
   have ex:a.eval x= .string b:=bM (he ▸ hs.bp x)
   refine ⟨_,ju hs ho hc hu ex ⟨rfl,rfl⟩,?_⟩
   have:b.extract 0 b.size=b:=by simp
   rw [this];exact .rep (.val _)
  ·rename_i b n he
   injection hr with hr;subst hr
   refine gD ?_
   intro hC S0 w0 n' O a w φ hs
   have ex:a.eval x= .string b:=bM (he ▸ hs.bp x)
   exact ⟨_,ju hs ho hc hu ex ⟨rfl,hC.1,hC.2.1⟩,.rep (.val _)⟩
  ·rename_i b n he
   injection hr with hr;subst hr
   refine gD ?_
   intro hC S0 w0 n' O a w φ hs
   have ex:a.eval x= .string b:=bM (he ▸ hs.bp x)
   exact ⟨_,ju hs ho hc hu ex ⟨hC.1,hC.2.1,rfl⟩,.rep (.val _)⟩
  ·rename_i b n n2 he
   injection hr with hr;subst hr
   refine gD ?_
   intro hC S0 w0 n' O a w φ hs
   have ex:a.eval x= .string b:=bM (he ▸ hs.bp x)
   exact ⟨_,ju hs ho hc hu ex ⟨hC.1,hC.2.1,hC.2.2.1,hC.2.2.2.1⟩,.rep (.val _)⟩
  ·cases hr
 ·rename_i el hu
  split at hr
  ·rename_i z dw
   have sl:∀(e:Nat) (row:List AV) (X:AV) (C:List Prop),bp s x= .sl e row->e=z+1->(bz C-> ∃l m,(∀len cap,row.length=e*len->len≤cap->Bounds c len cap l m∧m≤len)∧l≤m∧X= .sl e ((row.drop (l*e)).take ((m-l)*e))∨(c= .all∧X= .sl e row))->dc P s o X C:=by
    intro e row X C he uY hX hC S0 w0 n O a w φ hs
    have hx:=hs.bp x
    rw [he] at hx
    have b_:=pF hx
    cases iW:a.eval x with
    | slice A len cap =>
     rw [iW] at b_
     have Bn:=b_
     cases Bn with
     | sl _ _ _ _ us _ hl hn la Kn ha h' =>
      obtain ⟨l,m,h1⟩:=hX hC
      rcases h1 with ⟨hb,T4,rfl⟩|⟨rfl,rfl⟩
      ·obtain ⟨hb,hm⟩:=hb len cap hn la
       exact ⟨_,bX hs ho hc hu dw iW hb la,.rep (AE b_ uY l m T4 hm)⟩
      ·refine ⟨_,bX hs ho hc hu dw iW (l:=0) (m:=len) ⟨rfl,rfl⟩ la,?_⟩
       have:(if cap=0 then A else A.map (·.add (0*(z+1))))=A:=by
        split
        ·rfl
        ·cases A<;>simp [dz]
       rw [this];exact .rep b_
    | _=>rw [iW] at b_;cases b_
   split at hr
   ·rename_i e row he
    injection hr with hr;subst hr
    refine gD ?_
    intro hC S0 w0 n O a w φ hs
    have hx:=hs.bp x
    rw [he] at hx
    have b_:=pF hx
    cases iW:a.eval x with
    | slice A len cap =>
     rw [iW] at b_
     have Bn:=b_
     cases Bn with
     | sl _ _ _ _ us _ hl hn la Kn ha h' =>
      refine ⟨_,bX hs ho hc hu dw iW (l:=0) (m:=len) ⟨rfl,rfl⟩ la,?_⟩
      have:(if cap=0 then A else A.map (·.add (0*(z+1))))=A:=by
       split
       ·rfl
       ·cases A<;>simp [dz]
      rw [this];exact .rep b_
    | _=>rw [iW] at b_;cases b_
   ·rename_i e row n he
    split at hr
    ·rename_i hb
     have uY:e=z+1:=Nat.eq_of_beq_eq_true hb
     injection hr with hr;subst hr
     refine gD (sl e row _ _ he uY fun hC=>⟨0,h.m,.inl ⟨fun len cap hn NM=>?_,Nat.zero_le _,by simp [bx]⟩⟩)
     have:=mD hC.2.1 hn ah
     exact ⟨⟨rfl,hC.1,ah⟩,this⟩
    ·cases hr
   ·rename_i e row n he
    split at hr
    ·rename_i hb
     have uY:e=z+1:=Nat.eq_of_beq_eq_true hb
     injection hr with hr;subst hr
     refine gD ?_
     intro hC S0 w0 n' O a w φ hs
     have hx:=hs.bp x
     rw [he] at hx
     have b_:=pF hx
     cases iW:a.eval x with
     | slice A len cap =>
      rw [iW] at b_
      have Bn:=b_
      cases Bn with
      | sl _ _ _ _ us _ hl hn la Kn ha h' =>
       have hk:=mD hC.2.1 hn ah
       refine ⟨_,bX hs ho hc hu dw iW (l:=h.k) (m:=len) ⟨hC.1,hk,rfl⟩ la,?_⟩
       have:=AE b_ uY h.k len hk (Nat.le_refl _)
       have e2:(row.drop (h.k*e)).take ((len-h.k)*e)=row.drop (cV h.k e):=by
        rw [bx,List.take_of_length_le]
        rw [List.length_drop,hn,Nat.sub_mul,Nat.mul_comm e len]
        exact Nat.le_refl _
       rw [e2] at this
       exact .rep this
     | _=>rw [iW] at b_;cases b_
    ·cases hr
   ·rename_i e row n n2 he
    split at hr
    ·rename_i hb
     have uY:e=z+1:=Nat.eq_of_beq_eq_true hb
     injection hr with hr;subst hr
     refine gD (sl e row _ _ he uY fun hC=>⟨h.k,h.m,.inl ⟨fun len cap hn NM=>?_,hC.2.2.1,by simp [bx]⟩⟩)
     have:=mD hC.2.2.2.1 hn ah
     exact ⟨⟨hC.1,hC.2.1,hC.2.2.1,ah⟩,this⟩
    ·cases hr
   ·rename_i id he
    injection hr with hr;subst hr
    intro hC S0 w0 n O a w φ hs
    have hx:=hs.bp x
    rw [he] at hx
    generalize hV:a.eval x=V at hx
    cases hx with
    | rep h=>cases h
    | ref _ e m g l c' hi hm la hx b7 =>
     refine ⟨_,bX hs ho hc hu dw hV (l:=0) (m:=l) ⟨rfl,rfl⟩ la,?_⟩
     have:(if c'=0 then (some ⟨g,0,none⟩:Option Addr) else (some ⟨g,0,none⟩:Option Addr).map (·.add (0*(z+1))))=some ⟨g,0,none⟩:=by simp [dz]
     rw [this]
     exact .ref id e m g l c' hi hm la hx b7
    | cD _ e hi =>
     refine ⟨_,bX hs ho hc hu dw hV (l:=0) (m:=0) ⟨rfl,rfl⟩ (Nat.le_refl _),?_⟩
     simp only [if_true]
     exact .cD id e hi
   ·rename_i id n he
    split at hr
    ·rename_i q hq
     split at hr
     ·rename_i hb
      have uY:q.e=z+1:=Nat.eq_of_beq_eq_true hb
      injection hr with hr;subst hr
      intro hC S0 w0 n' O a w φ hs
      have hx:=hs.bp x
      rw [he] at hx
      generalize hV:a.eval x=V at hx
      cases hx with
      | rep h=>cases h
      | ref _ e m g l c' hi hm la hx b7 =>
       obtain ⟨q',gO,h1,h2,h3⟩:=aT hi
       rw [hq] at gO;injection gO with gO;subst gO
       subst h1
       have hk:=mD hC.2.1 (by rw [h2];exact hm) ah
       refine ⟨_,bX hs ho hc hu dw hV (l:=0) (m:=h.m) ⟨rfl,hC.1,ah⟩ la,?_⟩
       have:(if c'=0 then (some ⟨g,0,none⟩:Option Addr) else (some ⟨g,0,none⟩:Option Addr).map (·.add (0*(z+1))))=some ⟨g,0,none⟩:=by simp [dz]
       rw [this]
       exact .pre id _ q.e m g h.m c' hi (by rw [bx,Nat.mul_comm]) (by rw [←h2];exact hC.2.1) ah hx b7
      | cD _ e hi =>
       obtain ⟨q',gO,h1,h2,h3⟩:=aT hi
       rw [hq] at gO;injection gO with gO;subst gO
       have hk:h.m=0:=by
        have h4:=hC.2.1
        rw [bx,h2,uY] at h4
        exact tc h4
       refine ⟨_,bX hs ho hc hu dw hV (l:=0) (m:=h.m) ⟨rfl,hC.1,ah⟩ (Nat.le_refl _),?_⟩
       rw [hk]
       simp only [if_true]
       have e0:cV 0 q.e=0:=by rw [bx];simp
       rw [e0]
       exact .dB id e hi
     ·cases hr
    ·cases hr
   ·rename_i id n he
    split at hr
    ·rename_i q hq
     split at hr
     ·rename_i hb
      have uY:q.e=z+1:=Nat.eq_of_beq_eq_true hb
      injection hr with hr;subst hr
      intro hC S0 w0 n' O a w φ hs
      have hx:=hs.bp x
      rw [he] at hx
      generalize hV:a.eval x=V at hx
      cases hx with
      | rep h=>cases h
      | ref _ e m g l c' hi hm la hx b7 =>
       obtain ⟨q',gO,h1,h2,h3⟩:=aT hi
       rw [hq] at gO;injection gO with gO;subst gO
       subst h1
       have hk:=mD hC.2.1 (by rw [h2];exact hm) ah
       have hle:=hC.2.1
       rw [bx] at hle
       refine ⟨_,bX hs ho hc hu dw hV (l:=h.k) (m:=l) ⟨hC.1,hk,rfl⟩ la,?_⟩
       rw [bx]
       refine .js id _ _ q.e m (l-h.k) (c'-h.k) (some g) _ hi (by rw [h2,hm,Nat.mul_sub,Nat.mul_comm h.k]) ah ah ah (fun h0=>⟨g,rfl,?_⟩)
       have cW:c'≠h.k:=by
        intro e'
        have:l=h.k:=ah
        rw [h2,hm,this,Nat.mul_comm,Nat.sub_self] at h0;omega
       rw [if_neg cW]
       simp [fi,uY]
      | cD _ e hi =>
       obtain ⟨q',gO,h1,h2,h3⟩:=aT hi
       rw [hq] at gO;injection gO with gO;subst gO
       have hk:h.k=0:=by
        have h4:=hC.2.1
        rw [bx,h2,uY] at h4
        exact tc h4
       refine ⟨_,bX hs ho hc hu dw hV (l:=0) (m:=0) ⟨by rw [hC.1,hk],Nat.le_refl _,rfl⟩ (Nat.le_refl _),?_⟩
       rw [hk,h2]
       have e0:cV 0 q.e=0:=by rw [bx];simp
       rw [e0]
       simp only [if_true]
       exact .js id 0 _ e 0 0 0 none none hi (by simp) (by simp) (by simp) (by simp) (fun h=>by simp at h)
     ·cases hr
    ·cases hr
   ·rename_i id n n2 he
    split at hr
    ·rename_i q hq
     split at hr
     ·rename_i hb
      have uY:q.e=z+1:=Nat.eq_of_beq_eq_true hb
      injection hr with hr;subst hr
      intro hC S0 w0 n' O a w φ hs
      have hx:=hs.bp x
      rw [he] at hx
      obtain ⟨iJ,Fb,Hf,O4,-⟩:=hC
      generalize hV:a.eval x=V at hx
      cases hx with
      | rep h=>cases h
      | ref _ e m g l c' hi hm la hx b7 =>
       obtain ⟨q',gO,h1,h2,h3⟩:=aT hi
       rw [hq] at gO;injection gO with gO;subst gO
       subst h1
       have hk:=mD O4 (by rw [h2];exact hm) ah
       rw [bx] at O4
       refine ⟨_,bX hs ho hc hu dw hV (l:=h.k) (m:=h.m) ⟨iJ,Fb,Hf,ah⟩ la,?_⟩
       rw [bx,bx]
       have hmul:h.k*q.e≤h.m*q.e:=Nat.mul_le_mul_right _ Hf
       refine .js id _ _ q.e m (h.m-h.k) (c'-h.k) (some g) _ hi (by rw [Nat.mul_comm]) (by rw [Nat.sub_mul];omega) ah ah (fun h0=>⟨g,rfl,?_⟩)
       have cW:c'≠h.k:=by
        intro e'
        have:h.m-h.k=0:=ah
        rw [this,Nat.zero_mul] at h0;omega
       rw [if_neg cW]
       simp [fi,uY]
      | cD _ e hi =>
       obtain ⟨q',gO,h1,h2,h3⟩:=aT hi
       rw [hq] at gO;injection gO with gO;subst gO
       have hk:h.m=0:=by
        rw [bx,h2,uY] at O4
        exact tc O4
       have yz:h.k=0:=ah
       refine ⟨_,bX hs ho hc hu dw hV (l:=0) (m:=0) ⟨by rw [iJ,yz],by rw [Fb,hk],Nat.le_refl _,Nat.le_refl _⟩ (Nat.le_refl _),?_⟩
       rw [yz,hk]
       have e0:cV 0 q.e=0:=by rw [bx];simp
       simp only [Nat.sub_self,e0,if_true]
       exact .js id 0 0 e 0 0 0 none none hi (by simp) (by simp) (by simp) (by simp) (fun h=>by simp at h)
     ·cases hr
    ·cases hr
   ·rename_i id l' he
    injection hr with hr;subst hr
    intro hC S0 w0 n O a w φ hs
    have hx:=hs.bp x
    rw [he] at hx
    generalize hV:a.eval x=V at hx
    cases hx with
    | rep h=>cases h
    | pre _ _ e m g l c' hi sV hm la hx b7 =>
     refine ⟨_,bX hs ho hc hu dw hV (l:=0) (m:=l) ⟨rfl,rfl⟩ la,?_⟩
     have:(if c'=0 then (some ⟨g,0,none⟩:Option Addr) else (some ⟨g,0,none⟩:Option Addr).map (·.add (0*(z+1))))=some ⟨g,0,none⟩:=by simp [dz]
     rw [this]
     exact .pre id _ e m g l c' hi sV hm la hx b7
    | dB _ e hi =>
     refine ⟨_,bX hs ho hc hu dw hV (l:=0) (m:=0) ⟨rfl,rfl⟩ (Nat.le_refl _),?_⟩
     simp only [if_true]
     exact .dB id e hi
   ·rename_i id l' n he
    split at hr
    ·rename_i q hq
     split at hr
     ·rename_i hb
      have uY:q.e=z+1:=Nat.eq_of_beq_eq_true hb
      injection hr with hr;subst hr
      intro hC S0 w0 n' O a w φ hs
      have hx:=hs.bp x
      rw [he] at hx
      generalize hV:a.eval x=V at hx
      cases hx with
      | rep h=>cases h
      | pre _ _ e m g l c' hi sV hm la hx b7 =>
       obtain ⟨q',gO,h1,h2,h3⟩:=aT hi
       rw [hq] at gO;injection gO with gO;subst gO
       subst h1
       have hk:=mD hC.2.1 sV ah
       refine ⟨_,bX hs ho hc hu dw hV (l:=0) (m:=h.m) ⟨rfl,hC.1,ah⟩ la,?_⟩
       have:(if c'=0 then (some ⟨g,0,none⟩:Option Addr) else (some ⟨g,0,none⟩:Option Addr).map (·.add (0*(z+1))))=some ⟨g,0,none⟩:=by simp [dz]
       rw [this]
       exact .pre id _ q.e m g h.m c' hi (by rw [bx,Nat.mul_comm]) (by have:=hC.2.1;omega) ah hx b7
      | dB _ e hi =>
       have hk:h.m=0:=by
        have h4:=hC.2.1
        rw [bx,uY] at h4
        exact tc h4
       refine ⟨_,bX hs ho hc hu dw hV (l:=0) (m:=h.m) ⟨rfl,hC.1,ah⟩ (Nat.le_refl _),?_⟩
       rw [hk]
       simp only [if_true]
       have e0:cV 0 q.e=0:=by rw [bx];simp
       rw [e0]
       exact .dB id e hi
     ·cases hr
    ·cases hr
   ·cases hr
  ·cases hr
 ·rename_i len el hu
  split at hr
  ·rename_i z dw
   have arr:∀(id:Nat) (q:Row),bp s x= .addr id 0->look s.H id=some q->q.full=true-> ∀S0 w0 n O a w φ,aO S0 w0 n O s a w φ-> ∃g,a.eval x= .pointer (some ⟨g,0,none⟩)∧az s.H φ id=some (q.e,q.cells.length,some g)∧a7 w g=q.cells.length:=by
    intro id q he hq hf S0 w0 n O a w φ hs
    have hx:=hs.bp x
    rw [he] at hx
    obtain ⟨e,m,g,hi,hv⟩:=jR hx
    obtain ⟨q',gO,h1,h2,h3⟩:=aT hi
    rw [hq] at gO;injection gO with gO;subst gO
    refine ⟨g,hv,by rw [bu hq,h3],?_⟩
    have aR:=hs.rows id q hq
    unfold bR at aR
    rw [h3] at aR
    obtain ⟨cur,te,fr,hg,-,-,m7,-⟩:=aR
    unfold a7;rw [hg]
    exact m7 hf
   split at hr
   ·rename_i id he
    split at hr
    ·rename_i q hq
     split at hr
     ·rename_i hb hf
      have uY:q.e=z+1:=Nat.eq_of_beq_eq_true hb
      injection hr with hr;subst hr
      intro hC S0 w0 n O a w φ hs
      obtain ⟨g,hv,hi,gF⟩:=arr id q he hq hf S0 w0 n O a w φ hs
      obtain ⟨iJ,Fb,-⟩:=hC
      rw [bx] at iJ
      refine ⟨_,jv hs ho hc hu dw hv (l:=0) (m:=len) ⟨rfl,rfl⟩,?_⟩
      have:(if len=0 then (⟨g,0,none⟩:Addr) else (⟨g,0,none⟩:Addr).add (0*(z+1)))=⟨g,0,none⟩:=by simp [dz]
      rw [this]
      exact .ref id q.e _ g len len hi (by rw [iJ,Nat.mul_comm]) (Nat.le_refl _) Fb (by rw [gF,iJ,Nat.mul_comm])
     ·cases hr
    ·cases hr
   ·rename_i id n he
    split at hr
    ·rename_i q hq
     split at hr
     ·rename_i hb hf
      have uY:q.e=z+1:=Nat.eq_of_beq_eq_true hb
      injection hr with hr;subst hr
      intro hC S0 w0 n' O a w φ hs
      obtain ⟨g,hv,hi,gF⟩:=arr id q he hq hf S0 w0 n' O a w φ hs
      obtain ⟨Qu,Hf,iJ,Fb,-⟩:=hC
      rw [bx] at iJ
      refine ⟨_,jv hs ho hc hu dw hv (l:=0) (m:=h.m) ⟨rfl,Qu,Hf⟩,?_⟩
      have:(if len=0 then (⟨g,0,none⟩:Addr) else (⟨g,0,none⟩:Addr).add (0*(z+1)))=⟨g,0,none⟩:=by simp [dz]
      rw [this,bx]
      exact .pre id _ q.e _ g h.m len hi (by rw [Nat.mul_comm]) (by rw [iJ];exact Nat.mul_le_mul_right _ Hf) Hf Fb (by rw [gF,iJ,Nat.mul_comm])
     ·cases hr
    ·cases hr
   ·rename_i id n he
    split at hr
    ·rename_i q hq
     split at hr
     ·rename_i hb hf
      have uY:q.e=z+1:=Nat.eq_of_beq_eq_true hb
      injection hr with hr;subst hr
      intro hC S0 w0 n' O a w φ hs
      obtain ⟨g,hv,hi,gF⟩:=arr id q he hq hf S0 w0 n' O a w φ hs
      obtain ⟨Qu,Hf,iJ,Fb,-⟩:=hC
      rw [bx] at iJ
      refine ⟨_,jv hs ho hc hu dw hv (l:=h.k) (m:=len) ⟨Qu,Hf,rfl⟩,?_⟩
      rw [bx,bx]
      have hmul:h.k*q.e≤len*q.e:=Nat.mul_le_mul_right _ Hf
      refine .js id _ _ q.e _ (len-h.k) (len-h.k) (some g) _ hi (by rw [Nat.mul_comm]) (by rw [Nat.sub_mul,iJ];omega) ah ah (fun h0=>⟨g,rfl,?_⟩)
      have cW:len≠h.k:=by
       intro e'
       have:len-h.k=0:=ah
       rw [this,Nat.zero_mul] at h0;omega
      rw [if_neg cW]
      simp [fi,uY]
     ·cases hr
    ·cases hr
   ·rename_i id n n2 he
    split at hr
    ·rename_i q hq
     split at hr
     ·rename_i hb hf
      have uY:q.e=z+1:=Nat.eq_of_beq_eq_true hb
      injection hr with hr;subst hr
      intro hC S0 w0 n' O a w φ hs
      obtain ⟨g,hv,hi,gF⟩:=arr id q he hq hf S0 w0 n' O a w φ hs
      obtain ⟨Qu,O4,Um,Hf,iJ,Fb,-⟩:=hC
      rw [bx] at iJ
      refine ⟨_,jv hs ho hc hu dw hv (l:=h.k) (m:=h.m) ⟨Qu,O4,Um,Hf⟩,?_⟩
      rw [bx,bx]
      have hmul:h.k*q.e≤h.m*q.e:=Nat.mul_le_mul_right _ Um
      have T1:h.m*q.e≤len*q.e:=Nat.mul_le_mul_right _ Hf
      refine .js id _ _ q.e _ (h.m-h.k) (len-h.k) (some g) _ hi (by rw [Nat.mul_comm]) (by rw [Nat.sub_mul,iJ];omega) ah ah (fun h0=>⟨g,rfl,?_⟩)
      have cW:len≠h.k:=by
       intro e'
       have:h.m-h.k=0:=ah
       rw [this,Nat.zero_mul] at h0;omega
      rw [if_neg cW]
      simp [fi,uY]
     ·cases hr
    ·cases hr
   ·cases hr
  ·cases hr
 ·cases hr
end
section
variable {P:Program} {s:AS} {o:Oper} {h:Hint} {r:AV×List Prop}
def rN (P:Program) (t:TypeId) (cs:List AV) (off:Nat) (h:Hint):Option (AV×List Prop) :=
 match eC P t,P.underlying t with
 | some sz,some d =>
  (match d with
  | .struct _| .array _ _=>(match Nat.beq ((cs.drop off).take sz).length sz with|true=>some (.agg ((cs.drop off).take sz),[])|false=>none)
  | _=>(match h.av with
   | some y=>some (y,[cs[off]?=some y])
   | none=>(match cs[off]? with|some y=>some (y,[])|none=>none)))
 | _,_=>none
theorem xp {I:Info} {S:Nat->Prop} {w:World} {t:TypeId} {cs:List AV} {off:Nat} (hr:rN P t cs off h=some r) (hC:bz r.2) (vs:List Value) (hl:vs.length=cs.length) (hd:∀(j:Nat) v c,vs[j]?=some v->cs[j]?=some c->Den I S w v c) :
  ∃v,(part t vs.toArray off).run P w= .ok v w∧Den I S w v r.1:=by
 unfold rN at hr
 split at hr
 ·rename_i sz d dw hu
  have hz:(sizeOf t).run P w= .ok sz w:=run_sizeOf dw
  have agg:cF P t=true->Nat.beq ((cs.drop off).take sz).length sz=true->r=(.agg ((cs.drop off).take sz),[])-> ∃v,(part t vs.toArray off).run P w= .ok v w∧Den I S w v r.1:=by
   intro ha hb hr
   subst hr
   have hlen:=Nat.eq_of_beq_eq_true hb
   rw [List.length_take,List.length_drop] at hlen
   refine ⟨.agg (vs.toArray.extract off (off+sz)),?_,?_⟩
   ·simp [part,iz ⟨d,hu⟩,ha,hz]
   ·have e:vs.toArray.extract off (off+sz)=((vs.drop off).take sz).toArray:=by
     simp [List.extract_eq_take_drop]
    rw [e]
    exact .agg _ _ (by rw [List.length_take,List.length_drop,List.length_take,List.length_drop];omega) fun j v c hv hc=>hd (off+j) v c (bV _ _ _ _ _ hv) (bV _ _ _ _ _ hc)
  have one:∀y,cF P t=false->cs[off]?=some y-> ∃v,(part t vs.toArray off).run P w= .ok v w∧Den I S w v y:=by
   intro y ha hy
   have dk:off<vs.length:=by have:=(List.getElem?_eq_some_iff.1 hy).1;omega
   have hv:vs[off]?=some vs[off]:=List.getElem?_eq_getElem dk
   refine ⟨vs[off],?_,hd off _ y hv hy⟩
   simp [part,iz ⟨d,hu⟩,ha,dk]
  split at hr
  ·have ha:cF P t=true:=by unfold cF;rw [hu]
   split at hr
   ·rename_i hb;injection hr with hr;exact agg ha hb hr.symm
   ·cases hr
  ·have ha:cF P t=true:=by unfold cF;rw [hu]
   split at hr
   ·rename_i hb;injection hr with hr;exact agg ha hb hr.symm
   ·cases hr
  ·rename_i OP P7
   have ha:cF P t=false:=by
    unfold cF;rw [hu]
    cases d<;>first|rfl|exact absurd rfl (OP _)|exact absurd rfl (P7 _ _)
   split at hr
   ·injection hr with hr;subst hr
    exact one _ ha hC.1
   ·split at hr
    ·rename_i y hy
     injection hr with hr;subst hr
     exact one _ ha hy
    ·cases hr
 ·cases hr
def zc (P:Program) (t:TypeId) (x:AV) (f:Nat) (h:Hint):Option (AV×List Prop) :=
 match P.underlying t,x with
 | some (.struct fields),.agg cs=>(match fields[f]? with|some fd=>rN P fd.type cs fd.offset h|none=>none)
 | _,_=>none
theorem Dx {t:TypeId} {x:Operand} {f:Nat} (ho:o.op= .field t x f) (hr:zc P t (bp s x) f h=some r):dc P s o r.1 r.2:=by
 intro hC S0 w0 n O a w φ hs
 have hx:=hs.bp x
 unfold zc at hr
 split at hr
 ·rename_i fields cs hu he
  split at hr
  ·rename_i fd hf
   rw [he] at hx
   obtain ⟨vs,hv,hl,hd⟩:=ko hx
   obtain ⟨v,h1,h2⟩:=xp hr hC vs hl hd
   refine ⟨v,?_,h2⟩
   unfold execOp
   simp [ho,Instr.field,run_underlying hu,hf,hv,asAgg,h1]
  ·cases hr
 ·cases hr
def rP (x:AV) (i:Nat):Option (AV×List Prop) :=
 match x with
 | .bk cs=>(match cs[i]? with|some y=>some (y,[])|none=>none)
 | _=>none
theorem zd {x:Operand} {i:Nat} (ho:o.op= .extract x i) (hr:rP (bp s x) i=some r):dc P s o r.1 r.2:=by
 intro hC S0 w0 n O a w φ hs
 have hx:=hs.bp x
 unfold rP at hr
 split at hr
 ·rename_i cs he
  split at hr
  ·rename_i y hy
   injection hr with hr;subst hr
   rw [he] at hx
   obtain ⟨vs,hv,hl,hd⟩:=zv hx
   have dk:i<vs.length:=by have:=(List.getElem?_eq_some_iff.1 hy).1;omega
   have UT:vs[i]?=some vs[i]:=List.getElem?_eq_getElem dk
   refine ⟨vs[i],?_,hd i _ y UT hy⟩
   unfold execOp
   simp [ho,Instr.extract,hv,dk]
  ·cases hr
 ·cases hr
def za (P:Program) (t:TypeId) (x:AV) (n:Int) (h:Hint):Option (AV×List Prop) :=
 match P.underlying t,x with
 | some (.array len el),.agg cs=>(match eC P el with|some z=>(match rN P el cs (cV h.k z) h with|some r=>some (r.1,(n=(h.k:Int))::(h.k<len)::r.2)|none=>none)|none=>none)
 | some (.array len el),.arr cs=>(match eC P el with|some z=>(match rN P el cs (cV h.k z) h with|some r=>some (r.1,(n=(h.k:Int))::(h.k<len)::r.2)|none=>none)|none=>none)
 | some .string,.val (.string b)=>some (fin h (.val (.int .u8 (bv (b.data.toList.getD h.k 0))),[n=(h.k:Int),h.k<b.size]))
 | _,_=>none
theorem qF {I:Info} {S:Nat->Prop} {w:World} {v:Value} {cs:List AV} (h:Den I S w v (.arr cs)):∃vs:List Value,v= .agg vs.toArray∧vs.length=cs.length∧ ∀(j:Nat) v c,vs[j]?=some v->cs[j]?=some c->cB S w v c:=by
 cases h with
 | rep h=>cases h with|arr vs _ hl h=>exact ⟨vs,rfl,hl,h⟩
theorem Dv {t:TypeId} {x i:Operand} {k:IntKind} {n:Int} (ho:o.op= .index t x i) (hi:bp s i= .val (.int k n)) (hr:za P t (bp s x) n h=some r):dc P s o r.1 r.2:=by
 unfold za at hr
 have arr:∀(len:Nat) (el:TypeId) (z:Nat) (q:AV×List Prop) (cs:List AV),P.underlying t=some (.array len el)->eC P el=some z->rN P el cs (cV h.k z) h=some q->r=(q.1,(n=(h.k:Int))::(h.k<len)::q.2) ->
   (∀S0 w0 n O a w φ,aO S0 w0 n O s a w φ-> ∃vs:List Value,a.eval x= .agg vs.toArray∧vs.length=cs.length∧ ∀(j:Nat) v c,vs[j]?=some v->cs[j]?=some c->Den (az s.H φ) (aQ S0 w φ O) w v c)->dc P s o r.1 r.2:=by
  intro len el z q cs hu hz hq hr hX
  subst hr
  intro hC S0 w0 n' O a w φ hs
  obtain ⟨h1,h2,hC⟩:=hC
  have ei:a.eval i= .int k n:=bM (hi ▸ hs.bp i)
  obtain ⟨vs,hv,hl,hd⟩:=hX S0 w0 n' O a w φ hs
  obtain ⟨v,h3,h4⟩:=xp hq hC vs hl hd
  refine ⟨v,?_,h4⟩
  have nn:0≤n∧n<(len:Int):=ah
  have hk:n.toNat=h.k:=ah
  have Bj:(sizeOf el).run P w= .ok z w:=run_sizeOf hz
  rw [bx] at h3
  unfold execOp
  simp [ho,Instr.index,run_underlying hu,hv,asIntOf,ei,nn,hk,Bj,h3]
 split at hr
 ·rename_i len el cs hu he
  split at hr
  ·rename_i z hz
   split at hr
   ·rename_i q hq
    injection hr with hr
    refine arr len el z q cs hu hz hq hr.symm fun S0 w0 n O a w φ hs=>?_
    have hx:=hs.bp x
    rw [he] at hx
    exact ko hx
   ·cases hr
  ·cases hr
 ·rename_i len el cs hu he
  split at hr
  ·rename_i z hz
   split at hr
   ·rename_i q hq
    injection hr with hr
    refine arr len el z q cs hu hz hq hr.symm fun S0 w0 n O a w φ hs=>?_
    have hx:=hs.bp x
    rw [he] at hx
    obtain ⟨vs,h1,h2,h3⟩:=qF hx
    exact ⟨vs,h1,h2,fun j v c hv hc=>.rep (h3 j v c hv hc)⟩
   ·cases hr
  ·cases hr
 ·rename_i b hu he
  injection hr with hr;subst hr
  refine gD ?_
  intro hC S0 w0 n' O a w φ hs
  obtain ⟨h1,h2,-⟩:=hC
  have ei:a.eval i= .int k n:=bM (hi ▸ hs.bp i)
  have ex:a.eval x= .string b:=bM (he ▸ hs.bp x)
  refine ⟨_,?_,.rep (.val _)⟩
  have h0:0≤n:=ah
  have hk:n.toNat=h.k:=ah
  unfold execOp
  simp [ho,Instr.index,run_underlying hu,ex,asIntOf,ei,h0,hk,h2]
  rfl
 ·cases hr
def Ju (x:AV):Option (AV×List Prop) :=
 match x with
 | .ptr row off=>some (.ptr row off,[])
 | .addr id off=>some (.addr id off,[])
 | .val (.func (.func f) l c)=>some (.val (.func (.func f) l c),[])
 | _=>none
theorem Jt {x:Operand} (ho:o.op= .nilCheck x) (hr:Ju (bp s x)=some r):dc P s o r.1 r.2:=by
 intro hC S0 w0 n O a w φ hs
 have hx:=hs.bp x
 unfold Ju at hr
 split at hr
 ·rename_i row off he
  injection hr with hr;subst hr
  rw [he] at hx
  obtain ⟨ad,us,hv,-⟩:=tx hx
  refine ⟨a.eval x,?_,hx⟩
  unfold execOp
  simp [ho,hv]
 ·rename_i id off he
  injection hr with hr;subst hr
  rw [he] at hx
  obtain ⟨e,m,g,-,hv⟩:=jR hx
  refine ⟨a.eval x,?_,hx⟩
  unfold execOp
  simp [ho,hv]
 ·rename_i f l c he
  injection hr with hr;subst hr
  rw [he] at hx
  have hv:=bM hx
  refine ⟨a.eval x,?_,hx⟩
  unfold execOp
  simp [ho,hv]
 ·cases hr
def Dr (s:AS) (c x y:Operand) (h:Hint):Option (AV×List Prop) :=
 match bp s c with
 | .val (.bool b)=>(match h.b with|true=>some (bp s x,[b=true])|false=>some (bp s y,[b=false]))
 | _=>none
theorem Gw {c x y:Operand} {h:Hint} (ho:o.op= .pick c x y) (hr:Dr s c x y h=some r):dc P s o r.1 r.2:=by
 intro hC S0 w0 n O a w φ hs
 unfold Dr at hr
 split at hr
 ·rename_i b he
  split at hr
  ·cases hr
   have ec:a.eval c= .bool true:=by
    have h1:a.eval c= .bool b:=bM (he ▸ hs.bp c)
    rw [h1,show b=true from hC.1]
   refine ⟨a.eval x,?_,hs.bp x⟩
   unfold execOp
   simp [ho,ec,asBool]
  ·cases hr
   have ec:a.eval c= .bool false:=by
    have h1:a.eval c= .bool b:=bM (he ▸ hs.bp c)
    rw [h1,show b=false from hC.1]
   refine ⟨a.eval y,?_,hs.bp y⟩
   unfold execOp
   simp [ho,ec,asBool]
 ·cases hr
def Jw (P:Program) (s:AS) (ts:Array TypeId) (ty:TypeId) (x:AV) (h:Hint):Option (AV×List Prop) :=
 match x with
 | .val u=>(match kf P (Builtin.len_ ts ty #[u]) with|some z=>some (fin h (.val z,[]))|none=>none)
 | x=>(match ts[0]? with
  | some t=>(match P.underlying t with
   | some (.slice _)=>(match x with
    | .nil=>some (.val (.int .i64 0),[])
    | .sl (e+1) row=>some (.val (.int .i64 h.k),[row.length=cV h.k (e+1)])
    | .ref id=>(match look s.H id with|some ⟨e+1,_,_,cells⟩=>some (.val (.int .i64 h.k),[cells.length=cV h.k (e+1)])|_=>none)
    | .pre id l=>(match look s.H id with|some ⟨e+1,_,_,_⟩=>some (.val (.int .i64 h.k),[l=cV h.k (e+1)])|_=>none)
    | .js id _ l=>(match look s.H id with|some ⟨e+1,_,_,_⟩=>some (.val (.int .i64 h.k),[l=cV h.k (e+1)])|_=>none)
    | _=>none)
   | some (.array n _)=>some (.val (.int .i64 n),[])
   | _=>none)
  | none=>none)
theorem rz {q e l k:Nat} (h1:q=cV k (e+1)) (h2:q=(e+1)*l):l=k:=by
 rw [bx,h2,Nat.mul_comm k] at h1
 exact Nat.eq_of_mul_eq_mul_left ah h1
theorem Jv {x:Operand} {ts:Array TypeId} (ho:o.op= .call {callee:=.builtin .len,args:= #[x],argTypes:=ts}) (hr:Jw P s ts o.type (bp s x) h=some r):dc P s o r.1 r.2:=by
 unfold Jw at hr
 split at hr
 ·rename_i u he
  split at hr
  ·rename_i z hz
   injection hr with hr;subst hr
   refine gD ?_
   intro hC S0 w0 n O a w φ hs
   have ex:a.eval x=u:=bM (he ▸ hs.bp x)
   refine ⟨z,?_,.rep (.val _)⟩
   unfold execOp
   simp [ho,resolve,invoke,builtin,ex,fO w hz]
  ·cases hr
 ·split at hr
  ·rename_i t ht
   split at hr
   ·rename_i el hu
    have run:∀(a:Act) (w:World) (A:Option Addr) (l c:Nat),a.eval x= .slice A l c->(execOp a.eval o).run P w= .ok (.value (.int .i64 l)) w:=by
     intro a w A l c hv
     unfold execOp
     simp [ho,resolve,invoke,builtin,hv,Builtin.len_,ht,run_underlying hu,goInt]
    split at hr
    ·rename_i he
     injection hr with hr;subst hr
     intro hC S0 w0 n O a w φ hs
     have hx:=hs.bp x
     rw [he] at hx
     generalize hV:a.eval x=V at hx
     cases hx with|rep h=>cases h with|nil=>exact ⟨_,run a w _ _ _ hV,.rep (.val _)⟩
    ·rename_i e row he
     injection hr with hr;subst hr
     intro hC S0 w0 n O a w φ hs
     have hx:=hs.bp x
     rw [he] at hx
     have b_:=pF hx
     generalize hV:a.eval x=V at b_
     cases b_ with
     | sl A l c _ us _ hl hn hc hm ha h' =>
      have:=rz hC.1 hn
      subst this
      exact ⟨_,run a w _ _ _ hV,.rep (.val _)⟩
    ·rename_i id he
     split at hr
     ·rename_i e pu fu cells hq
      injection hr with hr;subst hr
      intro hC S0 w0 n O a w φ hs
      have hx:=hs.bp x
      rw [he] at hx
      generalize hV:a.eval x=V at hx
      cases hx with
      | rep h=>cases h
      | ref _ e m g l c hi hm hc hx b7 =>
       rw [bu hq] at hi
       injection hi with hi;injection hi with h1 hi;injection hi with h2 h3
       have:=rz hC.1 (by rw [show cells.length=m from h2,hm,←h1])
       subst this
       exact ⟨_,run a w _ _ _ hV,.rep (.val _)⟩
      | cD _ e hi =>
       rw [bu hq] at hi
       injection hi with hi;injection hi with h1 hi;injection hi with h2 h3
       have:=rz (l:=0) hC.1 (by rw [show cells.length=0 from h2];simp)
       rw [←this]
       exact ⟨_,run a w _ _ _ hV,.rep (.val _)⟩
     ·cases hr
    ·rename_i id l' he
     split at hr
     ·rename_i e pu fu cells hq
      injection hr with hr;subst hr
      intro hC S0 w0 n O a w φ hs
      have hx:=hs.bp x
      rw [he] at hx
      generalize hV:a.eval x=V at hx
      cases hx with
      | rep h=>cases h
      | pre _ _ e m g l c hi hn hm hc hx b7 =>
       rw [bu hq] at hi
       injection hi with hi;injection hi with h1 hi;injection hi with h2 h3
       have:=rz hC.1 (by rw [hn,←h1])
       subst this
       exact ⟨_,run a w _ _ _ hV,.rep (.val _)⟩
      | dB _ e hi =>
       have:=rz (l:=0) hC.1 (by simp)
       rw [←this]
       exact ⟨_,run a w _ _ _ hV,.rep (.val _)⟩
     ·cases hr
    ·rename_i id off l' he
     split at hr
     ·rename_i e pu fu cells hq
      injection hr with hr;subst hr
      intro hC S0 w0 n O a w φ hs
      have hx:=hs.bp x
      rw [he] at hx
      generalize hV:a.eval x=V at hx
      cases hx with
      | rep h=>cases h
      | js _ _ _ e m l c g A hi hn hm hc hx ha =>
       rw [bu hq] at hi
       injection hi with hi;injection hi with h1 hi;injection hi with h2 h3
       have:=rz hC.1 (by rw [hn,←h1])
       subst this
       exact ⟨_,run a w _ _ _ hV,.rep (.val _)⟩
     ·cases hr
    ·cases hr
   ·rename_i n' el hu
    injection hr with hr;subst hr
    intro hC S0 w0 n O a w φ hs
    refine ⟨.int .i64 n',?_,.rep (.val _)⟩
    unfold execOp
    simp [ho,resolve,invoke,builtin,Builtin.len_,ht,run_underlying hu,goInt]
   ·cases hr
  ·cases hr
def tQ (s:AS):List Operand->Option (List Value)
 | []=>some []
 | x::l=>match bp s x,tQ s l with| .val u,some m=>some (u::m)|_,_=>none
theorem wG {S0:bn} {w0 w:World} {n:Nat} {O:List Nat} {a:Act} {φ:Nat->Option Nat} (hs:aO S0 w0 n O s a w φ):∀(xs:List Operand) (us:List Value),tQ s xs=some us->xs.map a.eval=us
 | [],us,h=>by cases h;rfl
 | x::l,us,h=>by
  simp only [tQ] at h
  split at h
  ·rename_i u m hu hm
   injection h with h;subst h
   rw [List.map_cons,wG hs l m hm,show a.eval x=u from bM (hu ▸ hs.bp x)]
  ·cases h
def Oc (P:Program) (b:Builtin) (ts:Array TypeId) (ty:TypeId) (us:List Value):Option (AV×List Prop) :=
 match b with
 | .min=>(match kf P (Builtin.min_ ts ty us.toArray) with|some z=>some (.val z,[])|none=>none)
 | .max=>(match kf P (Builtin.max_ ts ty us.toArray) with|some z=>some (.val z,[])|none=>none)
 | _=>none
theorem LM {b:Builtin} {xs:Array Operand} {ts:Array TypeId} {us:List Value} (ho:o.op= .call {callee:=.builtin b,args:=xs,argTypes:=ts}) (hu:tQ s xs.toList=some us) (hr:Oc P b ts o.type us=some r):dc P s o r.1 r.2:=by
 intro hC S0 w0 n O a w φ hs
 have e:=wG hs _ _ hu
 have e2:xs.map a.eval=us.toArray:=Array.toList_inj.1 (by rw [Array.toList_map,e])
 unfold Oc at hr
 split at hr
 ·split at hr
  ·rename_i z hz
   injection hr with hr;subst hr
   refine ⟨z,?_,.rep (.val _)⟩
   unfold execOp
   simp [ho,resolve,invoke,builtin,e2,fO w hz]
  ·cases hr
 ·split at hr
  ·rename_i z hz
   injection hr with hr;subst hr
   refine ⟨z,?_,.rep (.val _)⟩
   unfold execOp
   simp [ho,resolve,invoke,builtin,e2,fO w hz]
  ·cases hr
 ·cases hr
end
end Go.Proofs.YtjgbhhnghedgdaaGreatDoor
