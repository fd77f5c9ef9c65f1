import Derived.Test.YtjgbhhnghedgdaaGreatDoorZbRW
import Derived.Shelf.Unicode.DecodeSlow
import Derived.Calls
import Derived.Laws.Cells
set_option linter.all false
namespace Go.Proofs.YtjgbhhnghedgdaaGreatDoor
open Go.RowKit
inductive AV where
 | val (v:Value)
 | nil
 | agg (cs:List AV)
 | bt (cs:List AV)
 | arr (cs:List AV)
 | sl (e:Nat) (row:List AV)
 | ptr (row:List AV) (off:Nat)
 | own (e:Nat) (row:List AV)
 | box (row:List AV)
 | ref (id:Nat)
 | pre (id n:Nat)
 | jr (id off n:Nat)
 | addr (id off:Nat)
 | lK (f:Nat) (cs:List AV)
 | pf (e:Nat) (row:List AV)
 | dead
 deriving Inhabited
inductive cB (S:Nat->Prop) (w:World):Value->AV->Prop
 | val (v:Value):cB S w v (.val v)
 | nil:cB S w (.slice none 0 0) .nil
 | agg (vs:List Value) (cs:List AV) (hl:vs.length=cs.length) (h:∀(j:Nat) v c,vs[j]?=some v->cs[j]?=some c->cB S w v c):cB S w (.agg vs.toArray) (.agg cs)
 | bt (vs:List Value) (cs:List AV) (hl:vs.length=cs.length) (h:∀(j:Nat) v c,vs[j]?=some v->cs[j]?=some c->cB S w v c):cB S w (.tuple vs.toArray) (.bt cs)
 | arr (vs:List Value) (cs:List AV) (hl:vs.length=cs.length) (h:∀(j:Nat) v c,vs[j]?=some v->cs[j]?=some c->cB S w v c):cB S w (.agg vs.toArray) (.arr cs)
 | sl (A:Option Addr) (n c e:Nat) (us:List Value) (row:List AV) (hl:us.length=row.length) (hn:row.length=e*n) (hc:n≤c) (hm:c≤maxLen)
   (ha:0<row.length-> ∃ad,A=some ad∧S ad.block∧ ∀(j:Nat) u,us[j]?=some u->w.cell? (ad.add j)=some u)
   (h:∀(j:Nat) u x,us[j]?=some u->row[j]?=some x->cB S w u x):cB S w (.slice A n c) (.sl e row)
 | pf (A:Option Addr) (n e:Nat) (us:List Value) (row:List AV) (hl:us.length=row.length) (hn:row.length=e*n) (hm:n≤maxLen)
   (ha:0<row.length-> ∃ad,A=some ad∧S ad.block∧ ∀(j:Nat) u,us[j]?=some u->w.cell? (ad.add j)=some u)
   (h:∀(j:Nat) u x,us[j]?=some u->row[j]?=some x->cB S w u x):cB S w (.slice A n n) (.pf e row)
 | ptr (ad:Addr) (us:List Value) (row:List AV) (off:Nat) (hl:us.length=row.length) (hs:S ad.block) (ha:∀(j:Nat) u,us[j]?=some u->w.cell? (ad.add j)=some u)
   (h:∀(j:Nat) u x,us[j]?=some u->row[j]?=some x->cB S w u x):cB S w (.pointer (some (ad.add off))) (.ptr row off)
 | lK (f:Nat) (vs:List Value) (cs:List AV) (hl:vs.length=cs.length) (h:∀(j:Nat) v c,vs[j]?=some v->cs[j]?=some c->cB S w v c):cB S w (.func (.func f) #[] vs.toArray) (.lK f cs)
theorem kv {w w':World} {p:Addr} (h:w'.heap[p.block]?=w.heap[p.block]?):w'.cell? p=w.cell? p:=World.cell?_of_block (w:=w) h
theorem cB.mono {S S':Nat->Prop} {w w':World} (hS:∀b,S b->S' b∧w'.heap[b]?=w.heap[b]?) {v:Value} {av:AV} (h:cB S w v av):cB S' w' v av:=by
 induction h with
 | val v=>exact .val v
 | nil=>exact .nil
 | agg vs cs hl _ ih=>exact .agg vs cs hl ih
 | bt vs cs hl _ ih=>exact .bt vs cs hl ih
 | arr vs cs hl _ ih=>exact .arr vs cs hl ih
 | sl A n c e us row hl hn hc hm ha _ ih =>
  refine .sl A n c e us row hl hn hc hm (fun h0=>?_) ih
  obtain ⟨ad,rfl,hb,bw⟩:=ha h0
  exact ⟨ad,rfl,(hS _ hb).1,fun j u hu=>(kv (by rw [gL];exact (hS _ hb).2)).trans (bw j u hu)⟩
 | pf A n e us row hl hn hm ha _ ih =>
  refine .pf A n e us row hl hn hm (fun h0=>?_) ih
  obtain ⟨ad,rfl,hb,bw⟩:=ha h0
  exact ⟨ad,rfl,(hS _ hb).1,fun j u hu=>(kv (by rw [gL];exact (hS _ hb).2)).trans (bw j u hu)⟩
 | ptr ad us row off hl hs ha _ ih =>
  exact .ptr ad us row off hl (hS _ hs).1 (fun j u hu=>(kv (by rw [gL];exact (hS _ hs).2)).trans (ha j u hu)) ih
 | lK f vs cs hl _ ih=>exact .lK f vs cs hl ih
abbrev Info:=Nat->Option (Nat×Nat×Option Nat)
def aV (w:World) (g:Nat):Nat:=match w.heap[g]? with|some (.cells c _ _)=>c.size|_=>0
inductive Den (I:Info) (S:Nat->Prop) (w:World):Value->AV->Prop
 | rep {v:Value} {av:AV} (h:cB S w v av):Den I S w v av
 | agg (vs:List Value) (cs:List AV) (hl:vs.length=cs.length) (h:∀(j:Nat) v c,vs[j]?=some v->cs[j]?=some c->Den I S w v c):Den I S w (.agg vs.toArray) (.agg cs)
 | bt (vs:List Value) (cs:List AV) (hl:vs.length=cs.length) (h:∀(j:Nat) v c,vs[j]?=some v->cs[j]?=some c->Den I S w v c):Den I S w (.tuple vs.toArray) (.bt cs)
 | ref (id e m g l c:Nat) (hi:I id=some (e,m,some g)) (hm:m=e*l) (hc:l≤c) (hx:c≤maxLen) (hs:aV w g=e*c):Den I S w (.slice (some ⟨g,0,none⟩) l c) (.ref id)
 | cH (id e:Nat) (hi:I id=some (e,0,none)):Den I S w (.slice none 0 0) (.ref id)
 | pre (id n e m g l c:Nat) (hi:I id=some (e,m,some g)) (hn:n=e*l) (hm:n≤m) (hc:l≤c) (hx:c≤maxLen) (hs:aV w g=e*c):Den I S w (.slice (some ⟨g,0,none⟩) l c) (.pre id n)
 | dF (id e:Nat) (hi:I id=some (e,0,none)):Den I S w (.slice none 0 0) (.pre id 0)
 | jr (id off n e m l c:Nat) (g:Option Nat) (A:Option Addr) (hi:I id=some (e,m,g)) (hn:n=e*l) (hm:off+n≤m) (hc:l≤c) (hx:c≤maxLen) (ha:0<n-> ∃b,g=some b∧A=some ⟨b,off,none⟩):Den I S w (.slice A l c) (.jr id off n)
 | addr (id off e m g:Nat) (hi:I id=some (e,m,some g)):Den I S w (.pointer (some ⟨g,off,none⟩)) (.addr id off)
 | dead (v:Value):Den I S w v .dead
theorem Den.mono {I I':Info} {S S':Nat->Prop} {w w':World} (hI:∀id x,I id=some x->I' id=some x) (hS:∀b,S b->S' b∧w'.heap[b]?=w.heap[b]?)
  (hL:∀id e m g,I id=some (e,m,some g)->aV w' g=aV w g) {v:Value} {av:AV} (h:Den I S w v av):Den I' S' w' v av:=by
 induction h with
 | rep h=>exact .rep (h.mono hS)
 | agg vs cs hl _ ih=>exact .agg vs cs hl ih
 | bt vs cs hl _ ih=>exact .bt vs cs hl ih
 | ref id e m g l c hi hm hc hx hs=>exact .ref id e m g l c (hI _ _ hi) hm hc hx ((hL _ _ _ _ hi).trans hs)
 | cH id e hi=>exact .cH id e (hI _ _ hi)
 | pre id n e m g l c hi hn hm hc hx hs=>exact .pre id n e m g l c (hI _ _ hi) hn hm hc hx ((hL _ _ _ _ hi).trans hs)
 | dF id e hi=>exact .dF id e (hI _ _ hi)
 | jr id off n e m l c g A hi hn hm hc hx ha=>exact .jr id off n e m l c g A (hI _ _ hi) hn hm hc hx ha
 | addr id off e m g hi=>exact .addr id off e m g (hI _ _ hi)
 | dead v=>exact .dead v
structure Row where
 e:Nat
 pure:Bool
 full:Bool
 cells:List AV
def bj (I:Info) (S:Nat->Prop) (w:World) (p:Bool) (u:Value) (x:AV):Prop:=match p with|true=>cB S w u x|false=>Den I S w u x
def bN (I:Info) (S:Nat->Prop) (w:World) (b:Option Nat) (r:Row):Prop :=
 match b with
 | none=>r.cells= []
 | some g=>∃cur te fr,w.heap[g]?=some (.cells cur te fr)∧(∀j,j<cur.size-> ¬(fr.1≤j∧j<fr.2))∧r.cells.length≤cur.size∧(r.full=true->cur.size=r.cells.length) ∧
   ∀(j:Nat) u x,cur[j]?=some u->r.cells[j]?=some x->bj I S w r.pure u x
def look {α:Type}:List (Nat×α)->Nat->Option α
 | [],_=>none
 | (k,x)::l,i=>match Nat.beq k i with|true=>some x|false=>look l i
def cU {α:Type}:List (Nat×α)->Nat->List (Nat×α)
 | [],_=>[]
 | (k,x)::l,i=>match Nat.beq k i with|true=>cU l i|false=>(k,x)::cU l i
def er {α:Type} (f:α->α):List (Nat×α)->List (Nat×α)
 | []=>[]
 | (k,x)::l=>(k,f x)::er f l
theorem bJ (k i:Nat):(Nat.beq k i=true∧k=i)∨(Nat.beq k i=false∧k≠i):=by
 cases h:Nat.beq k i with
 | true=>exact .inl ⟨rfl,Nat.eq_of_beq_eq_true h⟩
 | false=>exact .inr ⟨rfl,Nat.ne_of_beq_eq_false h⟩
theorem aD {α:Type} (k:Nat) (x:α) (l:List (Nat×α)) (i:Nat):look ((k,x)::l) i=if k=i then some x else look l i:=by
 rcases bJ k i with ⟨h,e⟩|⟨h,e⟩<;>simp [look,h,e]
theorem bH {α:Type} (l:List (Nat×α)) (i j:Nat):look (cU l i) j=if i=j then none else look l j:=by
 induction l with
 | nil=>simp [cU,look]
 | cons p l ih =>
  obtain ⟨k,x⟩:=p
  rcases bJ k i with ⟨h,e⟩|⟨h,e⟩
  ·simp only [cU,h];rw [ih,aD,e]
   by_cases hj:i=j<;>simp [hj]
  ·simp only [cU,h,aD,ih]
   by_cases hk:k=j
   ·subst hk;simp [Ne.symm e]
   ·simp [hk]
theorem cz {α:Type} (f:α->α) (l:List (Nat×α)) (i:Nat):look (er f l) i=(look l i).map f:=by
 induction l with
 | nil=>rfl
 | cons p l ih =>
  obtain ⟨k,x⟩:=p
  simp only [er,aD,ih]
  by_cases hk:k=i<;>simp [hk]
theorem bM {α:Type} (l m:List (Nat×α)) (i:Nat):look (l++m) i=(look l i).or (look m i):=by
 induction l with
 | nil=>simp [look]
 | cons p l ih =>
  obtain ⟨k,x⟩:=p
  simp only [List.cons_append,aD,ih]
  by_cases hk:k=i<;>simp [hk]
structure AS where
 F:List (Nat×AV)
 H:List (Nat×Row)
def az (H:List (Nat×Row)) (φ:Nat->Option Nat):Info:=fun id=>(look H id).map fun r=>(r.e,r.cells.length,φ id)
def TB (b:Nat):Prop:=b=0∨b=1
def Good (w:World):Prop:=Lib.Utf8Tabs 0 1 w
theorem Good.aa {w w':World} (h:Good w) (hk:∀b,TB b->w'.heap[b]?=w.heap[b]?):Good w' :=
 ⟨fun c hc=>(World.cell?_of_block (hk _ (.inl rfl))).trans (h.1 c hc),fun i hi=>⟨(World.cell?_of_block (hk _ (.inr rfl))).trans (h.2 i hi).1,(World.cell?_of_block (hk _ (.inr rfl))).trans (h.2 i hi).2⟩⟩
theorem Good.lt {w:World} (h:Good w) {b:Nat} (hb:TB b):b<w.heap.size:=by
 have lt:∀ {a:Addr} {v:Value},w.cell? a=some v->a.block<w.heap.size:=fun {a v} hc=>by
  rcases Nat.lt_or_ge a.block w.heap.size with h'|h'
  ·exact h'
  ·simp [World.cell?,Array.getElem?_eq_none h'] at hc
 rcases hb with rfl|rfl
 ·exact lt (h.1 0 (by decide))
 ·exact lt (h.2 0 (by decide)).1
structure bo where
 S:Nat->Prop
 X:Nat->Prop
 fix:Nat->Option Nat
 si:List Deferred:=[]
instance:CoeFun bo fun _=>Nat->Prop:=⟨bo.S⟩
def Qj (S0:bo) (w0:World) (id g:Nat):Prop:=(id<1000000000000∨S0.fix id=some g)∧(w0.heap.size≤g∨S0.X g)
structure Kept (S0:bo) (w0 w:World):Prop where
 os:w.os=w0.os
 tape:w.tape=w0.tape
 output:w.output=w0.output
 size:w0.heap.size≤w.heap.size
 block:∀k,k<w0.heap.size-> ¬S0.X k->w.heap[k]?=w0.heap[k]?
 g0:Good w0
 gx:∀b,TB b-> ¬S0.X b
theorem Kept.mH {S0:bo} {w0 w:World} (h:Kept S0 w0 w):Good w:=h.g0.aa fun b hb=>h.block b (h.g0.lt hb) (h.gx b hb)
theorem Kept.pI {S0:bo} {w0 w w':World} (h:Kept S0 w0 w) (hb:Below w.heap.size w w'):Kept S0 w0 w' :=
 ⟨hb.os.trans h.os,hb.tape.trans h.tape,hb.output.trans h.output,Nat.le_trans h.size hb.size,fun k hk hx=>(hb.block k (Nat.lt_of_lt_of_le hk h.size)).trans (h.block k hk hx),h.g0,h.gx⟩
theorem Kept.below {S0:bo} {w0 w:World} (h:Kept S0 w0 w) (hX:∀b,¬S0.X b):Below w0.heap.size w0 w :=
 ⟨h.os,h.tape,h.output,h.size,fun k hk=>h.block k hk (hX k)⟩
def aM (S0:bo) (w:World) (φ:Nat->Option Nat) (O:List Nat):Nat->Prop:=fun b=>b<w.heap.size∧b ∉ O∧(∀id,φ id≠some b)∧S0 b
structure aJ (S0:bo) (w0:World) (n:Nat) (O:List Nat) (s:AS) (a:Act) (w:World) (φ:Nat->Option Nat):Prop where
 jQ:a.tmps.size=n
 jT:a.defers=S0.si
 cZ:Kept S0 w0 w
 cG:∀i av,look s.F i=some av->Den (az s.H φ) (aM S0 w φ O) w (a.tmps.getD i undef) av
 rows:∀id r,look s.H id=some r->bN (az s.H φ) (aM S0 w φ O) w (φ id) r
 only:∀id,look s.H id=none->φ id=none
 inj:∀id pc g,φ id=some g->φ pc=some g->id=pc
 cY:∀id g,φ id=some g->Qj S0 w0 id g∧g<w.heap.size
 apart:∀id g,φ id=some g->g ∉ O
 new:∀b,(w0.heap.size≤b∨S0.X b)->S0 b
def iv (S0:bo) (w0:World) (n:Nat) (s:AS) (a:Act) (w:World):Prop:=∃ φ,aJ S0 w0 n [] s a w φ
theorem Kept.sD {S0:bo} {w0 w:World} (h:Kept S0 w0 w) {g:Nat} (hg:w0.heap.size≤g∨S0.X g):¬TB g:=fun hb=>hg.elim (fun h1=>by have:=h.g0.lt hb;omega) (h.gx g hb)
theorem aJ.sD {S0:bo} {w0 w:World} {n:Nat} {O:List Nat} {s:AS} {a:Act} {φ:Nat->Option Nat} (h:aJ S0 w0 n O s a w φ) {b:Nat} (hb:TB b):¬ ∃id,φ id=some b:=fun ⟨id,hid⟩=>h.cZ.sD (h.cY id b hid).1.2 hb
def jS (s:AS) (i:Nat):AV:=match look s.F i with|some x=>x|none=>.dead
def lr (s:AS) (i:Nat) (x:AV):AS:=⟨(i,x)::cU s.F i,s.H⟩
theorem q8 (s:AS) (i j:Nat) (x:AV):look (lr s i x).F j=if i=j then some x else look s.F j:=by
 simp only [lr,aD,bH]
 by_cases h:i=j<;>simp [h]
section
variable {S0:bo} {w0 w w':World} {n:Nat} {O:List Nat} {s:AS} {a:Act} {φ:Nat->Option Nat}
theorem aJ.get (h:aJ S0 w0 n O s a w φ) (i:Nat):Den (az s.H φ) (aM S0 w φ O) w (a.tmps.getD i undef) (jS s i):=by
 unfold jS
 cases hl:look s.F i with
 | none=>exact .dead _
 | some x=>exact h.cG i x hl
theorem pQ (a:Act) (d i:Nat) (v:Value) (hd:d<a.tmps.size):(a.put (some d) v).tmps.getD i undef=if d=i then v else a.tmps.getD i undef:=by
 simp only [Act.put]
 by_cases h:d=i
 ·subst h;simp [hd]
 ·simp [h,Array.getElem?_setIfInBounds_ne h]
theorem tE (a:Act) (d:Option Nat) (v:Value):(a.put d v).tmps.size=a.tmps.size:=by cases d<;>simp [Act.put]
theorem po (a:Act) (d:Option Nat) (v:Value):(a.put d v).defers=a.defers:=by cases d<;>simp [Act.put]
theorem aJ.put (h:aJ S0 w0 n O s a w φ) {d:Nat} (hd:d<n) {v:Value} {x:AV} (hx:Den (az s.H φ) (aM S0 w φ O) w v x):aJ S0 w0 n O (lr s d x) (a.put (some d) v) w φ where
 jQ:=(tE ..).trans h.jQ
 jT:=(po ..).trans h.jT
 cZ:=h.cZ
 cG:=fun i av hi=>by
  rw [pQ a d i v (by rw [h.jQ];exact hd)]
  rw [q8] at hi
  by_cases e:d=i
  ·rw [if_pos e] at hi ⊢
   injection hi with hi
   subst hi;exact hx
  ·rw [if_neg e] at hi ⊢
   exact h.cG i av hi
 rows:=h.rows
 only:=h.only
 inj:=h.inj
 cY:=h.cY
 apart:=h.apart
 new:=h.new
theorem aJ.grow (h:aJ S0 w0 n O s a w φ) (hb:Below w.heap.size w w'):aJ S0 w0 n O s a w' φ where
 jQ:=h.jQ
 jT:=h.jT
 cZ:=h.cZ.pI hb
 cG:=fun i av hi=>(h.cG i av hi).mono (fun _ _ h=>h) (fun b hS=>⟨⟨Nat.lt_of_lt_of_le hS.1 hb.size,hS.2⟩,hb.block b hS.1⟩) (fun id e m g hi=>by
  have hg:φ id=some g:=by
   unfold az at hi
   cases hl:look s.H id with
   | none=>rw [hl] at hi;cases hi
   | some r=>rw [hl] at hi;simp at hi;exact hi.2.2
  unfold aV;rw [hb.block g (h.cY id g hg).2])
 rows:=fun id r hr=>by
  have aN:=h.rows id r hr
  unfold bN at aN ⊢
  cases cm:φ id with
  | none=>rw [cm] at aN;exact aN
  | some g =>
   rw [cm] at aN
   obtain ⟨cur,te,fr,hg,hf,hl,mT,hc⟩:=aN
   refine ⟨cur,te,fr,(hb.block g (h.cY id g cm).2).trans hg,hf,hl,mT,fun j u x hu hx=>?_⟩
   have bw:=hc j u x hu hx
   have hS:∀b,aM S0 w φ O b->aM S0 w' φ O b∧w'.heap[b]?=w.heap[b]?:=fun b hS=>⟨⟨Nat.lt_of_lt_of_le hS.1 hb.size,hS.2⟩,hb.block b hS.1⟩
   unfold bj at bw ⊢
   cases hp:r.pure with
   | true=>rw [hp] at bw;exact bw.mono hS
   | false =>
    rw [hp] at bw
    exact bw.mono (fun _ _ h=>h) hS (fun id e m g hi=>by
     have hg:φ id=some g:=by
      unfold az at hi
      cases hl:look s.H id with
      | none=>rw [hl] at hi;cases hi
      | some r=>rw [hl] at hi;simp at hi;exact hi.2.2
     unfold aV;rw [hb.block g (h.cY id g hg).2])
 only:=h.only
 inj:=h.inj
 cY:=fun id g hg=>⟨(h.cY id g hg).1,Nat.lt_of_lt_of_le (h.cY id g hg).2 hb.size⟩
 apart:=h.apart
 new:=h.new
end
def aE (id:Nat):AV->AV
 | .ref i=>match Nat.beq i id with|true=>.dead|false=>.ref i
 | .pre i n=>match Nat.beq i id with|true=>.dead|false=>.pre i n
 | .jr i o n=>match Nat.beq i id with|true=>.dead|false=>.jr i o n
 | .addr i o=>match Nat.beq i id with|true=>.dead|false=>.addr i o
 | .agg _=>.dead
 | .bt _=>.dead
 | x=>x
def Ee (id:Nat):AV->AV
 | .agg cs=>.agg (cs.map (aE id))
 | x=>aE id x
def jM (id:Nat):AV->AV
 | .bt cs=>.bt (cs.map (Ee id))
 | x=>Ee id x
def cP (id:Nat) (r:Row):Row:=match r.pure with|true=>r|false=>⟨r.e,false,r.full,r.cells.map (aE id)⟩
def ck (id:Nat) (s:AS):AS:=⟨er (jM id) s.F,er (cP id) (cU s.H id)⟩
def lR (id:Nat) (r:Row):AV->AV
 | .ref i=>match Nat.beq i id with|true=>.sl r.e r.cells|false=>.ref i
 | .pre i n=>match Nat.beq i id with|true=>.sl r.e (r.cells.take n)|false=>.pre i n
 | .jr i o n=>match Nat.beq i id with|true=>.sl r.e ((r.cells.drop o).take n)|false=>.jr i o n
 | .addr i o=>match Nat.beq i id with|true=>.ptr r.cells o|false=>.addr i o
 | .agg _=>.dead
 | .bt _=>.dead
 | x=>x
def DL (id:Nat) (r:Row):AV->AV
 | .agg cs=>.agg (cs.map (lR id r))
 | x=>lR id r x
def LB (id:Nat) (r:Row):AV->AV
 | .bt cs=>.bt (cs.map (DL id r))
 | x=>DL id r x
def gD (id:Nat) (r:Row) (q:Row):Row:=match q.pure with|true=>q|false=>⟨q.e,false,q.full,q.cells.map (lR id r)⟩
def gP (id:Nat) (r:Row) (s:AS):AS:=⟨er (LB id r) s.F,er (gD id r) (cU s.H id)⟩
section
variable {I I':Info} {S S':Nat->Prop} {w w':World}
structure jV (I I':Info) (S S':Nat->Prop) (w:World) (f:AV->AV):Prop where
 leaf:∀v x,Den I S w v x->(∀cs,x≠ .agg cs)->(∀cs,x≠ .bt cs)->Den I' S' w v (f x)
 agg:∀cs,f (.agg cs)= .dead
 bt:∀cs,f (.bt cs)= .dead
theorem jV.all {f:AV->AV} (h:jV I I' S S' w f) {v:Value} {x:AV} (hx:Den I S w v x):Den I' S' w v (f x):=by
 cases x with
 | agg cs=>rw [h.agg];exact .dead _
 | bt cs=>rw [h.bt];exact .dead _
 | _=>exact h.leaf v _ hx (by intro cs e;cases e) (by intro cs e;cases e)
theorem kj {v:Value} {cs:List AV} (h:Den I S w v (.agg cs)):∃vs:List Value,v= .agg vs.toArray∧vs.length=cs.length∧ ∀(j:Nat) v c,vs[j]?=some v->cs[j]?=some c->Den I S w v c:=by
 cases h with
 | rep h=>cases h with|agg vs _ hl h=>exact ⟨vs,rfl,hl,fun j v c hv hc=>.rep (h j v c hv hc)⟩
 | agg vs _ hl h=>exact ⟨vs,rfl,hl,h⟩
theorem yu {v:Value} {cs:List AV} (h:Den I S w v (.bt cs)):∃vs:List Value,v= .tuple vs.toArray∧vs.length=cs.length∧ ∀(j:Nat) v c,vs[j]?=some v->cs[j]?=some c->Den I S w v c:=by
 cases h with
 | rep h=>cases h with|bt vs _ hl h=>exact ⟨vs,rfl,hl,fun j v c hv hc=>.rep (h j v c hv hc)⟩
 | bt vs _ hl h=>exact ⟨vs,rfl,hl,h⟩
theorem jV.one {f:AV->AV} (h:jV I I' S S' w f) {v:Value} {x:AV} (hx:Den I S w v x) {g:AV->AV} (hg:∀cs,g (.agg cs)= .agg (cs.map f)) (jb:∀y,(∀cs,y≠ .agg cs)->g y=f y):Den I' S' w v (g x):=by
 by_cases hc:∃cs,x= .agg cs
 ·obtain ⟨cs,rfl⟩:=hc
  obtain ⟨vs,rfl,hl,hd⟩:=kj hx
  rw [hg]
  refine .agg vs _ (by simpa using hl) fun j v c hv hc=>?_
  rw [List.getElem?_map] at hc
  cases hj:cs[j]? with
  | none=>rw [hj] at hc;cases hc
  | some y=>rw [hj] at hc;injection hc with hc;subst hc;exact h.all (hd j v y hv hj)
 ·rw [jb x fun cs e=>hc ⟨cs,e⟩]
  exact h.all hx
theorem jV.two {f:AV->AV} (h:jV I I' S S' w f) {v:Value} {x:AV} (hx:Den I S w v x) {g k:AV->AV} (hg:∀cs,g (.agg cs)= .agg (cs.map f)) (jb:∀y,(∀cs,y≠ .agg cs)->g y=f y)
  (hk:∀cs,k (.bt cs)= .bt (cs.map g)) (oz:∀y,(∀cs,y≠ .bt cs)->k y=g y):Den I' S' w v (k x):=by
 by_cases hc:∃cs,x= .bt cs
 ·obtain ⟨cs,rfl⟩:=hc
  obtain ⟨vs,rfl,hl,hd⟩:=yu hx
  rw [hk]
  refine .bt vs _ (by simpa using hl) fun j v c hv hc=>?_
  rw [List.getElem?_map] at hc
  cases hj:cs[j]? with
  | none=>rw [hj] at hc;cases hc
  | some y=>rw [hj] at hc;injection hc with hc;subst hc;exact h.one (hd j v y hv hj) hg jb
 ·rw [oz x fun cs e=>hc ⟨cs,e⟩]
  exact h.one hx hg jb
theorem Aq (id:Nat) (y:AV) (h:∀cs,y≠ .agg cs):Ee id y=aE id y:=by
 cases y with
 | agg cs=>exact absurd rfl (h cs)
 | _=>rfl
theorem Ap (id:Nat) (y:AV) (h:∀cs,y≠ .bt cs):jM id y=Ee id y:=by
 cases y with
 | bt cs=>exact absurd rfl (h cs)
 | _=>rfl
theorem zk (id:Nat) (r:Row) (y:AV) (h:∀cs,y≠ .agg cs):DL id r y=lR id r y:=by
 cases y with
 | agg cs=>exact absurd rfl (h cs)
 | _=>rfl
theorem zj (id:Nat) (r:Row) (y:AV) (h:∀cs,y≠ .bt cs):LB id r y=DL id r y:=by
 cases y with
 | bt cs=>exact absurd rfl (h cs)
 | _=>rfl
theorem ux (id:Nat) (hI:∀i x,i≠id->I i=some x->I' i=some x) (hS:∀b,S b->S' b):jV I I' S S' w (aE id) where
 agg:=fun _=>rfl
 bt:=fun _=>rfl
 leaf:=fun v x hx h1 h2=>by
  have sJ:∀b,S b->S' b∧w.heap[b]?=w.heap[b]?:=fun b h=>⟨hS b h,rfl⟩
  cases hx with
  | rep h=>cases h with
   | val v=>exact .rep (.val v)
   | nil=>exact .rep .nil
   | agg vs cs _ _=>exact absurd rfl (h1 cs)
   | bt vs cs _ _=>exact absurd rfl (h2 cs)
   | arr vs cs hl h=>exact .rep ((cB.arr vs cs hl h).mono sJ)
   | sl A n c e us row hl hn hc hm ha h=>exact .rep ((cB.sl A n c e us row hl hn hc hm ha h).mono sJ)
   | pf A n e us row hl hn hm ha h=>exact .rep ((cB.pf A n e us row hl hn hm ha h).mono sJ)
   | ptr ad us row off hl hs ha h=>exact .rep ((cB.ptr ad us row off hl hs ha h).mono sJ)
   | lK f vs cs hl h=>exact .rep ((cB.lK f vs cs hl h).mono sJ)
  | agg vs cs _ _=>exact absurd rfl (h1 cs)
  | bt vs cs _ _=>exact absurd rfl (h2 cs)
  | ref i e m g l c hi hm hc hx hs =>
   rcases bJ i id with ⟨h,e⟩|⟨h,e⟩<;>simp only [aE,h]
   ·exact .dead _
   ·exact .ref i _ m g l c (hI _ _ e hi) hm hc hx hs
  | cH i e hi =>
   rcases bJ i id with ⟨h,e⟩|⟨h,e⟩<;>simp only [aE,h]
   ·exact .dead _
   ·exact .cH i _ (hI _ _ e hi)
  | pre i n e m g l c hi hn hm hc hx hs =>
   rcases bJ i id with ⟨h,e⟩|⟨h,e⟩<;>simp only [aE,h]
   ·exact .dead _
   ·exact .pre i n _ m g l c (hI _ _ e hi) hn hm hc hx hs
  | dF i e hi =>
   rcases bJ i id with ⟨h,e⟩|⟨h,e⟩<;>simp only [aE,h]
   ·exact .dead _
   ·exact .dF i _ (hI _ _ e hi)
  | jr i off n e m l c g A hi hn hm hc hx ha =>
   rcases bJ i id with ⟨h,e⟩|⟨h,e⟩<;>simp only [aE,h]
   ·exact .dead _
   ·exact .jr i off n _ m l c g A (hI _ _ e hi) hn hm hc hx ha
  | addr i off e m g hi =>
   rcases bJ i id with ⟨h,e⟩|⟨h,e⟩<;>simp only [aE,h]
   ·exact .dead _
   ·exact .addr i off _ m g (hI _ _ e hi)
  | dead v=>exact .dead _
theorem Den.kill (id:Nat) (hI:∀i x,i≠id->I i=some x->I' i=some x) (hS:∀b,S b->S' b) {v:Value} {x:AV} (h:Den I S w v x):Den I' S' w v (jM id x) :=
 (ux id hI hS).two h (fun _=>rfl) (Aq id) (fun _=>rfl) (Ap id)
theorem fb {r:Row} {g l c:Nat} {cur:Array Value} {te:TypeId} {fr:Nat×Nat} (hg:w.heap[g]?=some (.cells cur te fr)) (hS:S g) (cells:List AV) (off:Nat) (hl:off+cells.length≤cur.size)
  (hn:cells.length=r.e*l) (hc:l≤c) (hm:c≤maxLen) (A:Option Addr) (hA:0<cells.length->A=some ⟨g,off,none⟩) (h:∀(j:Nat) u x,cur[off+j]?=some u->cells[j]?=some x->cB S w u x):cB S w (.slice A l c) (.sl r.e cells):=by
 refine .sl A l c r.e ((cur.toList.drop off).take cells.length) cells (by have:cur.toList.length=cur.size:=rfl;rw [List.length_take,List.length_drop];omega) hn hc hm (fun h0=>⟨_,hA h0,hS,fun j u hu=>?_⟩) (fun j u x hu hx=>?_)
 ·have e:(⟨g,off,none⟩:Addr).add j=⟨g,off+j,none⟩:=by unfold Addr.add;split<;>simp_all
  rw [e,cell_of_row w g _ cur te fr hg]
  rw [List.getElem?_take] at hu
  split at hu
  ·rw [List.getElem?_drop] at hu;simpa using hu
  ·cases hu
 ·refine h j u x ?_ hx
  rw [List.getElem?_take] at hu
  split at hu
  ·rw [List.getElem?_drop] at hu;simpa using hu
  ·cases hu
theorem o8 {g off:Nat} {cur:Array Value} {te:TypeId} {fr:Nat×Nat} (hg:w.heap[g]?=some (.cells cur te fr)) (hS:S g) (cells:List AV) (hl:cells.length≤cur.size)
  (h:∀(j:Nat) u x,cur[j]?=some u->cells[j]?=some x->cB S w u x):cB S w (.pointer (some ⟨g,off,none⟩)) (.ptr cells off):=by
 have e:∀j,(⟨g,0,none⟩:Addr).add j=⟨g,j,none⟩:=fe g
 have:=cB.ptr (S:=S) (w:=w) ⟨g,0,none⟩ (cur.toList.take cells.length) cells off (by have:cur.toList.length=cur.size:=rfl;rw [List.length_take];omega) hS (fun j u hu=>?_) (fun j u x hu hx=>?_)
 ·rw [e] at this;exact this
 ·rw [e,cell_of_row w g _ cur te fr hg]
  rw [List.getElem?_take] at hu
  split at hu
  ·simpa using hu
  ·cases hu
 ·refine h j u x ?_ hx
  rw [List.getElem?_take] at hu
  split at hu
  ·simpa using hu
  ·cases hu
end
def erase (φ:Nat->Option Nat) (id:Nat):Nat->Option Nat:=fun i=>if i=id then none else φ i
def fG (φ:Nat->Option Nat) (id g:Nat):Nat->Option Nat:=fun i=>if i=id then some g else φ i
section
variable {S0:bo} {w0 w w':World} {n:Nat} {O:List Nat} {s:AS} {a:Act} {φ:Nat->Option Nat}
theorem aQ {H:List (Nat×Row)} {id e m:Nat} {b:Option Nat} (h:az H φ id=some (e,m,b)):∃r,look H id=some r∧r.e=e∧r.cells.length=m∧φ id=b:=by
 unfold az at h
 cases hl:look H id with
 | none=>rw [hl] at h;cases h
 | some r=>rw [hl] at h;simp at h;exact ⟨r,rfl,h⟩
theorem bu {H:List (Nat×Row)} {id:Nat} {r:Row} (h:look H id=some r):az H φ id=some (r.e,r.cells.length,φ id):=by
 unfold az;rw [h];rfl
theorem fL (id:Nat) (r:Row):(cP id r).e=r.e∧(cP id r).cells.length=r.cells.length∧(cP id r).pure=r.pure∧(cP id r).full=r.full:=by
 unfold cP
 cases h:r.pure<;>simp [h]
theorem gp (id:Nat) (r q:Row):(gD id r q).e=q.e∧(gD id r q).cells.length=q.cells.length∧(gD id r q).pure=q.pure∧(gD id r q).full=q.full:=by
 unfold gD
 cases h:q.pure<;>simp [h]
theorem nC (id i:Nat) (x:Nat×Nat×Option Nat) (cX:i≠id) (h:az s.H φ i=some x):az (ck id s).H (erase φ id) i=some x:=by
 obtain ⟨e,m,b⟩:=x
 obtain ⟨r,hl,he,hm,hb⟩:=aQ h
 have:look (ck id s).H i=some (cP id r):=by
  unfold ck;rw [cz,bH,if_neg (Ne.symm cX),hl];rfl
 rw [bu this,(fL id r).1,(fL id r).2.1,he,hm]
 unfold erase;rw [if_neg cX,hb]
theorem kp (id i:Nat) (q:Row) (x:Nat×Nat×Option Nat) (cX:i≠id) (h:az s.H φ i=some x):az (gP id q s).H (erase φ id) i=some x:=by
 obtain ⟨e,m,b⟩:=x
 obtain ⟨r,hl,he,hm,hb⟩:=aQ h
 have:look (gP id q s).H i=some (gD id q r):=by
  unfold gP;rw [cz,bH,if_neg (Ne.symm cX),hl];rfl
 rw [bu this,(gp id q r).1,(gp id q r).2.1,he,hm]
 unfold erase;rw [if_neg cX,hb]
theorem aJ.jw (h:aJ S0 w0 n O s a w φ) (id:Nat) (O':List Nat) (hO:O'=match φ id with|some g=>g::O|none=>O):aJ S0 w0 n O' (ck id s) a w (erase φ id):=by
 have hF:∀b,aM S0 w φ O b->aM S0 w (erase φ id) O' b:=by
  intro b ⟨h1,h2,h3,h4⟩
  refine ⟨h1,?_,fun i hi=>?_,h4⟩
  ·rw [hO]
   cases cm:φ id with
   | none=>exact h2
   | some g =>
    simp only [List.mem_cons,not_or]
    exact ⟨fun e=>h3 id (by rw [cm,e]),h2⟩
  ·unfold erase at hi
   split at hi
   ·cases hi
   ·exact h3 i hi
 refine ⟨h.jQ,h.jT,h.cZ,fun i av hi=>?_,fun i r hr=>?_,fun i hi=>?_,fun i j g hi hj=>?_,fun i g hi=>?_,fun i g hi=>?_,h.new⟩
 ·unfold ck at hi
  rw [cz] at hi
  cases hl:look s.F i with
  | none=>rw [hl] at hi;cases hi
  | some x =>
   rw [hl] at hi;injection hi with hi;subst hi
   exact (h.cG i x hl).kill id (nC id) hF
 ·have il:=hr
  unfold ck at il
  rw [cz,bH] at il
  by_cases cX:id=i
  ·rw [if_pos cX] at il;cases il
  ·rw [if_neg cX] at il
   cases hl:look s.H i with
   | none=>rw [hl] at il;cases il
   | some q =>
    rw [hl] at il;injection il with il;subst il
    have hq:=h.rows i q hl
    have Cl:erase φ id i=φ i:=by unfold erase;rw [if_neg (Ne.symm cX)]
    rw [Cl]
    unfold bN at hq ⊢
    cases hb:φ i with
    | none =>
     rw [hb] at hq
     have:=(fL id q).2.1
     simp only at hq ⊢
     rw [hq] at this;exact List.length_eq_zero_iff.1 this
    | some g =>
     rw [hb] at hq
     obtain ⟨cur,te,fr,hg,hf,hlen,mT,hc⟩:=hq
     refine ⟨cur,te,fr,hg,hf,by rw [(fL id q).2.1];exact hlen,by rw [(fL id q).2.1,(fL id q).2.2.2];exact mT,fun j u x hu hx=>?_⟩
     rw [(fL id q).2.2.1]
     unfold bj
     cases hp:q.pure with
     | true =>
      have:cP id q=q:=by unfold cP;rw [hp]
      rw [this] at hx
      have:=hc j u x hu hx
      unfold bj at this;rw [hp] at this
      exact this.mono fun b hb=>⟨hF b hb,rfl⟩
     | false =>
      have:(cP id q).cells=q.cells.map (aE id):=by unfold cP;rw [hp]
      rw [this,List.getElem?_map] at hx
      cases hj:q.cells[j]? with
      | none=>rw [hj] at hx;cases hx
      | some y =>
       rw [hj] at hx;injection hx with hx;subst hx
       have:=hc j u y hu hj
       unfold bj at this;rw [hp] at this
       exact (ux id (nC id) hF).all this
 ·unfold ck at hi
  rw [cz,bH] at hi
  unfold erase
  by_cases cX:id=i
  ·rw [if_pos cX.symm]
  ·rw [if_neg cX] at hi
   rw [if_neg (Ne.symm cX)]
   refine h.only i ?_
   cases hl:look s.H i with
   | none=>rfl
   | some r=>rw [hl] at hi;cases hi
 ·unfold erase at hi hj
  split at hi
  ·cases hi
  ·split at hj
   ·cases hj
   ·exact h.inj i j g hi hj
 ·unfold erase at hi
  split at hi
  ·cases hi
  ·exact h.cY i g hi
 ·unfold erase at hi
  split at hi
  ·cases hi
  ·rename_i cX
   rw [hO]
   cases cm:φ id with
   | none=>exact h.apart i g hi
   | some g' =>
    simp only [List.mem_cons,not_or]
    exact ⟨fun e=>cX (h.inj i id g hi (by rw [cm,e])),h.apart i g hi⟩
theorem aJ.vW (h:aJ S0 w0 n O s a w φ) (hO:∀g∈O,w0.heap.size≤g∨S0.X g) (Ia:w'.os=w.os) (uB:w'.tape=w.tape) (uC:w'.output=w.output) (dC:w.heap.size≤w'.heap.size) (hb:∀b,b<w.heap.size->b ∉ O->w'.heap[b]?=w.heap[b]?):aJ S0 w0 n O s a w' φ:=by
 have hF:∀b,aM S0 w φ O b->aM S0 w' φ O b∧w'.heap[b]?=w.heap[b]?:=fun b h=>⟨⟨by have:=h.1;omega,h.2⟩,hb b h.1 h.2.1⟩
 have hL:∀id e m g,az s.H φ id=some (e,m,some g)->aV w' g=aV w g:=by
  intro id e m g hi
  obtain ⟨r,-,-,-,cm⟩:=aQ hi
  unfold aV;rw [hb g (h.cY id g cm).2 (h.apart id g cm)]
 refine ⟨h.jQ,h.jT,⟨Ia.trans h.cZ.os,uB.trans h.cZ.tape,uC.trans h.cZ.output,Nat.le_trans h.cZ.size dC,fun k hk hx=>?_,h.cZ.g0,h.cZ.gx⟩,fun i av hi=>(h.cG i av hi).mono (fun _ _ h=>h) hF hL,fun id r hr=>?_,h.only,h.inj,fun id g hg=>⟨(h.cY id g hg).1,Nat.lt_of_lt_of_le (h.cY id g hg).2 dC⟩,h.apart,h.new⟩
 ·rw [hb k (by have:=h.cZ.size;omega) (fun hm=>by rcases hO k hm with h|h;omega;exact hx h)]
  exact h.cZ.block k hk hx
 ·have aN:=h.rows id r hr
  unfold bN at aN ⊢
  cases cm:φ id with
  | none=>rw [cm] at aN;exact aN
  | some g =>
   rw [cm] at aN
   obtain ⟨cur,te,fr,hg,hf,hl,mT,hc⟩:=aN
   refine ⟨cur,te,fr,(hb g (h.cY id g cm).2 (h.apart id g cm)).trans hg,hf,hl,mT,fun j u x hu hx=>?_⟩
   have bw:=hc j u x hu hx
   unfold bj at bw ⊢
   cases hp:r.pure with
   | true=>rw [hp] at bw;exact bw.mono hF
   | false=>rw [hp] at bw;exact bw.mono (fun _ _ h=>h) hF hL
theorem aJ.await (h:aJ S0 w0 n O s a w φ) (g:Nat) (hg:w.heap.size≤g):aJ S0 w0 n (g::O) s a w φ:=by
 have hF:∀b,aM S0 w φ O b->aM S0 w φ (g::O) b∧w.heap[b]?=w.heap[b]?:=fun b h=>⟨⟨h.1,by simp only [List.mem_cons,not_or];exact ⟨by have:=h.1;omega,h.2.1⟩,h.2.2⟩,rfl⟩
 have hL:∀id e m g,az s.H φ id=some (e,m,some g)->aV w g=aV w g:=fun _ _ _ _ _=>rfl
 refine ⟨h.jQ,h.jT,h.cZ,fun i av hi=>(h.cG i av hi).mono (fun _ _ h=>h) hF hL,fun id r hr=>?_,h.only,h.inj,h.cY,fun id g' jb=>?_,h.new⟩
 ·have aN:=h.rows id r hr
  unfold bN at aN ⊢
  cases cm:φ id with
  | none=>rw [cm] at aN;exact aN
  | some g =>
   rw [cm] at aN
   obtain ⟨cur,te,fr,hg,hf,hl,mT,hc⟩:=aN
   refine ⟨cur,te,fr,hg,hf,hl,mT,fun j u x hu hx=>?_⟩
   have bw:=hc j u x hu hx
   unfold bj at bw ⊢
   cases hp:r.pure with
   | true=>rw [hp] at bw;exact bw.mono hF
   | false=>rw [hp] at bw;exact bw.mono (fun _ _ h=>h) hF hL
 ·simp only [List.mem_cons,not_or]
  exact ⟨by have:=(h.cY id g' jb).2;omega,h.apart id g' jb⟩
theorem rn {id g:Nat} (hid:φ id=none) (b:Nat):aM S0 w φ (g::O) b↔aM S0 w (fG φ id g) O b:=by
 unfold aM fG
 constructor
 ·rintro ⟨h1,h2,h3,h4⟩
  simp only [List.mem_cons,not_or] at h2
  refine ⟨h1,h2.2,fun i hi=>?_,h4⟩
  split at hi
  ·injection hi with hi;exact h2.1 hi.symm
  ·exact h3 i hi
 ·rintro ⟨h1,h2,h3,h4⟩
  refine ⟨h1,?_,fun i hi=>?_,h4⟩
  ·simp only [List.mem_cons,not_or]
   exact ⟨fun e=>h3 id (by rw [if_pos rfl,e]),h2⟩
  ·by_cases e:i=id
   ·subst e;rw [hid] at hi;cases hi
   ·exact h3 i (by rw [if_neg e];exact hi)
theorem aJ.wX {g id:Nat} {r:Row} (h:aJ S0 w0 n (g::O) s a w φ) (AF:Qj S0 w0 id g) (FD:g<w.heap.size) (PG:g ∉ O) (hid:look s.H id=none)
  (hr:bN (az s.H φ) (aM S0 w φ (g::O)) w (some g) r):aJ S0 w0 n O ⟨s.F,(id,r)::s.H⟩ a w (fG φ id g):=by
 have cm:=h.only id hid
 have hF:∀b,aM S0 w φ (g::O) b->aM S0 w (fG φ id g) O b∧w.heap[b]?=w.heap[b]?:=fun b hb=>⟨(rn cm b).1 hb,rfl⟩
 have hI:∀i x,az s.H φ i=some x->az ((id,r)::s.H) (fG φ id g) i=some x:=by
  intro i x hi
  obtain ⟨e,m,b⟩:=x
  obtain ⟨q,hl,he,hm,hb⟩:=aQ hi
  have cX:id≠i:=fun e=>by subst e;rw [hid] at hl;cases hl
  rw [bu (r:=q) (by rw [aD,if_neg cX,hl])]
  unfold fG;rw [if_neg (Ne.symm cX),he,hm,hb]
 have hL:∀id e m g,az s.H φ id=some (e,m,some g)->aV w g=aV w g:=fun _ _ _ _ _=>rfl
 have aN:∀b q,bN (az s.H φ) (aM S0 w φ (g::O)) w b q->bN (az ((id,r)::s.H) (fG φ id g)) (aM S0 w (fG φ id g) O) w b q:=by
  intro b q hq
  unfold bN at hq ⊢
  cases b with
  | none=>exact hq
  | some g' =>
   obtain ⟨cur,te,fr,hg,hf,hl,mT,hc⟩:=hq
   refine ⟨cur,te,fr,hg,hf,hl,mT,fun j u x hu hx=>?_⟩
   have bw:=hc j u x hu hx
   unfold bj at bw ⊢
   cases hp:q.pure with
   | true=>rw [hp] at bw;exact bw.mono hF
   | false=>rw [hp] at bw;exact bw.mono hI hF hL
 refine ⟨h.jQ,h.jT,h.cZ,fun i av hi=>(h.cG i av hi).mono hI hF hL,fun i q hq=>?_,fun i hi=>?_,fun i j g' hi hj=>?_,fun i g' hi=>?_,fun i g' hi=>?_,h.new⟩
 ·rw [aD] at hq
  by_cases e:id=i
  ·rw [if_pos e] at hq;injection hq with hq;subst hq;subst e
   have:fG φ id g id=some g:=by unfold fG;rw [if_pos rfl]
   rw [this];exact aN _ _ hr
  ·rw [if_neg e] at hq
   have:fG φ id g i=φ i:=by unfold fG;rw [if_neg (Ne.symm e)]
   rw [this];exact aN _ _ (h.rows i q hq)
 ·rw [aD] at hi
  by_cases e:id=i
  ·rw [if_pos e] at hi;cases hi
  ·rw [if_neg e] at hi
   unfold fG;rw [if_neg (Ne.symm e)];exact h.only i hi
 ·have cX:∀i,φ i=some g'->g'≠g:=fun i hi e=>h.apart i g' hi (by rw [e];simp)
  unfold fG at hi hj
  split at hi<;>split at hj
  ·omega
  ·injection hi with hi;exact absurd hi.symm (cX j hj)
  ·injection hj with hj;exact absurd hj.symm (cX i hi)
  ·exact h.inj i j g' hi hj
 ·unfold fG at hi
  split at hi
  ·rename_i e;injection hi with hi;subst hi;exact ⟨e ▸ AF,FD⟩
  ·exact h.cY i g' hi
 ·unfold fG at hi
  split at hi
  ·injection hi with hi;subst hi;exact PG
  ·exact fun hm=>h.apart i g' hi (by simp [hm])
theorem aJ.rK (h:aJ S0 w0 n O s a w φ) {id:Nat} {r:Row} (hid:look s.H id=none) (hr:r.cells= []):aJ S0 w0 n O ⟨s.F,(id,r)::s.H⟩ a w φ:=by
 have cm:=h.only id hid
 have hI:∀i x,az s.H φ i=some x->az ((id,r)::s.H) φ i=some x:=by
  intro i x hi
  obtain ⟨e,m,b⟩:=x
  obtain ⟨q,hl,he,hm,hb⟩:=aQ hi
  have cX:id≠i:=fun e=>by subst e;rw [hid] at hl;cases hl
  rw [bu (r:=q) (by rw [aD,if_neg cX,hl]),he,hm,hb]
 have hF:∀b,aM S0 w φ O b->aM S0 w φ O b∧w.heap[b]?=w.heap[b]?:=fun b hb=>⟨hb,rfl⟩
 have hL:∀id e m g,az s.H φ id=some (e,m,some g)->aV w g=aV w g:=fun _ _ _ _ _=>rfl
 refine ⟨h.jQ,h.jT,h.cZ,fun i av hi=>(h.cG i av hi).mono hI hF hL,fun i q hq=>?_,fun i hi=>?_,h.inj,h.cY,h.apart,h.new⟩
 ·rw [aD] at hq
  by_cases e:id=i
  ·rw [if_pos e] at hq;injection hq with hq;subst hq;subst e
   rw [cm];exact hr
  ·rw [if_neg e] at hq
   have gM:=h.rows i q hq
   unfold bN at gM ⊢
   cases hb:φ i with
   | none=>rw [hb] at gM;exact gM
   | some g' =>
    rw [hb] at gM
    obtain ⟨cur,te,fr,hg,hf,hl,mT,hc⟩:=gM
    refine ⟨cur,te,fr,hg,hf,hl,mT,fun j u x hu hx=>?_⟩
    have bw:=hc j u x hu hx
    unfold bj at bw ⊢
    cases hp:q.pure with
    | true=>rw [hp] at bw;exact bw
    | false=>rw [hp] at bw;exact bw.mono hI hF hL
 ·rw [aD] at hi
  by_cases e:id=i
  ·rw [if_pos e] at hi;cases hi
  ·rw [if_neg e] at hi;exact h.only i hi
theorem aJ.uT {g:Nat} (h:aJ S0 w0 n (g::O) s a w φ):aJ S0 w0 n O s a w φ:=by
 have hF:∀b,aM S0 w φ (g::O) b->aM S0 w φ O b∧w.heap[b]?=w.heap[b]?:=fun b h=>⟨⟨h.1,fun hm=>h.2.1 (by simp [hm]),h.2.2⟩,rfl⟩
 have hL:∀id e m g,az s.H φ id=some (e,m,some g)->aV w g=aV w g:=fun _ _ _ _ _=>rfl
 refine ⟨h.jQ,h.jT,h.cZ,fun i av hi=>(h.cG i av hi).mono (fun _ _ h=>h) hF hL,fun id r hr=>?_,h.only,h.inj,h.cY,fun id g' jb hm=>h.apart id g' jb (by simp [hm]),h.new⟩
 have aN:=h.rows id r hr
 unfold bN at aN ⊢
 cases cm:φ id with
 | none=>rw [cm] at aN;exact aN
 | some g =>
  rw [cm] at aN
  obtain ⟨cur,te,fr,hg,hf,hl,mT,hc⟩:=aN
  refine ⟨cur,te,fr,hg,hf,hl,mT,fun j u x hu hx=>?_⟩
  have bw:=hc j u x hu hx
  unfold bj at bw ⊢
  cases hp:r.pure with
  | true=>rw [hp] at bw;exact bw.mono hF
  | false=>rw [hp] at bw;exact bw.mono (fun _ _ h=>h) hF hL
theorem aJ.LA (h:aJ S0 w0 n O s a w φ) {id:Nat} {r:Row} (hr:look s.H id=some r) (hp:r.pure=true):aJ S0 w0 n O (gP id r s) a w (erase φ id):=by
 have hF:∀b,aM S0 w φ O b->aM S0 w (erase φ id) O b:=by
  intro b ⟨h1,h2,h3,h4⟩
  refine ⟨h1,h2,fun i hi=>?_,h4⟩
  unfold erase at hi
  split at hi
  ·cases hi
  ·exact h3 i hi
 have Ni:∀b,aM S0 w φ O b->aM S0 w (erase φ id) O b∧w.heap[b]?=w.heap[b]?:=fun b hb=>⟨hF b hb,rfl⟩
 have aN:=h.rows id r hr
 have hI:=bu (φ:=φ) hr
 have ok:jV (az s.H φ) (az (gP id r s).H (erase φ id)) (aM S0 w φ O) (aM S0 w (erase φ id) O) w (lR id r):=by
  refine ⟨fun v x hx h1 h2=>?_,fun _=>rfl,fun _=>rfl⟩
  have QH:∀g,φ id=some g->aM S0 w (erase φ id) O g:=fun g hg=>⟨(h.cY id g hg).2,h.apart id g hg,fun i hi=>by
   unfold erase at hi
   split at hi
   ·cases hi
   ·rename_i cX;exact cX (h.inj i id g hi hg),h.new g (h.cY id g hg).1.2⟩
  have AH:∀g,φ id=some g-> ∃cur te fr,w.heap[g]?=some (.cells cur te fr)∧r.cells.length≤cur.size∧ ∀(j:Nat) u x,cur[j]?=some u->r.cells[j]?=some x->cB (aM S0 w (erase φ id) O) w u x:=by
   intro g hg
   have H7:=aN
   unfold bN at H7
   rw [hg] at H7
   obtain ⟨cur,te,fr,jb,hf,hl,-,hc⟩:=H7
   refine ⟨cur,te,fr,jb,hl,fun j u x hu hx=>?_⟩
   have:=hc j u x hu hx
   unfold bj at this;rw [hp] at this
   exact this.mono Ni
  have DM:∀(l:List AV) (k j:Nat) (x:AV),(l.take k)[j]?=some x->l[j]?=some x:=by
   intro l k j x hx
   rw [List.getElem?_take] at hx
   split at hx
   ·exact hx
   ·cases hx
  cases hx with
  | rep h=>cases h with
   | val v=>exact .rep (.val v)
   | nil=>exact .rep .nil
   | agg vs cs _ _=>exact absurd rfl (h1 cs)
   | bt vs cs _ _=>exact absurd rfl (h2 cs)
   | arr vs cs hl h=>exact .rep ((cB.arr vs cs hl h).mono Ni)
   | sl A n c e us row hl hn hc hm ha h=>exact .rep ((cB.sl A n c e us row hl hn hc hm ha h).mono Ni)
   | pf A n e us row hl hn hm ha h=>exact .rep ((cB.pf A n e us row hl hn hm ha h).mono Ni)
   | ptr ad us row off hl hs ha h=>exact .rep ((cB.ptr ad us row off hl hs ha h).mono Ni)
   | lK f vs cs hl h=>exact .rep ((cB.lK f vs cs hl h).mono Ni)
  | agg vs cs _ _=>exact absurd rfl (h1 cs)
  | bt vs cs _ _=>exact absurd rfl (h2 cs)
  | ref i e m g l c hi hm hc hx hs =>
   rcases bJ i id with ⟨hb,e'⟩|⟨hb,e'⟩<;>simp only [lR,hb]
   ·subst e'
    rw [hI] at hi;injection hi with hi;injection hi with he hi;injection hi with LQ hg
    obtain ⟨cur,te,fr,jb,hl,k7⟩:=AH g hg
    exact .rep (fb (r:=r) jb (QH g hg) r.cells 0 aj (by rw [LQ,he];exact hm) hc hx _ (fun _=>rfl) (fun j u x hu hx=>k7 j u x (by simpa using hu) hx))
   ·exact .ref i _ m g l c (kp id i r _ e' hi) hm hc hx hs
  | cH i e hi =>
   rcases bJ i id with ⟨hb,e'⟩|⟨hb,e'⟩<;>simp only [lR,hb]
   ·subst e'
    rw [hI] at hi;injection hi with hi;injection hi with he hi;injection hi with LQ hg
    have h0:r.cells= []:=List.length_eq_zero_iff.1 LQ
    rw [h0]
    exact .rep (.sl none 0 0 _ [] [] rfl (by simp) (by simp) (by simp) (fun h=>by simp at h) (fun j u x hu=>by simp at hu))
   ·exact .cH i _ (kp id i r _ e' hi)
  | pre i k e m g l c hi hn hm hc hx hs =>
   rcases bJ i id with ⟨hb,e'⟩|⟨hb,e'⟩<;>simp only [lR,hb]
   ·subst e'
    rw [hI] at hi;injection hi with hi;injection hi with he hi;injection hi with LQ hg
    obtain ⟨cur,te,fr,jb,hl,k7⟩:=AH g hg
    exact .rep (fb (r:=r) jb (QH g hg) (r.cells.take k) 0 (by rw [List.length_take];omega) (by rw [List.length_take,he,←hn];omega) hc hx _ (fun _=>rfl) (fun j u x hu hx=>k7 j u x (by simpa using hu) (DM _ _ _ _ hx)))
   ·exact .pre i k _ m g l c (kp id i r _ e' hi) hn hm hc hx hs
  | dF i e hi =>
   rcases bJ i id with ⟨hb,e'⟩|⟨hb,e'⟩<;>simp only [lR,hb]
   ·simp only [List.take_zero]
    exact .rep (.sl none 0 0 _ [] [] rfl (by simp) (by simp) (by simp) (fun h=>by simp at h) (fun j u x hu=>by simp at hu))
   ·exact .dF i _ (kp id i r _ e' hi)
  | jr i off k e m l c g A hi hn hm hc hx ha =>
   rcases bJ i id with ⟨hb,e'⟩|⟨hb,e'⟩<;>simp only [lR,hb]
   ·subst e'
    rw [hI] at hi;injection hi with hi;injection hi with he hi;injection hi with LQ hg
    have hlen:((r.cells.drop off).take k).length=k:=by rw [List.length_take,List.length_drop];omega
    by_cases hk:0<k
    ·obtain ⟨b,kO,hA⟩:=ha hk
     rw [kO] at hg
     obtain ⟨cur,te,fr,jb,hl,k7⟩:=AH b hg
     exact .rep (fb (r:=r) jb (QH b hg) ((r.cells.drop off).take k) off (by rw [hlen];omega) (by rw [hlen,he,←hn]) hc hx _ (fun _=>hA) (fun j u x hu hx=>k7 (off+j) u x hu (by have:=DM _ _ _ _ hx;rw [List.getElem?_drop] at this;exact this)))
    ·have h0:(r.cells.drop off).take k= []:=List.length_eq_zero_iff.1 aj
     rw [h0]
     exact .rep (.sl A l c r.e [] [] rfl (by rw [he];simp;omega) hc hx (fun h=>by simp at h) (fun j u x hu=>by simp at hu))
   ·exact .jr i off k _ m l c g A (kp id i r _ e' hi) hn hm hc hx ha
  | addr i off e m g hi =>
   rcases bJ i id with ⟨hb,e'⟩|⟨hb,e'⟩<;>simp only [lR,hb]
   ·subst e'
    rw [hI] at hi;injection hi with hi;injection hi with he hi;injection hi with LQ hg
    obtain ⟨cur,te,fr,jb,hl,k7⟩:=AH g hg
    exact .rep (o8 jb (QH g hg) r.cells hl k7)
   ·exact .addr i off _ m g (kp id i r _ e' hi)
  | dead v=>exact .dead _
 refine ⟨h.jQ,h.jT,h.cZ,fun i av hi=>?_,fun i q hq=>?_,fun i hi=>?_,fun i j g hi hj=>?_,fun i g hi=>?_,fun i g hi=>?_,h.new⟩
 ·unfold gP at hi
  rw [cz] at hi
  cases hl:look s.F i with
  | none=>rw [hl] at hi;cases hi
  | some x =>
   rw [hl] at hi;injection hi with hi;subst hi
   exact ok.two (h.cG i x hl) (fun _=>rfl) (zk id r) (fun _=>rfl) (zj id r)
 ·have il:=hq
  unfold gP at il
  rw [cz,bH] at il
  by_cases cX:id=i
  ·rw [if_pos cX] at il;cases il
  ·rw [if_neg cX] at il
   cases hl:look s.H i with
   | none=>rw [hl] at il;cases il
   | some p =>
    rw [hl] at il;injection il with il;subst il
    have gM:=h.rows i p hl
    have Cl:erase φ id i=φ i:=by unfold erase;rw [if_neg (Ne.symm cX)]
    rw [Cl]
    unfold bN at gM ⊢
    cases hb:φ i with
    | none =>
     rw [hb] at gM
     have:=(gp id r p).2.1
     simp only at gM ⊢
     rw [gM] at this;exact List.length_eq_zero_iff.1 this
    | some g =>
     rw [hb] at gM
     obtain ⟨cur,te,fr,hg,hf,hlen,mT,hc⟩:=gM
     refine ⟨cur,te,fr,hg,hf,by rw [(gp id r p).2.1];exact hlen,by rw [(gp id r p).2.1,(gp id r p).2.2.2];exact mT,fun j u x hu hx=>?_⟩
     rw [(gp id r p).2.2.1]
     unfold bj
     cases En:p.pure with
     | true =>
      have:gD id r p=p:=by unfold gD;rw [En]
      rw [this] at hx
      have:=hc j u x hu hx
      unfold bj at this;rw [En] at this
      exact this.mono Ni
     | false =>
      have:(gD id r p).cells=p.cells.map (lR id r):=by unfold gD;rw [En]
      rw [this,List.getElem?_map] at hx
      cases hj:p.cells[j]? with
      | none=>rw [hj] at hx;cases hx
      | some y =>
       rw [hj] at hx;injection hx with hx;subst hx
       have:=hc j u y hu hj
       unfold bj at this;rw [En] at this
       exact ok.all this
 ·unfold gP at hi
  rw [cz,bH] at hi
  unfold erase
  by_cases cX:id=i
  ·rw [if_pos cX.symm]
  ·rw [if_neg cX] at hi
   rw [if_neg (Ne.symm cX)]
   refine h.only i ?_
   cases hl:look s.H i with
   | none=>rfl
   | some r=>rw [hl] at hi;cases hi
 ·unfold erase at hi hj
  split at hi
  ·cases hi
  ·split at hj
   ·cases hj
   ·exact h.inj i j g hi hj
 ·unfold erase at hi
  split at hi
  ·cases hi
  ·exact h.cY i g hi
 ·unfold erase at hi
  split at hi
  ·cases hi
  ·exact h.apart i g hi
end
def bz:List Prop->Prop
 | []=>True
 | p::l=>p∧bz l
structure Hint where
 av:Option AV:=none
 k:Nat:=0
 m:Nat:=0
 b:Bool:=true
 g:Bool:=true
 ln:List (Nat×Nat):=[]
 ho:List (Nat×Row):=[]
def j_ {α:Type} (P:Program):Sem α->Option α
 | .pure a=>some a
 | .program k=>j_ P (k P)
 | .mark _ k=>j_ P k
 | _=>none
theorem fK {α:Type} {P:Program} (w:World):∀ {x:Sem α} {a:α},j_ P x=some a->x.run P w= .ok a w
 | .pure a,_,h=>by injection h with h;subst h;rfl
 | .program k,a,h=>by show (k P).run P w=_;exact fK w h
 | .mark _ k,a,h=>by show k.run P w=_;exact fK w h
 | .load ..,_,h| .store ..,_,h| .new ..,_,h| .shape ..,_,h| .freeze ..,_,h| .frozen ..,_,h| .getObj ..,_,h| .setObj ..,_,h| .choose ..,_,h| .sys ..,_,h| .halt ..,_,h=>by cases h
def bC:Value->AV
 | .slice none 0 0=>.nil
 | v=>.val v
def yw:Value->AV
 | .agg cs=>.agg (cs.toList.map bC)
 | v=>bC v
def bq (s:AS):Operand->AV
 | .tmp t=>jS s t
 | .const v=>yw v
 | .global _=>.dead
 | .func f=>.val (.func (.func f) #[] #[])
section
variable {I:Info} {S:Nat->Prop} {w:World}
theorem fP (v:Value):cB S w v (bC v):=by
 unfold bC
 split
 ·exact .nil
 ·exact .val _
theorem E7 (v:Value):cB S w v (yw v):=by
 unfold yw
 split
 ·rename_i cs
  have:=cB.agg (S:=S) (w:=w) cs.toList (cs.toList.map bC) (by simp) (fun j v c hv hc=>by
   rw [List.getElem?_map,hv] at hc
   injection hc with hc;subst hc;exact fP v)
  simpa using this
 ·exact fP _
end
section
variable {S0:bo} {w0 w:World} {n:Nat} {O:List Nat} {s:AS} {a:Act} {φ:Nat->Option Nat} {P:Program}
theorem aJ.bq (h:aJ S0 w0 n O s a w φ) (x:Operand):Den (az s.H φ) (aM S0 w φ O) w (a.eval x) (bq s x):=by
 cases x with
 | tmp t=>exact h.get t
 | const v=>exact .rep (E7 v)
 | global g=>exact .dead _
 | func f=>exact .rep (.val _)
end
theorem bK {I:Info} {S:Nat->Prop} {w:World} {v u:Value} (h:Den I S w v (.val u)):v=u:=by
 cases h with|rep h=>cases h;rfl
def dc (P:Program) (s:AS) (o:Oper) (x:AV) (C:List Prop):Prop :=
 bz C-> ∀S0 w0 n O a w φ,aJ S0 w0 n O s a w φ-> ∃v,(execOp a.eval o).run P w= .ok (.value v) w∧Den (az s.H φ) (aM S0 w φ O) w v x
def fin (h:Hint) (r:AV×List Prop):AV×List Prop:=match h.av with|none=>r|some y=>(y,(r.1=y)::r.2)
theorem gA {P:Program} {s:AS} {o:Oper} {h:Hint} {r:AV×List Prop} (hr:dc P s o r.1 r.2):dc P s o (fin h r).1 (fin h r).2:=by
 unfold fin
 split
 ·exact hr
 ·rename_i y _
  intro hC
  obtain ⟨rfl,hC⟩:=hC
  exact hr hC
def eC (P:Program) (t:TypeId):Option Nat:=(P.info? t).map (·.size)
def cJ (P:Program) (t:TypeId):Bool:=match P.underlying t with|some (.struct _)|some (.array _ _)=>true|_=>false
def HX (P:Program) (t:TypeId):Bool:=match P.underlying t with|some (.array _ _)=>true|_=>false
def TM (P:Program) (t:TypeId):Option TypeId:=match P.underlying t with|some (.slice e)=>some e|_=>none
section
variable {P:Program} {w:World}
theorem run_sizeOf {t:TypeId} {k:Nat} (h:eC P t=some k):(sizeOf t).run P w= .ok k w:=by
 unfold eC at h
 cases hi:P.info? t with
 | none=>rw [hi] at h;cases h
 | some i=>rw [hi] at h;injection h with h;simp [sizeOf,typeInfo,hi,h]
theorem ix {t:TypeId} (hu:∃d,P.underlying t=some d):(isAgg t).run P w= .ok (cJ P t) w:=by
 obtain ⟨d,hd⟩:=hu
 unfold isAgg cJ
 simp only [Sem.run_bind,run_underlying hd,Result.andThen_ok,hd]
 cases d<;>rfl
end
def I7 (P:Program) (op:BinOp) (t:TypeId) (x y:Operand) (u v:Value):Option (AV×List Prop) :=
 match op,u,v with
 | .quo,.int k a,.int k' b=>if k=k' then some (.val (.int k (k.wrap (a.tdiv b))),[b≠0]) else none
 | .rem,.int k a,.int k' b=>if k=k' then some (.val (.int k (a.tmod b)),[b≠0]) else none
 | .shl,.int k a,.int _ b=>some (.val (.int k (k.wrap (a*2^min b.toNat k.bits))),[0≤b])
 | .shr,.int k a,.int _ b=>some (.val (.int k (a.fdiv (2^min b.toNat k.bits))),[0≤b])
 | .add,.string a,.string b=>some (.val (.string (a++b)),[a.size+b.size≤9223372036854775807])
 | op,u,v=>match j_ P (do eqGuard op t x y u v;binOp op t u v) with|some z=>some (.val z,[])|none=>none
theorem I6 {P:Program} {s:AS} {o:Oper} {op:BinOp} {t t':TypeId} {x y:Operand} {u v:Value} {r:AV×List Prop} (ho:o.op= .binOp op t x y t') (hx:bq s x= .val u) (hy:bq s y= .val v) (h:I7 P op t x y u v=some r):dc P s o r.1 r.2:=by
 intro hC S0 w0 n O a w φ hs
 have ex:a.eval x=u:=bK (hx ▸ hs.bq x)
 have ey:a.eval y=v:=bK (hy ▸ hs.bq y)
 unfold execOp
 simp only [ho,ex,ey]
 unfold I7 at h
 split at h
 ·split at h
  ·rename_i hk
   injection h with h;subst h;subst hk
   have hb:=hC.1
   refine ⟨_,?_,.rep (.val _)⟩
   simp [eqGuard,binOp,Op.intDiv,hb]
  ·cases h
 ·split at h
  ·rename_i hk
   injection h with h;subst h;subst hk
   have hb:=hC.1
   refine ⟨_,?_,.rep (.val _)⟩
   simp [eqGuard,binOp,Op.intDiv,hb]
  ·cases h
 ·injection h with h;subst h
  have hb:¬(_:Int)<0:=Int.not_lt.2 hC.1
  refine ⟨_,?_,.rep (.val _)⟩
  simp [eqGuard,binOp,Op.shift,hb]
 ·injection h with h;subst h
  have hb:¬(_:Int)<0:=Int.not_lt.2 hC.1
  refine ⟨_,?_,.rep (.val _)⟩
  simp [eqGuard,binOp,Op.shift,hb]
 ·injection h with h;subst h
  have hb:¬(IntKind.i64.max<((_:Nat):Int)):=fun q=>by
   have h1:=hC.1
   have h2:IntKind.i64.max=9223372036854775807:=rfl
   rw [h2] at q
   exact absurd (Int.ofNat_le.2 h1) (Int.not_le.2 q)
  refine ⟨_,?_,.rep (.val _)⟩
  simp only [eqGuard,binOp,Op.stringOp,gt_iff_lt,if_neg hb]
  simp
 ·split at h
  ·rename_i z hz
   injection h with h;subst h
   refine ⟨z,?_,.rep (.val _)⟩
   rw [Sem.run_bind,fK w hz];rfl
  ·cases h
def Nr (P:Program) (op:UnOp) (u:Value):Option (AV×List Prop):=match j_ P (Op.unary op u) with|some z=>some (.val z,[])|none=>none
theorem K_ {P:Program} {s:AS} {o:Oper} {op:UnOp} {t:TypeId} {x:Operand} {u:Value} {r:AV×List Prop} (ho:o.op= .unOp op t x) (hx:bq s x= .val u) (h:Nr P op u=some r):dc P s o r.1 r.2:=by
 intro hC S0 w0 n O a w φ hs
 have ex:a.eval x=u:=bK (hx ▸ hs.bq x)
 unfold execOp
 simp only [ho,ex]
 unfold Nr at h
 split at h
 ·rename_i z hz
  injection h with h;subst h
  refine ⟨z,?_,.rep (.val _)⟩
  rw [Sem.run_bind,fK w hz];rfl
 ·cases h
def jE (s:AS):AV->Option AV
 | .ref id=>match look s.H id with|some r=>(match r.pure with|true=>some (.sl r.e r.cells)|false=>none)|none=>none
 | .pre id n=>match look s.H id with|some r=>(match r.pure with|true=>some (.sl r.e (r.cells.take n))|false=>none)|none=>none
 | .jr id o n=>match look s.H id with|some r=>(match r.pure with|true=>some (.sl r.e ((r.cells.drop o).take n))|false=>none)|none=>none
 | .addr id o=>match look s.H id with|some r=>(match r.pure with|true=>some (.ptr r.cells o)|false=>none)|none=>none
 | .agg _=>none
 | .bt _=>none
 | .dead=>none
 | .own _ _=>none
 | .box _=>none
 | x=>some x
def oD (s:AS):List AV->Option (List AV)
 | []=>some []
 | x::l=>match jE s x,oD s l with|some y,some m=>some (y::m)|_,_=>none
def view (s:AS):AV->Option AV
 | .agg cs=>match oD s cs with|some l=>some (.agg l)|none=>none
 | x=>jE s x
section
variable {S0:bo} {w0 w:World} {n:Nat} {O:List Nat} {s:AS} {a:Act} {φ:Nat->Option Nat} {P:Program}
theorem kD (h:aJ S0 w0 n O s a w φ) {id:Nat} {r:Row} {g:Nat} (hr:look s.H id=some r) (hp:r.pure=true) (hg:φ id=some g) :
  ∃cur te fr,w.heap[g]?=some (.cells cur te fr)∧(∀j,j<cur.size-> ¬(fr.1≤j∧j<fr.2))∧r.cells.length≤cur.size∧ ∀(j:Nat) u x,cur[j]?=some u->r.cells[j]?=some x->cB (aM S0 w φ O) w u x:=by
 have aN:=h.rows id r hr
 unfold bN at aN
 rw [hg] at aN
 obtain ⟨cur,te,fr,jb,hf,hl,-,hc⟩:=aN
 refine ⟨cur,te,fr,jb,hf,hl,fun j u x hu hx=>?_⟩
 have:=hc j u x hu hx
 unfold bj at this;rw [hp] at this
 exact this
theorem qf (b:Nat) (h:aM S0 w φ O b):b<w.heap.size∧w.heap[b]?=w.heap[b]?:=⟨h.1,rfl⟩
theorem bW {α:Type} (l:List α) (k j:Nat) (x:α) (hx:(l.take k)[j]?=some x):l[j]?=some x:=by
 rw [List.getElem?_take] at hx
 split at hx
 ·exact hx
 ·cases hx
theorem iN {S:Nat->Prop} (A:Option Addr) (l c e:Nat) (hn:0=e*l) (hc:l≤c) (hm:c≤maxLen):cB S w (.slice A l c) (.sl e []) :=
 .sl A l c e [] [] rfl hn hc hm (fun h=>by simp at h) (fun j u x hu=>by simp at hu)
theorem zg (h:aJ S0 w0 n O s a w φ) {v:Value} {x y:AV} (hx:Den (az s.H φ) (aM S0 w φ O) w v x) (hv:jE s x=some y):cB (fun b=>b<w.heap.size) w v y:=by
 cases hx with
 | rep h =>
  have:=h.mono (qf (w:=w) (φ:=φ) (O:=O))
  cases h<;>simp [jE] at hv<;>subst hv<;>exact this
 | agg vs cs _ _=>simp [jE] at hv
 | bt vs cs _ _=>simp [jE] at hv
 | dead v=>simp [jE] at hv
 | ref id e m g l c hi hm hc hx hs =>
  obtain ⟨r,hr,he,m7,cm⟩:=aQ hi
  simp only [jE,hr] at hv
  cases hp:r.pure with
  | false=>rw [hp] at hv;cases hv
  | true =>
   rw [hp] at hv;injection hv with hv;subst hv
   obtain ⟨cur,te,fr,hg,hf,hl,k7⟩:=kD h hr hp cm
   exact fb (r:=r) hg (h.cY id g cm).2 r.cells 0 aj (by rw [m7,he];exact hm) hc hx _ (fun _=>rfl) (fun j u x hu hx=>(k7 j u x (by simpa using hu) hx).mono qf)
 | cH id e hi =>
  obtain ⟨r,hr,he,m7,cm⟩:=aQ hi
  simp only [jE,hr] at hv
  cases hp:r.pure with
  | false=>rw [hp] at hv;cases hv
  | true =>
   rw [hp] at hv;injection hv with hv;subst hv
   rw [List.length_eq_zero_iff.1 m7]
   exact iN _ _ _ _ (by simp) (by simp) (by simp)
 | pre id k e m g l c hi hn hm hc hx hs =>
  obtain ⟨r,hr,he,m7,cm⟩:=aQ hi
  simp only [jE,hr] at hv
  cases hp:r.pure with
  | false=>rw [hp] at hv;cases hv
  | true =>
   rw [hp] at hv;injection hv with hv;subst hv
   obtain ⟨cur,te,fr,hg,hf,hl,k7⟩:=kD h hr hp cm
   exact fb (r:=r) hg (h.cY id g cm).2 (r.cells.take k) 0 (by rw [List.length_take];omega) (by rw [List.length_take,he,←hn];omega) hc hx _ (fun _=>rfl) (fun j u x hu hx=>(k7 j u x (by simpa using hu) (bW _ _ _ _ hx)).mono qf)
 | dF id e hi =>
  obtain ⟨r,hr,he,m7,cm⟩:=aQ hi
  simp only [jE,hr] at hv
  cases hp:r.pure with
  | false=>rw [hp] at hv;cases hv
  | true =>
   rw [hp] at hv;injection hv with hv;subst hv
   simp only [List.take_zero]
   exact iN _ _ _ _ (by simp) (by simp) (by simp)
 | jr id off k e m l c g A hi hn hm hc hx ha =>
  obtain ⟨r,hr,he,m7,cm⟩:=aQ hi
  simp only [jE,hr] at hv
  cases hp:r.pure with
  | false=>rw [hp] at hv;cases hv
  | true =>
   rw [hp] at hv;injection hv with hv;subst hv
   have hlen:((r.cells.drop off).take k).length=k:=by rw [List.length_take,List.length_drop];omega
   by_cases hk:0<k
   ·obtain ⟨b,hb,hA⟩:=ha hk
    rw [hb] at cm
    obtain ⟨cur,te,fr,hg,hf,hl,k7⟩:=kD h hr hp cm
    exact fb (r:=r) hg (h.cY id b cm).2 ((r.cells.drop off).take k) off (by rw [hlen];omega) (by rw [hlen,he,←hn]) hc hx _ (fun _=>hA) (fun j u x hu hx=>(k7 (off+j) u x hu (by have:=bW _ _ _ _ hx;rw [List.getElem?_drop] at this;exact this)).mono qf)
   ·rw [show (r.cells.drop off).take k= [] from List.length_eq_zero_iff.1 aj]
    exact iN _ _ _ _ (by rw [he];omega) hc hx
 | addr id off e m g hi =>
  obtain ⟨r,hr,he,m7,cm⟩:=aQ hi
  simp only [jE,hr] at hv
  cases hp:r.pure with
  | false=>rw [hp] at hv;cases hv
  | true =>
   rw [hp] at hv;injection hv with hv;subst hv
   obtain ⟨cur,te,fr,hg,hf,hl,k7⟩:=kD h hr hp cm
   exact o8 hg (h.cY id g cm).2 r.cells hl (fun j u x hu hx=>(k7 j u x hu hx).mono qf)
theorem zf (h:aJ S0 w0 n O s a w φ):∀(cs l:List AV) (vs:List Value),oD s cs=some l->vs.length=cs.length->(∀(j:Nat) v c,vs[j]?=some v->cs[j]?=some c->Den (az s.H φ) (aM S0 w φ O) w v c) ->
  l.length=cs.length∧ ∀(j:Nat) v c,vs[j]?=some v->l[j]?=some c->cB (fun b=>b<w.heap.size) w v c
 | [],l,vs,hv,hl,hd=>by simp [oD] at hv;subst hv;exact ⟨rfl,fun j v c _ hc=>by simp at hc⟩
 | x::cs,l,[],hv,hl,hd=>by simp at hl
 | x::cs,l,v0::vs,hv,hl,hd=>by
  simp only [oD] at hv
  cases h1:jE s x with
  | none=>rw [h1] at hv;cases hv
  | some y =>
   cases h2:oD s cs with
   | none=>rw [h1,h2] at hv;cases hv
   | some m =>
    rw [h1,h2] at hv;injection hv with hv;subst hv
    obtain ⟨e1,e2⟩:=zf h cs m vs h2 (by simpa using hl) fun j v c hv hc=>hd (j+1) v c (by simpa using hv) (by simpa using hc)
    refine ⟨by simp [e1],fun j v c hv hc=>?_⟩
    cases j with
    | zero=>simp at hv hc;subst hv;subst hc;exact zg h (hd 0 _ _ rfl rfl) h1
    | succ j=>exact e2 j v c (by simpa using hv) (by simpa using hc)
theorem xa (h:aJ S0 w0 n O s a w φ) {v:Value} {x y:AV} (hx:Den (az s.H φ) (aM S0 w φ O) w v x) (hv:view s x=some y):cB (fun b=>b<w.heap.size) w v y:=by
 by_cases hc:∃cs,x= .agg cs
 ·obtain ⟨cs,rfl⟩:=hc
  obtain ⟨vs,rfl,hl,hd⟩:=kj hx
  simp only [view] at hv
  cases h1:oD s cs with
  | none=>rw [h1] at hv;cases hv
  | some l =>
   rw [h1] at hv;injection hv with hv;subst hv
   obtain ⟨e1,e2⟩:=zf h cs l vs h1 hl hd
   exact .agg vs l aj e2
 ·have:view s x=jE s x:=by
   cases x with
   | agg cs=>exact absurd ⟨cs,rfl⟩ hc
   | _=>rfl
  rw [this] at hv
  exact zg h hx hv
end
def ag (bs:List UInt8):List AV:=bs.map fun c=>.val (.int .u8 (bv c))
def ah (l:List UInt64):List AV:=l.map fun c=>.val (.int .u64 (wv c))
def ax (l:List Int):List AV:=l.map fun c=>.val (.int .i64 c)
theorem aA (l:List UInt8):(ag l).length=l.length:=by simp [ag]
theorem aC (l:List UInt64):(ah l).length=l.length:=by simp [ah]
theorem ko (l:List Int):(ax l).length=l.length:=by simp [ax]
theorem wq {S:Nat->Prop} {w:World} {v:Value} {bs:List UInt8} (h:cB S w v (.sl 1 (ag bs))) (hS:∀b,S b->b<w.heap.size):i4 w v (sr bs):=by
 cases h with
 | sl A n c e us row hl hn hc hm ha h =>
  have Fw:us=sr bs:=by
   apply List.ext_getElem?
   intro j
   cases hu:us[j]? with
   | none =>
    have:us.length≤j:=List.getElem?_eq_none_iff.1 hu
    rw [List.getElem?_eq_none (by rw [gi];rw [aA] at hl;omega)]
   | some u =>
    have hj:j<bs.length:=by have:=(List.getElem?_eq_some_iff.1 hu).1;rw [hl,aA] at this;exact this
    have hx:(ag bs)[j]?=some (.val (.int .u8 (bv bs[j]))):=by simp [ag,hj]
    have:=h j u _ hu hx
    cases this
    simp [sr,hj]
  subst Fw
  rw [aA] at hn ha
  have sE:bs.length=n:=aj
  subst sE
  refine ⟨A,c,by rw [gi],by rw [gi];exact hc,hm,by rw [gi],fun h0=>?_⟩
  rw [gi] at h0
  obtain ⟨ad,e,hs,bw⟩:=ha h0
  exact ⟨ad,e,hS _ hs,bw⟩
def CY (P:Program) (s:AS) (src dst:TypeId) (x:AV) (h:Hint):Option (AV×List Prop) :=
 match x with
 | .val u=>(match j_ P (convert src dst u) with|some z=>some (fin h (.val z,[]))|none=>none)
 | x =>
  match P.underlying src,P.underlying dst,view s x,h.av with
  | some (.slice e),some .string,some (.sl 1 row),some (.val (.string b)) =>
   (match P.underlying e with|some (.int .u8)=>some (.val (.string b),[row=ag b.data.toList])|_=>none)
  | _,_,_,_=>none
theorem FZ {P:Program} {s:AS} {o:Oper} {src dst:TypeId} {x:Operand} {h:Hint} {r:AV×List Prop} (ho:o.op= .convert src dst x) (hr:CY P s src dst (bq s x) h=some r):dc P s o r.1 r.2:=by
 unfold CY at hr
 split at hr
 ·rename_i u hx
  split at hr
  ·rename_i z hz
   injection hr with hr;subst hr
   apply gA
   intro hC S0 w0 n O a w φ hs
   have ex:a.eval x=u:=bK (hx ▸ hs.bq x)
   unfold execOp
   simp only [ho,ex]
   refine ⟨z,?_,.rep (.val _)⟩
   rw [Sem.run_bind,fK w hz];rfl
  ·cases hr
 ·split at hr
  ·rename_i e row b h1 h2 h3 h4
   split at hr
   ·rename_i h5
    injection hr with hr;subst hr
    intro hC S0 w0 n O a w φ hs
    have hv:=xa hs (hs.bq x) h3
    rw [hC.1] at hv
    have cp:=vw (P:=P) (wq hv (fun _ h=>h)) src dst e h1 h5 h2
    unfold execOp
    simp only [ho]
    refine ⟨.string b,?_,.rep (.val _)⟩
    rw [Sem.run_bind,cp];rfl
   ·cases hr
  ·cases hr
def cW:Nat->Nat->Nat
 | k,1=>k
 | k,e=>k*e
theorem bx (k e:Nat):cW k e=k*e:=by
 unfold cW
 split<;>simp
def pg (P:Program) (t:TypeId) (pure:Bool) (cells:List AV) (off:Nat) (h:Hint):Option (AV×List Prop) :=
 match eC P t,P.underlying t with
 | some sz,some d =>
  (match d with
  | .struct _=>(match h.av with
   | some (.agg cs)=>some (.agg cs,[(cells.drop off).take sz=cs,cs.length=sz])
   | some _=>none
   | none=>(match Nat.beq ((cells.drop off).take sz).length sz with|true=>some (.agg ((cells.drop off).take sz),[])|false=>none))
  | .array _ _=>(match h.av,pure with
   | some (.arr cs),true=>some (.arr cs,[(cells.drop off).take sz=cs,cs.length=sz])
   | some (.agg cs),_=>some (.agg cs,[(cells.drop off).take sz=cs,cs.length=sz])
   | _,_=>none)
  | _=>(match h.av with
   | some y=>some (y,[cells[off]?=some y])
   | none=>(match cells[off]? with|some y=>some (y,[])|none=>none)))
 | _,_=>none
section
variable {P:Program} {w:World} {I:Info} {S:Nat->Prop}
theorem sx {t:TypeId} {p:Addr} {vs:List Value} {d:TypeDesc} (hd:P.underlying t=some d) (ha:cJ P t=true) (hs:eC P t=some vs.length) (h:∀(j:Nat) v,vs[j]?=some v->w.cell? (p.add j)=some v) :
  (loadVar t p).run P w= .ok (.agg vs.toArray) w:=by
 unfold loadVar
 rw [Sem.run_bind,ix ⟨d,hd⟩]
 simp only [Result.andThen_ok,ha,if_true]
 rw [Sem.run_bind,run_sizeOf hs]
 simp only [Result.andThen_ok]
 rw [Sem.run_bind,run_loadCells_list w p vs h]
 rfl
theorem sw {t:TypeId} {p:Addr} {v:Value} {d:TypeDesc} (hd:P.underlying t=some d) (ha:cJ P t=false) (h:w.cell? p=some v) :
  (loadVar t p).run P w= .ok v w:=by
 unfold loadVar
 rw [Sem.run_bind,ix ⟨d,hd⟩]
 simp [ha,h]
theorem bT {α:Type} (l:List α) (off k j:Nat) (x:α) (hx:((l.drop off).take k)[j]?=some x):l[off+j]?=some x:=by
 have:=bW _ _ _ _ hx
 rw [List.getElem?_drop] at this;exact this
theorem dD (p:Addr):p.add 0=p:=by simp [Addr.add]
theorem ru {t:TypeId} {pure:Bool} {cells:List AV} {off:Nat} {h:Hint} {r:AV×List Prop} (hr:pg P t pure cells off h=some r) (hC:bz r.2) (p:Addr) (us:List Value) (hl:cells.length≤us.length)
  (bw:∀(j:Nat) u,us[off+j]?=some u->w.cell? (p.add j)=some u) (hd:∀(j:Nat) u x,us[j]?=some u->cells[j]?=some x->bj I S w pure u x) :
  ∃v,(loadVar t p).run P w= .ok v w∧Den I S w v r.1:=by
 have den:∀(j:Nat) u x,us[j]?=some u->cells[j]?=some x->Den I S w u x:=by
  intro j u x hu hx
  have:=hd j u x hu hx
  unfold bj at this
  cases pure with
  | true=>exact .rep this
  | false=>exact this
 unfold pg at hr
 split at hr
 ·rename_i sz d dC hu
  have agg:∀(cs:List AV),cJ P t=true->(cells.drop off).take sz=cs->cs.length=sz-> ∃vs:List Value,vs=(us.drop off).take sz∧(loadVar t p).run P w= .ok (.agg vs.toArray) w∧vs.length=cs.length∧(∀(j:Nat) v c,vs[j]?=some v->cs[j]?=some c->us[off+j]?=some v∧cells[off+j]?=some c):=by
   intro cs ha he hlen
   have FB:cs.length=min sz (cells.length-off):=by rw [←he,List.length_take,List.length_drop]
   have Oe:((us.drop off).take sz).length=sz:=by rw [List.length_take,List.length_drop];omega
   refine ⟨_,rfl,sx hu ha (by rw [Oe];exact dC) (fun j v hv=>bw j v (bT _ _ _ _ _ hv)),aj,fun j v c hv hc=>⟨bT _ _ _ _ _ hv,?_⟩⟩
   rw [←he] at hc;exact bT _ _ _ _ _ hc
  have one:∀y,cJ P t=false->cells[off]?=some y-> ∃v,(loadVar t p).run P w= .ok v w∧Den I S w v y:=by
   intro y ha hy
   have dj:off<us.length:=by have:=(List.getElem?_eq_some_iff.1 hy).1;omega
   have hv:us[off]?=some us[off]:=List.getElem?_eq_getElem dj
   refine ⟨us[off],sw hu ha ?_,den off _ y hv hy⟩
   have:=bw 0 us[off] (by simp)
   rw [dD] at this;exact this
  split at hr
  ·have ha:cJ P t=true:=by unfold cJ;rw [hu]
   split at hr
   ·rename_i cs _
    injection hr with hr;subst hr
    obtain ⟨vs,-,h1,h2,h3⟩:=agg cs ha hC.1 hC.2.1
    exact ⟨_,h1,.agg vs cs h2 fun j v c hv hc=>den _ _ _ (h3 j v c hv hc).1 (h3 j v c hv hc).2⟩
   ·cases hr
   ·split at hr
    ·rename_i hb
     injection hr with hr;subst hr
     obtain ⟨vs,-,h1,h2,h3⟩:=agg _ ha rfl (Nat.eq_of_beq_eq_true hb)
     exact ⟨_,h1,.agg vs _ h2 fun j v c hv hc=>den _ _ _ (h3 j v c hv hc).1 (h3 j v c hv hc).2⟩
    ·cases hr
  ·have ha:cJ P t=true:=by unfold cJ;rw [hu]
   split at hr
   ·rename_i cs _
    injection hr with hr;subst hr
    obtain ⟨vs,-,h1,h2,h3⟩:=agg cs ha hC.1 hC.2.1
    exact ⟨_,h1,.rep (.arr vs cs h2 fun j v c hv hc=>by have:=hd _ _ _ (h3 j v c hv hc).1 (h3 j v c hv hc).2;exact this)⟩
   ·rename_i cs _
    injection hr with hr;subst hr
    obtain ⟨vs,-,h1,h2,h3⟩:=agg cs ha hC.1 hC.2.1
    exact ⟨_,h1,.agg vs cs h2 fun j v c hv hc=>den _ _ _ (h3 j v c hv hc).1 (h3 j v c hv hc).2⟩
   ·cases hr
  ·rename_i Od RE
   have ha:cJ P t=false:=by
    unfold cJ;rw [hu]
    cases d<;>first|rfl|exact absurd rfl (Od _)|exact absurd rfl (RE _ _)
   split at hr
   ·injection hr with hr;subst hr
    exact one _ ha hC.1
   ·split at hr
    ·rename_i y hy
     injection hr with hr;subst hr
     exact one _ ha hy
    ·cases hr
 ·cases hr
end
def CM (P:Program) (s:AS) (t:TypeId) (x:AV) (h:Hint):Option (AV×List Prop) :=
 match x with
 | .ptr row off=>pg P t true row off h
 | .addr id off=>(match look s.H id with|some r=>pg P t r.pure r.cells off h|none=>none)
 | _=>none
section
variable {P:Program} {s:AS} {o:Oper} {h:Hint} {r:AV×List Prop}
theorem tg {I:Info} {S:Nat->Prop} {w:World} {v:Value} {row:List AV} {off:Nat} (h:Den I S w v (.ptr row off)):∃(ad:Addr) (us:List Value),v= .pointer (some (ad.add off))∧us.length=row.length∧S ad.block∧(∀(j:Nat) u,us[j]?=some u->w.cell? (ad.add j)=some u)∧ ∀(j:Nat) u x,us[j]?=some u->row[j]?=some x->cB S w u x:=by
 cases h with|rep h=>cases h with|ptr ad us _ _ hl hs ha h=>exact ⟨ad,us,rfl,hl,hs,ha,h⟩
theorem jP {I:Info} {S:Nat->Prop} {w:World} {v:Value} {id off:Nat} (h:Den I S w v (.addr id off)):∃e m g,I id=some (e,m,some g)∧v= .pointer (some ⟨g,off,none⟩):=by
 cases h with
 | rep h=>cases h
 | addr id off e m g hi=>exact ⟨e,m,g,hi,rfl⟩
theorem mb (g o j:Nat):(⟨g,o,none⟩:Addr).add j=⟨g,o+j,none⟩:=by unfold Addr.add;split<;>simp_all
theorem FU {t:TypeId} {x:Operand} (ho:o.op= .load t x) (hr:CM P s t (bq s x) h=some r):dc P s o r.1 r.2:=by
 intro hC S0 w0 n O a w φ hs
 have hx:=hs.bq x
 unfold execOp
 simp only [ho]
 unfold CM at hr
 split at hr
 ·rename_i row off he
  rw [he] at hx
  obtain ⟨ad,us,hv,hl,hS,bw,b7⟩:=tg hx
  obtain ⟨v,h1,h2⟩:=ru (I:=az s.H φ) (S:=aM S0 w φ O) hr hC (ad.add off) us aj (fun j u hu=>by rw [mN];exact bw _ u hu) (fun j u x hu hx=>by show cB _ _ _ _;exact b7 j u x hu hx)
  refine ⟨v,?_,h2⟩
  simp only [Instr.loadAt,hv,Instr.sureAddr,Sem.run_bind,Sem.run_pure,Result.andThen_ok,h1]
 ·rename_i id off he
  rw [he] at hx
  obtain ⟨e,m,g,hi,hv⟩:=jP hx
  obtain ⟨q,hq,-,-,cm⟩:=aQ hi
  rw [hq] at hr
  have aN:=hs.rows id q hq
  unfold bN at aN
  rw [cm] at aN
  obtain ⟨cur,te,fr,hg,hf,hl,-,hc⟩:=aN
  obtain ⟨v,h1,h2⟩:=ru (I:=az s.H φ) (S:=aM S0 w φ O) hr hC ⟨g,off,none⟩ cur.toList hl (fun j u hu=>by rw [mb,cell_of_row w g _ cur te fr hg];simpa using hu) (fun j u x hu hx=>hc j u x (by simpa using hu) hx)
  refine ⟨v,?_,h2⟩
  simp only [Instr.loadAt,hv,Instr.sureAddr,Sem.run_bind,Sem.run_pure,Result.andThen_ok,h1]
 ·cases hr
def nN (P:Program) (t:TypeId) (x:AV) (f:Nat):Option (AV×List Prop) :=
 match P.underlying t with
 | some (.struct fields) =>
  (match fields[f]? with
  | some fd=>(match eC P fd.type with
   | some (_+1)=>(match x with
    | .ptr row off=>some (.ptr row (off+fd.offset),[])
    | .addr id off=>some (.addr id (off+fd.offset),[])
    | _=>none)
   | _=>none)
  | none=>none)
 | _=>none
theorem u9 {t:TypeId} {x:Operand} {f:Nat} (ho:o.op= .fieldAddr t x f) (hr:nN P t (bq s x) f=some r):dc P s o r.1 r.2:=by
 intro hC S0 w0 n O a w φ hs
 have hx:=hs.bq x
 unfold execOp
 simp only [ho]
 unfold nN at hr
 split at hr
 ·rename_i fields hu
  split at hr
  ·rename_i fd hf
   split at hr
   ·rename_i k dC
    have hz:(sizeOf fd.type).run P w= .ok (k+1) w:=run_sizeOf dC
    split at hr
    ·rename_i row off he
     injection hr with hr;subst hr
     rw [he] at hx
     obtain ⟨ad,us,hv,hl,hS,bw,b7⟩:=tg hx
     refine ⟨.pointer (some (ad.add (off+fd.offset))),?_,.rep (.ptr ad us row _ hl hS bw b7)⟩
     simp [Instr.fieldAt,run_underlying hu,hf,hv,Instr.sureAddr,fieldPlace,hz,mN]
    ·rename_i id off he
     injection hr with hr;subst hr
     rw [he] at hx
     obtain ⟨e,m,g,hi,hv⟩:=jP hx
     refine ⟨.pointer (some ⟨g,off+fd.offset,none⟩),?_,.addr id _ e m g hi⟩
     simp [Instr.fieldAt,run_underlying hu,hf,hv,Instr.sureAddr,fieldPlace,hz,mb]
    ·cases hr
   ·cases hr
  ·cases hr
 ·cases hr
def I1 (P:Program) (s:AS) (t:TypeId) (x:AV) (n:Int) (h:Hint):Option (AV×List Prop) :=
 match P.underlying t with
 | some (.slice el) =>
  (match eC P el with
  | some (z+1)=>(match x with
   | .sl e row=>(match Nat.beq e (z+1) with|true=>some (.ptr row (cW h.k (z+1)),[n=(h.k:Int),cW h.k (z+1)<row.length])|false=>none)
   | .ref id=>(match look s.H id with|some q=>(match Nat.beq q.e (z+1) with|true=>some (.addr id (cW h.k (z+1)),[n=(h.k:Int),cW h.k (z+1)<q.cells.length])|false=>none)|none=>none)
   | .pre id l=>(match look s.H id with|some q=>(match Nat.beq q.e (z+1) with|true=>some (.addr id (cW h.k (z+1)),[n=(h.k:Int),cW h.k (z+1)<l])|false=>none)|none=>none)
   | .jr id off l=>(match look s.H id with|some q=>(match Nat.beq q.e (z+1) with|true=>some (.addr id (cW h.k (z+1)+off),[n=(h.k:Int),cW h.k (z+1)<l])|false=>none)|none=>none)
   | _=>none)
  | _=>none)
 | some (.array len el) =>
  (match eC P el with
  | some (z+1)=>(match x with
   | .ptr row off=>some (.ptr row (cW h.k (z+1)+off),[n=(h.k:Int),h.k<len])
   | .addr id off=>some (.addr id (cW h.k (z+1)+off),[n=(h.k:Int),h.k<len])
   | _=>none)
  | _=>none)
 | _=>none
theorem pj {I:Info} {S:Nat->Prop} {w:World} {v:Value} {e:Nat} {row:List AV} (h:Den I S w v (.sl e row)):cB S w v (.sl e row):=by
 cases h with|rep h=>exact h
theorem nZ {k z l e m:Nat} (h:cW k (z+1)<m) (hm:m=e*l) (he:e=z+1):k<l:=by
 rw [bx,hm,he,Nat.mul_comm] at h
 exact Nat.lt_of_mul_lt_mul_left h
theorem I0 {t:TypeId} {x i:Operand} {k:IntKind} {n:Int} (ho:o.op= .indexAddr t x i) (hi:bq s i= .val (.int k n)) (hr:I1 P s t (bq s x) n h=some r):dc P s o r.1 r.2:=by
 intro hC S0 w0 n' O a w φ hs
 have hx:=hs.bq x
 have ei:a.eval i= .int k n:=bK (hi ▸ hs.bq i)
 unfold execOp
 simp only [ho,ei]
 unfold I1 at hr
 split at hr
 ·rename_i el hu
  split at hr
  ·rename_i z dC
   have hz:(sizeOf el).run P w= .ok (z+1) w:=run_sizeOf dC
   split at hr
   ·rename_i e row he
    rw [he] at hx
    split at hr
    ·rename_i hb
     have kO:e=z+1:=Nat.eq_of_beq_eq_true hb
     injection hr with hr;subst hr
     obtain ⟨hn,dj,-⟩:=hC
     have b7:=pj hx
     cases jj:a.eval x with
     | slice A l c =>
      rw [jj] at b7
      cases b7 with
      | sl _ _ _ _ us _ hl sE hc hm ha b7 =>
       have iH:h.k<l:=nZ dj sE kO
       obtain ⟨ad,rfl,hS,bw⟩:=ha aj
       refine ⟨.pointer (some (ad.add (cW h.k (z+1)))),?_,.rep (.ptr ad us row _ hl hS bw b7)⟩
       have m_:0≤n∧n<(l:Int):=aj
       have hk:n.toNat=h.k:=aj
       simp [Instr.indexAt,run_underlying hu,asIntOf,m_,hz,hk,bx]
     | _=>rw [jj] at b7;cases b7
    ·cases hr
   ·rename_i id he
    rw [he] at hx
    split at hr
    ·rename_i q hq
     split at hr
     ·rename_i hb
      have kO:q.e=z+1:=Nat.eq_of_beq_eq_true hb
      injection hr with hr;subst hr
      obtain ⟨hn,dj,-⟩:=hC
      generalize a.eval x=V at hx
      cases hx with
      | rep h=>cases h
      | ref _ e m g l c hi hm hc hx bY =>
       rw [bu hq] at hi
       injection hi with hi;injection hi with h1 hi;injection hi with h2 h3
       have iH:h.k<l:=nZ dj (by rw [h2];exact hm) (by rw [←h1];exact kO)
       refine ⟨.pointer (some ⟨g,cW h.k (z+1),none⟩),?_,.addr id _ q.e q.cells.length g (by rw [bu hq,h3])⟩
       have m_:0≤n∧n<(l:Int):=aj
       have hk:n.toNat=h.k:=aj
       simp [Instr.indexAt,run_underlying hu,asIntOf,m_,hz,hk,bx,fe]
      | cH _ e hi =>
       rw [bu hq] at hi
       injection hi with hi;injection hi with h1 hi;injection hi with h2 h3
       omega
     ·cases hr
    ·cases hr
   ·rename_i id l' he
    rw [he] at hx
    split at hr
    ·rename_i q hq
     split at hr
     ·rename_i hb
      have kO:q.e=z+1:=Nat.eq_of_beq_eq_true hb
      injection hr with hr;subst hr
      obtain ⟨hn,dj,-⟩:=hC
      generalize a.eval x=V at hx
      cases hx with
      | rep h=>cases h
      | pre _ _ e m g l c hi sE hm hc hx bY =>
       rw [bu hq] at hi
       injection hi with hi;injection hi with h1 hi;injection hi with h2 h3
       have iH:h.k<l:=nZ dj sE (by rw [←h1];exact kO)
       refine ⟨.pointer (some ⟨g,cW h.k (z+1),none⟩),?_,.addr id _ q.e q.cells.length g (by rw [bu hq,h3])⟩
       have m_:0≤n∧n<(l:Int):=aj
       have hk:n.toNat=h.k:=aj
       simp [Instr.indexAt,run_underlying hu,asIntOf,m_,hz,hk,bx,fe]
      | dF _ e hi=>omega
     ·cases hr
    ·cases hr
   ·rename_i id off l' he
    rw [he] at hx
    split at hr
    ·rename_i q hq
     split at hr
     ·rename_i hb
      have kO:q.e=z+1:=Nat.eq_of_beq_eq_true hb
      injection hr with hr;subst hr
      obtain ⟨hn,dj,-⟩:=hC
      generalize a.eval x=V at hx
      cases hx with
      | rep h=>cases h
      | jr _ _ _ e m l c g A hi sE hm hc hx ha =>
       rw [bu hq] at hi
       injection hi with hi;injection hi with h1 hi;injection hi with h2 h3
       have iH:h.k<l:=nZ dj sE (by rw [←h1];exact kO)
       obtain ⟨b,JR,rfl⟩:=ha aj
       refine ⟨.pointer (some ⟨b,cW h.k (z+1)+off,none⟩),?_,.addr id _ q.e q.cells.length b (by rw [bu hq,h3,JR])⟩
       have m_:0≤n∧n<(l:Int):=aj
       have hk:n.toNat=h.k:=aj
       simp [Instr.indexAt,run_underlying hu,asIntOf,m_,hz,hk,bx,mb,Nat.add_comm]
     ·cases hr
    ·cases hr
   ·cases hr
  ·cases hr
 ·rename_i len el hu
  split at hr
  ·rename_i z dC
   have hz:(sizeOf el).run P w= .ok (z+1) w:=run_sizeOf dC
   split at hr
   ·rename_i row off he
    rw [he] at hx
    injection hr with hr;subst hr
    obtain ⟨hn,dj,-⟩:=hC
    obtain ⟨ad,us,hv,hl,hS,bw,b7⟩:=tg hx
    refine ⟨.pointer (some (ad.add (cW h.k (z+1)+off))),?_,.rep (.ptr ad us row _ hl hS bw b7)⟩
    have m_:0≤n∧n<(len:Int):=aj
    have hk:n.toNat=h.k:=aj
    simp [Instr.indexAt,run_underlying hu,asIntOf,m_,hz,hk,hv,Instr.sureAddr,bx,mN,Nat.add_comm]
   ·rename_i id off he
    rw [he] at hx
    injection hr with hr;subst hr
    obtain ⟨hn,dj,-⟩:=hC
    obtain ⟨e,m,g,hi,hv⟩:=jP hx
    refine ⟨.pointer (some ⟨g,cW h.k (z+1)+off,none⟩),?_,.addr id _ e m g hi⟩
    have m_:0≤n∧n<(len:Int):=aj
    have hk:n.toNat=h.k:=aj
    simp [Instr.indexAt,run_underlying hu,asIntOf,m_,hz,hk,hv,Instr.sureAddr,bx,mb,Nat.add_comm]
   ·cases hr
  ·cases hr
 ·cases hr
end
section
variable {P:Program} {s:AS} {o:Oper} {h:Hint} {r:AV×List Prop}
inductive Cut where
 | all|to (n:Int)|from_ (n:Int)|both (n m:Int)
def uz:AV->Option Int
 | .val (.int _ n)=>some n
 | _=>none
def vg (s:AS) (lo hi mx:Option Operand):Option Cut :=
 match lo,hi,mx with
 | none,none,none=>some .all
 | none,some y,none=>(match uz (bq s y) with|some m=>some (.to m)|none=>none)
 | some x,none,none=>(match uz (bq s x) with|some n=>some (.from_ n)|none=>none)
 | some x,some y,none=>(match uz (bq s x),uz (bq s y) with|some n,some m=>some (.both n m)|_,_=>none)
 | _,_,_=>none
def x_ (P:Program) (s:AS) (t:TypeId) (x:AV) (c:Cut) (h:Hint):Option (AV×List Prop) :=
 match P.underlying t with
 | some .string =>
  (match x,c with
  | .val (.string b),.all=>some (.val (.string b),[])
  | .val (.string b),.to n=>some (fin h (.val (.string (b.extract 0 h.m)),[n=(h.m:Int),h.m≤b.size]))
  | .val (.string b),.from_ n=>some (fin h (.val (.string (b.extract h.k b.size)),[n=(h.k:Int),h.k≤b.size]))
  | .val (.string b),.both n n'=>some (fin h (.val (.string (b.extract h.k h.m)),[n=(h.k:Int),n'=(h.m:Int),h.k≤h.m,h.m≤b.size]))
  | _,_=>none)
 | some (.slice el) =>
  (match eC P el with
  | some (z+1)=>(match x,c with
   | .sl e row,.all=>some (fin h (.sl e row,[]))
   | .sl e row,.to n=>(match Nat.beq e (z+1) with|true=>some (fin h (.sl e (row.take (cW h.m e)),[n=(h.m:Int),cW h.m e≤row.length]))|false=>none)
   | .sl e row,.from_ n=>(match Nat.beq e (z+1) with|true=>some (fin h (.sl e (row.drop (cW h.k e)),[n=(h.k:Int),cW h.k e≤row.length]))|false=>none)
   | .sl e row,.both n n'=>(match Nat.beq e (z+1) with|true=>some (fin h (.sl e ((row.drop (cW h.k e)).take (cW (h.m-h.k) e)),[n=(h.k:Int),n'=(h.m:Int),h.k≤h.m,cW h.m e≤row.length]))|false=>none)
   | .ref id,.all=>some (.ref id,[])
   | .ref id,.to n=>(match look s.H id with|some q=>(match Nat.beq q.e (z+1) with|true=>some (.pre id (cW h.m q.e),[n=(h.m:Int),cW h.m q.e≤q.cells.length])|false=>none)|none=>none)
   | .ref id,.from_ n=>(match look s.H id with|some q=>(match Nat.beq q.e (z+1) with|true=>some (.jr id (cW h.k q.e) (q.cells.length-cW h.k q.e),[n=(h.k:Int),cW h.k q.e≤q.cells.length])|false=>none)|none=>none)
   | .ref id,.both n n'=>(match look s.H id with|some q=>(match Nat.beq q.e (z+1) with|true=>some (.jr id (cW h.k q.e) (cW (h.m-h.k) q.e),[n=(h.k:Int),n'=(h.m:Int),h.k≤h.m,cW h.m q.e≤q.cells.length])|false=>none)|none=>none)
   | .pre id l,.all=>some (.pre id l,[])
   | .pre id l,.to n=>(match look s.H id with|some q=>(match Nat.beq q.e (z+1) with|true=>some (.pre id (cW h.m q.e),[n=(h.m:Int),cW h.m q.e≤l])|false=>none)|none=>none)
   | _,_=>none)
  | _=>none)
 | some (.array len el) =>
  (match eC P el with
  | some (z+1)=>(match x,c with
   | .addr id 0,.all=>(match look s.H id with|some q=>(match Nat.beq q.e (z+1),q.full with|true,true=>some (.ref id,[q.cells.length=cW len q.e,len≤maxLen])|_,_=>none)|none=>none)
   | .addr id 0,.to n=>(match look s.H id with|some q=>(match Nat.beq q.e (z+1),q.full with|true,true=>some (.pre id (cW h.m q.e),[n=(h.m:Int),h.m≤len,q.cells.length=cW len q.e,len≤maxLen])|_,_=>none)|none=>none)
   | .addr id 0,.from_ n=>(match look s.H id with|some q=>(match Nat.beq q.e (z+1),q.full with|true,true=>some (.jr id (cW h.k q.e) (cW (len-h.k) q.e),[n=(h.k:Int),h.k≤len,q.cells.length=cW len q.e,len≤maxLen])|_,_=>none)|none=>none)
   | .addr id 0,.both n n'=>(match look s.H id with|some q=>(match Nat.beq q.e (z+1),q.full with|true,true=>some (.jr id (cW h.k q.e) (cW (h.m-h.k) q.e),[n=(h.k:Int),n'=(h.m:Int),h.k≤h.m,h.m≤len,q.cells.length=cW len q.e,len≤maxLen])|_,_=>none)|none=>none)
   | _,_=>none)
  | _=>none)
 | _=>none
def Bounds (c:Cut) (len cap:Nat) (l hi:Nat):Prop :=
 match c with
 | .all=>l=0∧hi=len
 | .to n=>l=0∧n=(hi:Int)∧hi≤cap
 | .from_ n=>n=(l:Int)∧l≤len∧hi=len
 | .both n n'=>n=(l:Int)∧n'=(hi:Int)∧l≤hi∧hi≤cap
theorem Ck {x:AV} {n:Int} (h:uz x=some n):∃k,x= .val (.int k n):=by
 unfold uz at h
 split at h
 ·injection h with h;subst h;exact ⟨_,rfl⟩
 ·cases h
theorem run_sliceBound {w:World} {k:IntKind} {n:Int} {y l:Nat} {code:BoundsCode} (h1:n=(l:Int)) (h2:l≤y):(Instr.sliceBound (.int k n) y code).run P w= .ok l w:=by
 have:0≤n∧n≤(y:Int):=aj
 have e:n.toNat=l:=aj
 simp [Instr.sliceBound,asIntOf,this,e]
theorem oV {S0:bo} {w0 w:World} {n:Nat} {O:List Nat} {a:Act} {φ:Nat->Option Nat} (hs:aJ S0 w0 n O s a w φ) {lo hi mx:Option Operand} {c:Cut} (hc:vg s lo hi mx=some c) (Ra:Bool) {len cap l m:Nat} (hb:Bounds c len cap l m) (hle:len≤cap) :
  mx=none∧(Instr.sliceBounds Ra len cap (lo.map a.eval) (hi.map a.eval) none).run P w= .ok (l,m,cap) w:=by
 have ev:∀x z,uz (bq s x)=some z-> ∃k,a.eval x= .int k z:=fun x z hx=>by
  obtain ⟨k,e⟩:=Ck hx
  exact ⟨k,bK (e ▸ hs.bq x)⟩
 unfold vg at hc
 split at hc
 ·injection hc with hc;subst hc
  obtain ⟨rfl,rfl⟩:=hb
  exact ⟨rfl,by simp [Instr.sliceBounds]⟩
 ·split at hc
  ·rename_i z hz
   injection hc with hc;subst hc
   obtain ⟨rfl,h1,h2⟩:=hb
   obtain ⟨k,e⟩:=ev _ _ hz
   exact ⟨rfl,by simp [Instr.sliceBounds,e,run_sliceBound h1 h2]⟩
  ·cases hc
 ·split at hc
  ·rename_i z hz
   injection hc with hc;subst hc
   obtain ⟨h1,h2,rfl⟩:=hb
   obtain ⟨k,e⟩:=ev _ _ hz
   exact ⟨rfl,by simp [Instr.sliceBounds,e,run_sliceBound h1 h2]⟩
  ·cases hc
 ·split at hc
  ·rename_i z z' hz Av
   injection hc with hc;subst hc
   obtain ⟨h1,Iz,h2,h3⟩:=hb
   obtain ⟨k,e⟩:=ev _ _ hz
   obtain ⟨k',e'⟩:=ev _ _ Av
   exact ⟨rfl,by simp [Instr.sliceBounds,e,e',run_sliceBound Iz h3,run_sliceBound h1 h2]⟩
  ·cases hc
 ·cases hc
theorem bV {S0:bo} {w0 w:World} {n:Nat} {O:List Nat} {a:Act} {φ:Nat->Option Nat} (hs:aJ S0 w0 n O s a w φ) {t el:TypeId} {x:Operand} {lo hi mx:Option Operand} {c:Cut} (ho:o.op= .slice t x lo hi mx) (hc:vg s lo hi mx=some c) (hu:P.underlying t=some (.slice el)) {z:Nat} (hz:eC P el=some z)
  {A:Option Addr} {len cap l m:Nat} (hx:a.eval x= .slice A len cap) (hb:Bounds c len cap l m) (hle:len≤cap) :
  (execOp a.eval o).run P w= .ok (.value (.slice (if cap=l then A else A.map (·.add (l*z))) (m-l) (cap-l))) w:=by
 obtain ⟨rfl,hr⟩:=oV (P:=P) hs hc true hb hle
 unfold execOp
 simp only [ho,hx]
 have Av:(sizeOf el).run P w= .ok z w:=run_sizeOf hz
 simp [Instr.sliceAt,Instr.slice,run_underlying hu,hr,Av]
theorem ju {S0:bo} {w0 w:World} {n:Nat} {O:List Nat} {a:Act} {φ:Nat->Option Nat} (hs:aJ S0 w0 n O s a w φ) {t el:TypeId} {x:Operand} {lo hi mx:Option Operand} {c:Cut} (ho:o.op= .slice t x lo hi mx) (hc:vg s lo hi mx=some c) {len:Nat} (hu:P.underlying t=some (.array len el)) {z:Nat} (hz:eC P el=some z)
  {p:Addr} {l m:Nat} (hx:a.eval x= .pointer (some p)) (hb:Bounds c len len l m) :
  (execOp a.eval o).run P w= .ok (.value (.slice (some (if len=l then p else p.add (l*z))) (m-l) (len-l))) w:=by
 obtain ⟨rfl,hr⟩:=oV (P:=P) hs hc false hb (Nat.le_refl _)
 unfold execOp
 simp only [ho,hx]
 have Av:(sizeOf el).run P w= .ok z w:=run_sizeOf hz
 simp [Instr.sliceAt,Instr.sureAddr,run_underlying hu,hr,Av]
theorem jt {S0:bo} {w0 w:World} {n:Nat} {O:List Nat} {a:Act} {φ:Nat->Option Nat} (hs:aJ S0 w0 n O s a w φ) {t:TypeId} {x:Operand} {lo hi mx:Option Operand} {c:Cut} (ho:o.op= .slice t x lo hi mx) (hc:vg s lo hi mx=some c) (hu:P.underlying t=some .string)
  {b:ByteArray} {l m:Nat} (hx:a.eval x= .string b) (hb:Bounds c b.size b.size l m) :
  (execOp a.eval o).run P w= .ok (.value (.string (b.extract l m))) w:=by
 obtain ⟨rfl,hr⟩:=oV (P:=P) hs hc false hb (Nat.le_refl _)
 unfold execOp
 simp only [ho,hx]
 simp [Instr.sliceAt,Instr.slice,run_underlying hu,hr]
theorem zy {S:Nat->Prop} {w:World} {A:Option Addr} {len cap e z:Nat} {row:List AV} (b7:cB S w (.slice A len cap) (.sl e row)) (he:e=z+1) (l m:Nat) (To:l≤m) (hm:m≤len) :
  cB S w (.slice (if cap=l then A else A.map (·.add (l*(z+1)))) (m-l) (cap-l)) (.sl e ((row.drop (l*e)).take ((m-l)*e))):=by
 cases b7 with
 | sl _ _ _ _ us _ hl hn hc hx ha h =>
  have hle:(m-l)*e≤row.length-l*e:=by
   rw [hn,Nat.sub_mul,Nat.mul_comm e len]
   have:=Nat.mul_le_mul_right e hm
   omega
  have hlen:((row.drop (l*e)).take ((m-l)*e)).length=(m-l)*e:=by rw [List.length_take,List.length_drop];omega
  refine .sl _ _ _ _ ((us.drop (l*e)).take ((m-l)*e)) _ (by rw [hlen,List.length_take,List.length_drop];omega) (by rw [hlen,Nat.mul_comm]) aj aj (fun h0=>?_) (fun j u x hu hx=>h (l*e+j) u x (bT _ _ _ _ _ hu) (bT _ _ _ _ _ hx))
  rw [hlen] at h0
  have cX:cap≠l:=by
   intro e'
   have:m-l=0:=aj
   rw [this,Nat.zero_mul] at h0;omega
  have Gs:0<row.length:=aj
  obtain ⟨ad,rfl,hS,bw⟩:=ha Gs
  rw [if_neg cX]
  refine ⟨ad.add (l*(z+1)),rfl,by rw [gL];exact hS,fun j u hu=>?_⟩
  rw [mN,←he]
  exact bw _ u (bT _ _ _ _ _ hu)
theorem mv {m len e q:Nat} (h:cW m e≤q) (hq:q=e*len) (he:0<e):m≤len:=by
 rw [bx,hq,Nat.mul_comm] at h
 exact Nat.le_of_mul_le_mul_left h he
theorem sS {m z:Nat} (h:m*(z+1)≤0):m=0:=by
 rcases Nat.eq_zero_or_pos m with h5|h5
 ·exact h5
 ·have:=Nat.mul_pos h5 (aj:0<z+1);omega
theorem CI {t:TypeId} {x:Operand} {lo hi mx:Option Operand} {c:Cut} (ho:o.op= .slice t x lo hi mx) (hc:vg s lo hi mx=some c) (hr:x_ P s t (bq s x) c h=some r):dc P s o r.1 r.2:=by
 unfold x_ at hr
 split at hr
 ·rename_i hu
  split at hr
  ·rename_i b he
   injection hr with hr;subst hr
   intro hC S0 w0 n O a w φ hs
   have ex:a.eval x= .string b:=bK (he ▸ hs.bq x)
   refine ⟨_,jt hs ho hc hu ex ⟨rfl,rfl⟩,?_⟩
   have:b.extract 0 b.size=b:=by simp
   rw [this];exact .rep (.val _)
  ·rename_i b n he
   injection hr with hr;subst hr
   refine gA ?_
   intro hC S0 w0 n' O a w φ hs
   have ex:a.eval x= .string b:=bK (he ▸ hs.bq x)
   exact ⟨_,jt hs ho hc hu ex ⟨rfl,hC.1,hC.2.1⟩,.rep (.val _)⟩
  ·rename_i b n he
   injection hr with hr;subst hr
   refine gA ?_
   intro hC S0 w0 n' O a w φ hs
   have ex:a.eval x= .string b:=bK (he ▸ hs.bq x)
   exact ⟨_,jt hs ho hc hu ex ⟨hC.1,hC.2.1,rfl⟩,.rep (.val _)⟩
  ·rename_i b n n2 he
   injection hr with hr;subst hr
   refine gA ?_
   intro hC S0 w0 n' O a w φ hs
   have ex:a.eval x= .string b:=bK (he ▸ hs.bq x)
   exact ⟨_,jt hs ho hc hu ex ⟨hC.1,hC.2.1,hC.2.2.1,hC.2.2.2.1⟩,.rep (.val _)⟩
  ·cases hr
 ·rename_i el hu
  split at hr
  ·rename_i z dC
   have sl:∀(e:Nat) (row:List AV) (X:AV) (C:List Prop),bq s x= .sl e row->e=z+1->(bz C-> ∃l m,(∀len cap,row.length=e*len->len≤cap->Bounds c len cap l m∧m≤len)∧l≤m∧X= .sl e ((row.drop (l*e)).take ((m-l)*e))∨(c= .all∧X= .sl e row))->dc P s o X C:=by
    intro e row X C he uK hX hC S0 w0 n O a w φ hs
    have hx:=hs.bq x
    rw [he] at hx
    have b7:=pj hx
    cases jj:a.eval x with
    | slice A len cap =>
     rw [jj] at b7
     have Az:=b7
     cases Az with
     | sl _ _ _ _ us _ hl hn k7 JM ha h' =>
      obtain ⟨l,m,h1⟩:=hX hC
      rcases h1 with ⟨hb,To,rfl⟩|⟨rfl,rfl⟩
      ·obtain ⟨hb,hm⟩:=hb len cap hn k7
       exact ⟨_,bV hs ho hc hu dC jj hb k7,.rep (zy b7 uK l m To hm)⟩
      ·refine ⟨_,bV hs ho hc hu dC jj (l:=0) (m:=len) ⟨rfl,rfl⟩ k7,?_⟩
       have:(if cap=0 then A else A.map (·.add (0*(z+1))))=A:=by
        split
        ·rfl
        ·cases A<;>simp [dD]
       rw [this];exact .rep b7
    | _=>rw [jj] at b7;cases b7
   split at hr
   ·rename_i e row he
    injection hr with hr;subst hr
    refine gA ?_
    intro hC S0 w0 n O a w φ hs
    have hx:=hs.bq x
    rw [he] at hx
    have b7:=pj hx
    cases jj:a.eval x with
    | slice A len cap =>
     rw [jj] at b7
     have Az:=b7
     cases Az with
     | sl _ _ _ _ us _ hl hn k7 JM ha h' =>
      refine ⟨_,bV hs ho hc hu dC jj (l:=0) (m:=len) ⟨rfl,rfl⟩ k7,?_⟩
      have:(if cap=0 then A else A.map (·.add (0*(z+1))))=A:=by
       split
       ·rfl
       ·cases A<;>simp [dD]
      rw [this];exact .rep b7
    | _=>rw [jj] at b7;cases b7
   ·rename_i e row n he
    split at hr
    ·rename_i hb
     have uK:e=z+1:=Nat.eq_of_beq_eq_true hb
     injection hr with hr;subst hr
     refine gA (sl e row _ _ he uK fun hC=>⟨0,h.m,.inl ⟨fun len cap hn Na=>?_,Nat.zero_le _,by simp [bx]⟩⟩)
     have:=mv hC.2.1 hn aj
     exact ⟨⟨rfl,hC.1,aj⟩,this⟩
    ·cases hr
   ·rename_i e row n he
    split at hr
    ·rename_i hb
     have uK:e=z+1:=Nat.eq_of_beq_eq_true hb
     injection hr with hr;subst hr
     refine gA ?_
     intro hC S0 w0 n' O a w φ hs
     have hx:=hs.bq x
     rw [he] at hx
     have b7:=pj hx
     cases jj:a.eval x with
     | slice A len cap =>
      rw [jj] at b7
      have Az:=b7
      cases Az with
      | sl _ _ _ _ us _ hl hn k7 JM ha h' =>
       have hk:=mv hC.2.1 hn aj
       refine ⟨_,bV hs ho hc hu dC jj (l:=h.k) (m:=len) ⟨hC.1,hk,rfl⟩ k7,?_⟩
       have:=zy b7 uK h.k len hk (Nat.le_refl _)
       have e2:(row.drop (h.k*e)).take ((len-h.k)*e)=row.drop (cW h.k e):=by
        rw [bx,List.take_of_length_le]
        rw [List.length_drop,hn,Nat.sub_mul,Nat.mul_comm e len]
        exact Nat.le_refl _
       rw [e2] at this
       exact .rep this
     | _=>rw [jj] at b7;cases b7
    ·cases hr
   ·rename_i e row n n2 he
    split at hr
    ·rename_i hb
     have uK:e=z+1:=Nat.eq_of_beq_eq_true hb
     injection hr with hr;subst hr
     refine gA (sl e row _ _ he uK fun hC=>⟨h.k,h.m,.inl ⟨fun len cap hn Na=>?_,hC.2.2.1,by simp [bx]⟩⟩)
     have:=mv hC.2.2.2.1 hn aj
     exact ⟨⟨hC.1,hC.2.1,hC.2.2.1,aj⟩,this⟩
    ·cases hr
   ·rename_i id he
    injection hr with hr;subst hr
    intro hC S0 w0 n O a w φ hs
    have hx:=hs.bq x
    rw [he] at hx
    generalize hV:a.eval x=V at hx
    cases hx with
    | rep h=>cases h
    | ref _ e m g l c' hi hm k7 hx bY =>
     refine ⟨_,bV hs ho hc hu dC hV (l:=0) (m:=l) ⟨rfl,rfl⟩ k7,?_⟩
     have:(if c'=0 then (some ⟨g,0,none⟩:Option Addr) else (some ⟨g,0,none⟩:Option Addr).map (·.add (0*(z+1))))=some ⟨g,0,none⟩:=by simp [dD]
     rw [this]
     exact .ref id e m g l c' hi hm k7 hx bY
    | cH _ e hi =>
     refine ⟨_,bV hs ho hc hu dC hV (l:=0) (m:=0) ⟨rfl,rfl⟩ (Nat.le_refl _),?_⟩
     simp only [if_true]
     exact .cH id e hi
   ·rename_i id n he
    split at hr
    ·rename_i q hq
     split at hr
     ·rename_i hb
      have uK:q.e=z+1:=Nat.eq_of_beq_eq_true hb
      injection hr with hr;subst hr
      intro hC S0 w0 n' O a w φ hs
      have hx:=hs.bq x
      rw [he] at hx
      generalize hV:a.eval x=V at hx
      cases hx with
      | rep h=>cases h
      | ref _ e m g l c' hi hm k7 hx bY =>
       obtain ⟨q',gM,h1,h2,h3⟩:=aQ hi
       rw [hq] at gM;injection gM with gM;subst gM
       subst h1
       have hk:=mv hC.2.1 (by rw [h2];exact hm) aj
       refine ⟨_,bV hs ho hc hu dC hV (l:=0) (m:=h.m) ⟨rfl,hC.1,aj⟩ k7,?_⟩
       have:(if c'=0 then (some ⟨g,0,none⟩:Option Addr) else (some ⟨g,0,none⟩:Option Addr).map (·.add (0*(z+1))))=some ⟨g,0,none⟩:=by simp [dD]
       rw [this]
       exact .pre id _ q.e m g h.m c' hi (by rw [bx,Nat.mul_comm]) (by rw [←h2];exact hC.2.1) aj hx bY
      | cH _ e hi =>
       obtain ⟨q',gM,h1,h2,h3⟩:=aQ hi
       rw [hq] at gM;injection gM with gM;subst gM
       have hk:h.m=0:=by
        have h4:=hC.2.1
        rw [bx,h2,uK] at h4
        exact sS h4
       refine ⟨_,bV hs ho hc hu dC hV (l:=0) (m:=h.m) ⟨rfl,hC.1,aj⟩ (Nat.le_refl _),?_⟩
       rw [hk]
       simp only [if_true]
       have e0:cW 0 q.e=0:=by rw [bx];simp
       rw [e0]
       exact .dF id e hi
     ·cases hr
    ·cases hr
   ·rename_i id n he
    split at hr
    ·rename_i q hq
     split at hr
     ·rename_i hb
      have uK:q.e=z+1:=Nat.eq_of_beq_eq_true hb
      injection hr with hr;subst hr
      intro hC S0 w0 n' O a w φ hs
      have hx:=hs.bq x
      rw [he] at hx
      generalize hV:a.eval x=V at hx
      cases hx with
      | rep h=>cases h
      | ref _ e m g l c' hi hm k7 hx bY =>
       obtain ⟨q',gM,h1,h2,h3⟩:=aQ hi
       rw [hq] at gM;injection gM with gM;subst gM
       subst h1
       have hk:=mv hC.2.1 (by rw [h2];exact hm) aj
       have hle:=hC.2.1
       rw [bx] at hle
       refine ⟨_,bV hs ho hc hu dC hV (l:=h.k) (m:=l) ⟨hC.1,hk,rfl⟩ k7,?_⟩
       rw [bx]
       refine .jr id _ _ q.e m (l-h.k) (c'-h.k) (some g) _ hi (by rw [h2,hm,Nat.mul_sub,Nat.mul_comm h.k]) aj aj aj (fun h0=>⟨g,rfl,?_⟩)
       have cX:c'≠h.k:=by
        intro e'
        have:l=h.k:=aj
        rw [h2,hm,this,Nat.mul_comm,Nat.sub_self] at h0;omega
       rw [if_neg cX]
       simp [fe,uK]
      | cH _ e hi =>
       obtain ⟨q',gM,h1,h2,h3⟩:=aQ hi
       rw [hq] at gM;injection gM with gM;subst gM
       have hk:h.k=0:=by
        have h4:=hC.2.1
        rw [bx,h2,uK] at h4
        exact sS h4
       refine ⟨_,bV hs ho hc hu dC hV (l:=0) (m:=0) ⟨by rw [hC.1,hk],Nat.le_refl _,rfl⟩ (Nat.le_refl _),?_⟩
       rw [hk,h2]
       have e0:cW 0 q.e=0:=by rw [bx];simp
       rw [e0]
       simp only [if_true]
       exact .jr id 0 _ e 0 0 0 none none hi (by simp) (by simp) (by simp) (by simp) (fun h=>by simp at h)
     ·cases hr
    ·cases hr
   ·rename_i id n n2 he
    split at hr
    ·rename_i q hq
     split at hr
     ·rename_i hb
      have uK:q.e=z+1:=Nat.eq_of_beq_eq_true hb
      injection hr with hr;subst hr
      intro hC S0 w0 n' O a w φ hs
      have hx:=hs.bq x
      rw [he] at hx
      obtain ⟨iJ,Ey,Gz,Oo,-⟩:=hC
      generalize hV:a.eval x=V at hx
      cases hx with
      | rep h=>cases h
      | ref _ e m g l c' hi hm k7 hx bY =>
       obtain ⟨q',gM,h1,h2,h3⟩:=aQ hi
       rw [hq] at gM;injection gM with gM;subst gM
       subst h1
       have hk:=mv Oo (by rw [h2];exact hm) aj
       rw [bx] at Oo
       refine ⟨_,bV hs ho hc hu dC hV (l:=h.k) (m:=h.m) ⟨iJ,Ey,Gz,aj⟩ k7,?_⟩
       rw [bx,bx]
       have hmul:h.k*q.e≤h.m*q.e:=Nat.mul_le_mul_right _ Gz
       refine .jr id _ _ q.e m (h.m-h.k) (c'-h.k) (some g) _ hi (by rw [Nat.mul_comm]) (by rw [Nat.sub_mul];omega) aj aj (fun h0=>⟨g,rfl,?_⟩)
       have cX:c'≠h.k:=by
        intro e'
        have:h.m-h.k=0:=aj
        rw [this,Nat.zero_mul] at h0;omega
       rw [if_neg cX]
       simp [fe,uK]
      | cH _ e hi =>
       obtain ⟨q',gM,h1,h2,h3⟩:=aQ hi
       rw [hq] at gM;injection gM with gM;subst gM
       have hk:h.m=0:=by
        rw [bx,h2,uK] at Oo
        exact sS Oo
       have xQ:h.k=0:=aj
       refine ⟨_,bV hs ho hc hu dC hV (l:=0) (m:=0) ⟨by rw [iJ,xQ],by rw [Ey,hk],Nat.le_refl _,Nat.le_refl _⟩ (Nat.le_refl _),?_⟩
       rw [xQ,hk]
       have e0:cW 0 q.e=0:=by rw [bx];simp
       simp only [Nat.sub_self,e0,if_true]
       exact .jr id 0 0 e 0 0 0 none none hi (by simp) (by simp) (by simp) (by simp) (fun h=>by simp at h)
     ·cases hr
    ·cases hr
   ·rename_i id l' he
    injection hr with hr;subst hr
    intro hC S0 w0 n O a w φ hs
    have hx:=hs.bq x
    rw [he] at hx
    generalize hV:a.eval x=V at hx
    cases hx with
    | rep h=>cases h
    | pre _ _ e m g l c' hi sE hm k7 hx bY =>
     refine ⟨_,bV hs ho hc hu dC hV (l:=0) (m:=l) ⟨rfl,rfl⟩ k7,?_⟩
     have:(if c'=0 then (some ⟨g,0,none⟩:Option Addr) else (some ⟨g,0,none⟩:Option Addr).map (·.add (0*(z+1))))=some ⟨g,0,none⟩:=by simp [dD]
     rw [this]
     exact .pre id _ e m g l c' hi sE hm k7 hx bY
    | dF _ e hi =>
     refine ⟨_,bV hs ho hc hu dC hV (l:=0) (m:=0) ⟨rfl,rfl⟩ (Nat.le_refl _),?_⟩
     simp only [if_true]
     exact .dF id e hi
   ·rename_i id l' n he
    split at hr
    ·rename_i q hq
     split at hr
     ·rename_i hb
      have uK:q.e=z+1:=Nat.eq_of_beq_eq_true hb
      injection hr with hr;subst hr
      intro hC S0 w0 n' O a w φ hs
      have hx:=hs.bq x
      rw [he] at hx
      generalize hV:a.eval x=V at hx
      cases hx with
      | rep h=>cases h
      | pre _ _ e m g l c' hi sE hm k7 hx bY =>
       obtain ⟨q',gM,h1,h2,h3⟩:=aQ hi
       rw [hq] at gM;injection gM with gM;subst gM
       subst h1
       have hk:=mv hC.2.1 sE aj
       refine ⟨_,bV hs ho hc hu dC hV (l:=0) (m:=h.m) ⟨rfl,hC.1,aj⟩ k7,?_⟩
       have:(if c'=0 then (some ⟨g,0,none⟩:Option Addr) else (some ⟨g,0,none⟩:Option Addr).map (·.add (0*(z+1))))=some ⟨g,0,none⟩:=by simp [dD]
       rw [this]
       exact .pre id _ q.e m g h.m c' hi (by rw [bx,Nat.mul_comm]) (by have:=hC.2.1;omega) aj hx bY
      | dF _ e hi =>
       have hk:h.m=0:=by
        have h4:=hC.2.1
        rw [bx,uK] at h4
        exact sS h4
       refine ⟨_,bV hs ho hc hu dC hV (l:=0) (m:=h.m) ⟨rfl,hC.1,aj⟩ (Nat.le_refl _),?_⟩
       rw [hk]
       simp only [if_true]
       have e0:cW 0 q.e=0:=by rw [bx];simp
       rw [e0]
       exact .dF id e hi
     ·cases hr
    ·cases hr
   ·cases hr
  ·cases hr
 ·rename_i len el hu
  split at hr
  ·rename_i z dC
   have arr:∀(id:Nat) (q:Row),bq s x= .addr id 0->look s.H id=some q->q.full=true-> ∀S0 w0 n O a w φ,aJ S0 w0 n O s a w φ-> ∃g,a.eval x= .pointer (some ⟨g,0,none⟩)∧az s.H φ id=some (q.e,q.cells.length,some g)∧aV w g=q.cells.length:=by
    intro id q he hq hf S0 w0 n O a w φ hs
    have hx:=hs.bq x
    rw [he] at hx
    obtain ⟨e,m,g,hi,hv⟩:=jP hx
    obtain ⟨q',gM,h1,h2,h3⟩:=aQ hi
    rw [hq] at gM;injection gM with gM;subst gM
    refine ⟨g,hv,by rw [bu hq,h3],?_⟩
    have aN:=hs.rows id q hq
    unfold bN at aN
    rw [h3] at aN
    obtain ⟨cur,te,fr,hg,-,-,mT,-⟩:=aN
    unfold aV;rw [hg]
    exact mT hf
   split at hr
   ·rename_i id he
    split at hr
    ·rename_i q hq
     split at hr
     ·rename_i hb hf
      have uK:q.e=z+1:=Nat.eq_of_beq_eq_true hb
      injection hr with hr;subst hr
      intro hC S0 w0 n O a w φ hs
      obtain ⟨g,hv,hi,gm⟩:=arr id q he hq hf S0 w0 n O a w φ hs
      obtain ⟨iJ,Ey,-⟩:=hC
      rw [bx] at iJ
      refine ⟨_,ju hs ho hc hu dC hv (l:=0) (m:=len) ⟨rfl,rfl⟩,?_⟩
      have:(if len=0 then (⟨g,0,none⟩:Addr) else (⟨g,0,none⟩:Addr).add (0*(z+1)))=⟨g,0,none⟩:=by simp [dD]
      rw [this]
      exact .ref id q.e _ g len len hi (by rw [iJ,Nat.mul_comm]) (Nat.le_refl _) Ey (by rw [gm,iJ,Nat.mul_comm])
     ·cases hr
    ·cases hr
   ·rename_i id n he
    split at hr
    ·rename_i q hq
     split at hr
     ·rename_i hb hf
      have uK:q.e=z+1:=Nat.eq_of_beq_eq_true hb
      injection hr with hr;subst hr
      intro hC S0 w0 n' O a w φ hs
      obtain ⟨g,hv,hi,gm⟩:=arr id q he hq hf S0 w0 n' O a w φ hs
      obtain ⟨PY,Gz,iJ,Ey,-⟩:=hC
      rw [bx] at iJ
      refine ⟨_,ju hs ho hc hu dC hv (l:=0) (m:=h.m) ⟨rfl,PY,Gz⟩,?_⟩
      have:(if len=0 then (⟨g,0,none⟩:Addr) else (⟨g,0,none⟩:Addr).add (0*(z+1)))=⟨g,0,none⟩:=by simp [dD]
      rw [this,bx]
      exact .pre id _ q.e _ g h.m len hi (by rw [Nat.mul_comm]) (by rw [iJ];exact Nat.mul_le_mul_right _ Gz) Gz Ey (by rw [gm,iJ,Nat.mul_comm])
     ·cases hr
    ·cases hr
   ·rename_i id n he
    split at hr
    ·rename_i q hq
     split at hr
     ·rename_i hb hf
      have uK:q.e=z+1:=Nat.eq_of_beq_eq_true hb
      injection hr with hr;subst hr
      intro hC S0 w0 n' O a w φ hs
      obtain ⟨g,hv,hi,gm⟩:=arr id q he hq hf S0 w0 n' O a w φ hs
      obtain ⟨PY,Gz,iJ,Ey,-⟩:=hC
      rw [bx] at iJ
      refine ⟨_,ju hs ho hc hu dC hv (l:=h.k) (m:=len) ⟨PY,Gz,rfl⟩,?_⟩
      rw [bx,bx]
      have hmul:h.k*q.e≤len*q.e:=Nat.mul_le_mul_right _ Gz
      refine .jr id _ _ q.e _ (len-h.k) (len-h.k) (some g) _ hi (by rw [Nat.mul_comm]) (by rw [Nat.sub_mul,iJ];omega) aj aj (fun h0=>⟨g,rfl,?_⟩)
      have cX:len≠h.k:=by
       intro e'
       have:len-h.k=0:=aj
       rw [this,Nat.zero_mul] at h0;omega
      rw [if_neg cX]
      simp [fe,uK]
     ·cases hr
    ·cases hr
   ·rename_i id n n2 he
    split at hr
    ·rename_i q hq
     split at hr
     ·rename_i hb hf
      have uK:q.e=z+1:=Nat.eq_of_beq_eq_true hb
      injection hr with hr;subst hr
      intro hC S0 w0 n' O a w φ hs
      obtain ⟨g,hv,hi,gm⟩:=arr id q he hq hf S0 w0 n' O a w φ hs
      obtain ⟨PY,Oo,TJ,Gz,iJ,Ey,-⟩:=hC
      rw [bx] at iJ
      refine ⟨_,ju hs ho hc hu dC hv (l:=h.k) (m:=h.m) ⟨PY,Oo,TJ,Gz⟩,?_⟩
      rw [bx,bx]
      have hmul:h.k*q.e≤h.m*q.e:=Nat.mul_le_mul_right _ TJ
      have Tl:h.m*q.e≤len*q.e:=Nat.mul_le_mul_right _ Gz
      refine .jr id _ _ q.e _ (h.m-h.k) (len-h.k) (some g) _ hi (by rw [Nat.mul_comm]) (by rw [Nat.sub_mul,iJ];omega) aj aj (fun h0=>⟨g,rfl,?_⟩)
      have cX:len≠h.k:=by
       intro e'
       have:h.m-h.k=0:=aj
       rw [this,Nat.zero_mul] at h0;omega
      rw [if_neg cX]
      simp [fe,uK]
     ·cases hr
    ·cases hr
   ·cases hr
  ·cases hr
 ·cases hr
end
section
variable {P:Program} {s:AS} {o:Oper} {h:Hint} {r:AV×List Prop}
def rv (P:Program) (t:TypeId) (cs:List AV) (off:Nat) (h:Hint):Option (AV×List Prop) :=
 match eC P t,P.underlying t with
 | some sz,some d =>
  (match d with
  | .struct _| .array _ _=>(match Nat.beq ((cs.drop off).take sz).length sz with|true=>some (.agg ((cs.drop off).take sz),[])|false=>none)
  | _=>(match h.av with
   | some y=>some (y,[cs[off]?=some y])
   | none=>(match cs[off]? with|some y=>some (y,[])|none=>none)))
 | _,_=>none
theorem wR {I:Info} {S:Nat->Prop} {w:World} {t:TypeId} {cs:List AV} {off:Nat} (hr:rv P t cs off h=some r) (hC:bz r.2) (vs:List Value) (hl:vs.length=cs.length) (hd:∀(j:Nat) v c,vs[j]?=some v->cs[j]?=some c->Den I S w v c) :
  ∃v,(part t vs.toArray off).run P w= .ok v w∧Den I S w v r.1:=by
 unfold rv at hr
 split at hr
 ·rename_i sz d dC hu
  have hz:(sizeOf t).run P w= .ok sz w:=run_sizeOf dC
  have agg:cJ P t=true->Nat.beq ((cs.drop off).take sz).length sz=true->r=(.agg ((cs.drop off).take sz),[])-> ∃v,(part t vs.toArray off).run P w= .ok v w∧Den I S w v r.1:=by
   intro ha hb hr
   subst hr
   have hlen:=Nat.eq_of_beq_eq_true hb
   rw [List.length_take,List.length_drop] at hlen
   refine ⟨.agg (vs.toArray.extract off (off+sz)),?_,?_⟩
   ·simp [part,ix ⟨d,hu⟩,ha,hz]
   ·have e:vs.toArray.extract off (off+sz)=((vs.drop off).take sz).toArray:=by
     simp [List.extract_eq_take_drop]
    rw [e]
    exact .agg _ _ (by rw [List.length_take,List.length_drop,List.length_take,List.length_drop];omega) fun j v c hv hc=>hd (off+j) v c (bT _ _ _ _ _ hv) (bT _ _ _ _ _ hc)
  have one:∀y,cJ P t=false->cs[off]?=some y-> ∃v,(part t vs.toArray off).run P w= .ok v w∧Den I S w v y:=by
   intro y ha hy
   have dj:off<vs.length:=by have:=(List.getElem?_eq_some_iff.1 hy).1;omega
   have hv:vs[off]?=some vs[off]:=List.getElem?_eq_getElem dj
   refine ⟨vs[off],?_,hd off _ y hv hy⟩
   simp [part,ix ⟨d,hu⟩,ha,dj]
  split at hr
  ·have ha:cJ P t=true:=by unfold cJ;rw [hu]
   split at hr
   ·rename_i hb;injection hr with hr;exact agg ha hb hr.symm
   ·cases hr
  ·have ha:cJ P t=true:=by unfold cJ;rw [hu]
   split at hr
   ·rename_i hb;injection hr with hr;exact agg ha hb hr.symm
   ·cases hr
  ·rename_i Od RE
   have ha:cJ P t=false:=by
    unfold cJ;rw [hu]
    cases d<;>first|rfl|exact absurd rfl (Od _)|exact absurd rfl (RE _ _)
   split at hr
   ·injection hr with hr;subst hr
    exact one _ ha hC.1
   ·split at hr
    ·rename_i y hy
     injection hr with hr;subst hr
     exact one _ ha hy
    ·cases hr
 ·cases hr
def yd (P:Program) (t:TypeId) (x:AV) (f:Nat) (h:Hint):Option (AV×List Prop) :=
 match P.underlying t,x with
 | some (.struct fields),.agg cs=>(match fields[f]? with|some fd=>rv P fd.type cs fd.offset h|none=>none)
 | _,_=>none
theorem CP {t:TypeId} {x:Operand} {f:Nat} (ho:o.op= .field t x f) (hr:yd P t (bq s x) f h=some r):dc P s o r.1 r.2:=by
 intro hC S0 w0 n O a w φ hs
 have hx:=hs.bq x
 unfold yd at hr
 split at hr
 ·rename_i fields cs hu he
  split at hr
  ·rename_i fd hf
   rw [he] at hx
   obtain ⟨vs,hv,hl,hd⟩:=kj hx
   obtain ⟨v,h1,h2⟩:=wR hr hC vs hl hd
   refine ⟨v,?_,h2⟩
   unfold execOp
   simp [ho,Instr.field,run_underlying hu,hf,hv,asAgg,h1]
  ·cases hr
 ·cases hr
def rz (x:AV) (i:Nat):Option (AV×List Prop) :=
 match x with
 | .bt cs=>(match cs[i]? with|some y=>some (y,[])|none=>none)
 | _=>none
theorem ye {x:Operand} {i:Nat} (ho:o.op= .extract x i) (hr:rz (bq s x) i=some r):dc P s o r.1 r.2:=by
 intro hC S0 w0 n O a w φ hs
 have hx:=hs.bq x
 unfold rz at hr
 split at hr
 ·rename_i cs he
  split at hr
  ·rename_i y hy
   injection hr with hr;subst hr
   rw [he] at hx
   obtain ⟨vs,hv,hl,hd⟩:=yu hx
   have dj:i<vs.length:=by have:=(List.getElem?_eq_some_iff.1 hy).1;omega
   have Ue:vs[i]?=some vs[i]:=List.getElem?_eq_getElem dj
   refine ⟨vs[i],?_,hd i _ y Ue hy⟩
   unfold execOp
   simp [ho,Instr.extract,hv,dj]
  ·cases hr
 ·cases hr
def yb (P:Program) (t:TypeId) (x:AV) (n:Int) (h:Hint):Option (AV×List Prop) :=
 match P.underlying t,x with
 | some (.array len el),.agg cs=>(match eC P el with|some z=>(match rv P el cs (cW h.k z) h with|some r=>some (r.1,(n=(h.k:Int))::(h.k<len)::r.2)|none=>none)|none=>none)
 | some (.array len el),.arr cs=>(match eC P el with|some z=>(match rv P el cs (cW h.k z) h with|some r=>some (r.1,(n=(h.k:Int))::(h.k<len)::r.2)|none=>none)|none=>none)
 | some .string,.val (.string b)=>some (fin h (.val (.int .u8 (bv (b.data.toList.getD h.k 0))),[n=(h.k:Int),h.k<b.size]))
 | _,_=>none
theorem qp {I:Info} {S:Nat->Prop} {w:World} {v:Value} {cs:List AV} (h:Den I S w v (.arr cs)):∃vs:List Value,v= .agg vs.toArray∧vs.length=cs.length∧ ∀(j:Nat) v c,vs[j]?=some v->cs[j]?=some c->cB S w v c:=by
 cases h with
 | rep h=>cases h with|arr vs _ hl h=>exact ⟨vs,rfl,hl,h⟩
theorem CN {t:TypeId} {x i:Operand} {k:IntKind} {n:Int} (ho:o.op= .index t x i) (hi:bq s i= .val (.int k n)) (hr:yb P t (bq s x) n h=some r):dc P s o r.1 r.2:=by
 unfold yb at hr
 have arr:∀(len:Nat) (el:TypeId) (z:Nat) (q:AV×List Prop) (cs:List AV),P.underlying t=some (.array len el)->eC P el=some z->rv P el cs (cW h.k z) h=some q->r=(q.1,(n=(h.k:Int))::(h.k<len)::q.2) ->
   (∀S0 w0 n O a w φ,aJ S0 w0 n O s a w φ-> ∃vs:List Value,a.eval x= .agg vs.toArray∧vs.length=cs.length∧ ∀(j:Nat) v c,vs[j]?=some v->cs[j]?=some c->Den (az s.H φ) (aM S0 w φ O) w v c)->dc P s o r.1 r.2:=by
  intro len el z q cs hu hz hq hr hX
  subst hr
  intro hC S0 w0 n' O a w φ hs
  obtain ⟨h1,h2,hC⟩:=hC
  have ei:a.eval i= .int k n:=bK (hi ▸ hs.bq i)
  obtain ⟨vs,hv,hl,hd⟩:=hX S0 w0 n' O a w φ hs
  obtain ⟨v,h3,h4⟩:=wR hq hC vs hl hd
  refine ⟨v,?_,h4⟩
  have m_:0≤n∧n<(len:Int):=aj
  have hk:n.toNat=h.k:=aj
  have Av:(sizeOf el).run P w= .ok z w:=run_sizeOf hz
  rw [bx] at h3
  unfold execOp
  simp [ho,Instr.index,run_underlying hu,hv,asIntOf,ei,m_,hk,Av,h3]
 split at hr
 ·rename_i len el cs hu he
  split at hr
  ·rename_i z hz
   split at hr
   ·rename_i q hq
    injection hr with hr
    refine arr len el z q cs hu hz hq hr.symm fun S0 w0 n O a w φ hs=>?_
    have hx:=hs.bq x
    rw [he] at hx
    exact kj hx
   ·cases hr
  ·cases hr
 ·rename_i len el cs hu he
  split at hr
  ·rename_i z hz
   split at hr
   ·rename_i q hq
    injection hr with hr
    refine arr len el z q cs hu hz hq hr.symm fun S0 w0 n O a w φ hs=>?_
    have hx:=hs.bq x
    rw [he] at hx
    obtain ⟨vs,h1,h2,h3⟩:=qp hx
    exact ⟨vs,h1,h2,fun j v c hv hc=>.rep (h3 j v c hv hc)⟩
   ·cases hr
  ·cases hr
 ·rename_i b hu he
  injection hr with hr;subst hr
  refine gA ?_
  intro hC S0 w0 n' O a w φ hs
  obtain ⟨h1,h2,-⟩:=hC
  have ei:a.eval i= .int k n:=bK (hi ▸ hs.bq i)
  have ex:a.eval x= .string b:=bK (he ▸ hs.bq x)
  refine ⟨_,?_,.rep (.val _)⟩
  have h0:0≤n:=aj
  have hk:n.toNat=h.k:=aj
  unfold execOp
  simp [ho,Instr.index,run_underlying hu,ex,asIntOf,ei,h0,hk,h2]
  rfl
 ·cases hr
def IX (x:AV):Option (AV×List Prop) :=
 match x with
 | .ptr row off=>some (.ptr row off,[])
 | .addr id off=>some (.addr id off,[])
 | .val (.func (.func f) l c)=>some (.val (.func (.func f) l c),[])
 | _=>none
theorem IW {x:Operand} (ho:o.op= .nilCheck x) (hr:IX (bq s x)=some r):dc P s o r.1 r.2:=by
 intro hC S0 w0 n O a w φ hs
 have hx:=hs.bq x
 unfold IX at hr
 split at hr
 ·rename_i row off he
  injection hr with hr;subst hr
  rw [he] at hx
  obtain ⟨ad,us,hv,-⟩:=tg hx
  refine ⟨a.eval x,?_,hx⟩
  unfold execOp
  simp [ho,hv]
 ·rename_i id off he
  injection hr with hr;subst hr
  rw [he] at hx
  obtain ⟨e,m,g,-,hv⟩:=jP hx
  refine ⟨a.eval x,?_,hx⟩
  unfold execOp
  simp [ho,hv]
 ·rename_i f l c he
  injection hr with hr;subst hr
  rw [he] at hx
  have hv:=bK hx
  refine ⟨a.eval x,?_,hx⟩
  unfold execOp
  simp [ho,hv]
 ·cases hr
def CJ (s:AS) (c x y:Operand) (h:Hint):Option (AV×List Prop) :=
 match bq s c with
 | .val (.bool b)=>(match h.b with|true=>some (bq s x,[b=true])|false=>some (bq s y,[b=false]))
 | _=>none
theorem FQ {c x y:Operand} {h:Hint} (ho:o.op= .pick c x y) (hr:CJ s c x y h=some r):dc P s o r.1 r.2:=by
 intro hC S0 w0 n O a w φ hs
 unfold CJ at hr
 split at hr
 ·rename_i b he
  split at hr
  ·cases hr
   have ec:a.eval c= .bool true:=by
    have h1:a.eval c= .bool b:=bK (he ▸ hs.bq c)
    rw [h1,show b=true from hC.1]
   refine ⟨a.eval x,?_,hs.bq x⟩
   unfold execOp
   simp [ho,ec,asBool]
  ·cases hr
   have ec:a.eval c= .bool false:=by
    have h1:a.eval c= .bool b:=bK (he ▸ hs.bq c)
    rw [h1,show b=false from hC.1]
   refine ⟨a.eval y,?_,hs.bq y⟩
   unfold execOp
   simp [ho,ec,asBool]
 ·cases hr
def IZ (P:Program) (s:AS) (ts:Array TypeId) (ty:TypeId) (x:AV) (h:Hint):Option (AV×List Prop) :=
 match x with
 | .val u=>(match j_ P (Builtin.len_ ts ty #[u]) with|some z=>some (fin h (.val z,[]))|none=>none)
 | x=>(match ts[0]? with
  | some t=>(match P.underlying t with
   | some (.slice _)=>(match x with
    | .nil=>some (.val (.int .i64 0),[])
    | .sl (e+1) row=>some (.val (.int .i64 h.k),[row.length=cW h.k (e+1)])
    | .ref id=>(match look s.H id with|some ⟨e+1,_,_,cells⟩=>some (.val (.int .i64 h.k),[cells.length=cW h.k (e+1)])|_=>none)
    | .pre id l=>(match look s.H id with|some ⟨e+1,_,_,_⟩=>some (.val (.int .i64 h.k),[l=cW h.k (e+1)])|_=>none)
    | .jr id _ l=>(match look s.H id with|some ⟨e+1,_,_,_⟩=>some (.val (.int .i64 h.k),[l=cW h.k (e+1)])|_=>none)
    | _=>none)
   | some (.array n _)=>some (.val (.int .i64 n),[])
   | _=>none)
  | none=>none)
theorem q_ {q e l k:Nat} (h1:q=cW k (e+1)) (h2:q=(e+1)*l):l=k:=by
 rw [bx,h2,Nat.mul_comm k] at h1
 exact Nat.eq_of_mul_eq_mul_left aj h1
theorem IY {x:Operand} {ts:Array TypeId} (ho:o.op= .call {callee:=.builtin .len,args:= #[x],argTypes:=ts}) (hr:IZ P s ts o.type (bq s x) h=some r):dc P s o r.1 r.2:=by
 unfold IZ at hr
 split at hr
 ·rename_i u he
  split at hr
  ·rename_i z hz
   injection hr with hr;subst hr
   refine gA ?_
   intro hC S0 w0 n O a w φ hs
   have ex:a.eval x=u:=bK (he ▸ hs.bq x)
   refine ⟨z,?_,.rep (.val _)⟩
   unfold execOp
   simp [ho,resolve,invoke,builtin,ex,fK w hz]
  ·cases hr
 ·split at hr
  ·rename_i t ht
   split at hr
   ·rename_i el hu
    have run:∀(a:Act) (w:World) (A:Option Addr) (l c:Nat),a.eval x= .slice A l c->(execOp a.eval o).run P w= .ok (.value (.int .i64 l)) w:=by
     intro a w A l c hv
     unfold execOp
     simp [ho,resolve,invoke,builtin,hv,Builtin.len_,ht,run_underlying hu,goInt]
    split at hr
    ·rename_i he
     injection hr with hr;subst hr
     intro hC S0 w0 n O a w φ hs
     have hx:=hs.bq x
     rw [he] at hx
     generalize hV:a.eval x=V at hx
     cases hx with|rep h=>cases h with|nil=>exact ⟨_,run a w _ _ _ hV,.rep (.val _)⟩
    ·rename_i e row he
     injection hr with hr;subst hr
     intro hC S0 w0 n O a w φ hs
     have hx:=hs.bq x
     rw [he] at hx
     have b7:=pj hx
     generalize hV:a.eval x=V at b7
     cases b7 with
     | sl A l c _ us _ hl hn hc hm ha h' =>
      have:=q_ hC.1 hn
      subst this
      exact ⟨_,run a w _ _ _ hV,.rep (.val _)⟩
    ·rename_i id he
     split at hr
     ·rename_i e pu fu cells hq
      injection hr with hr;subst hr
      intro hC S0 w0 n O a w φ hs
      have hx:=hs.bq x
      rw [he] at hx
      generalize hV:a.eval x=V at hx
      cases hx with
      | rep h=>cases h
      | ref _ e m g l c hi hm hc hx bY =>
       rw [bu hq] at hi
       injection hi with hi;injection hi with h1 hi;injection hi with h2 h3
       have:=q_ hC.1 (by rw [show cells.length=m from h2,hm,←h1])
       subst this
       exact ⟨_,run a w _ _ _ hV,.rep (.val _)⟩
      | cH _ e hi =>
       rw [bu hq] at hi
       injection hi with hi;injection hi with h1 hi;injection hi with h2 h3
       have:=q_ (l:=0) hC.1 (by rw [show cells.length=0 from h2];simp)
       rw [←this]
       exact ⟨_,run a w _ _ _ hV,.rep (.val _)⟩
     ·cases hr
    ·rename_i id l' he
     split at hr
     ·rename_i e pu fu cells hq
      injection hr with hr;subst hr
      intro hC S0 w0 n O a w φ hs
      have hx:=hs.bq x
      rw [he] at hx
      generalize hV:a.eval x=V at hx
      cases hx with
      | rep h=>cases h
      | pre _ _ e m g l c hi hn hm hc hx bY =>
       rw [bu hq] at hi
       injection hi with hi;injection hi with h1 hi;injection hi with h2 h3
       have:=q_ hC.1 (by rw [hn,←h1])
       subst this
       exact ⟨_,run a w _ _ _ hV,.rep (.val _)⟩
      | dF _ e hi =>
       have:=q_ (l:=0) hC.1 (by simp)
       rw [←this]
       exact ⟨_,run a w _ _ _ hV,.rep (.val _)⟩
     ·cases hr
    ·rename_i id off l' he
     split at hr
     ·rename_i e pu fu cells hq
      injection hr with hr;subst hr
      intro hC S0 w0 n O a w φ hs
      have hx:=hs.bq x
      rw [he] at hx
      generalize hV:a.eval x=V at hx
      cases hx with
      | rep h=>cases h
      | jr _ _ _ e m l c g A hi hn hm hc hx ha =>
       rw [bu hq] at hi
       injection hi with hi;injection hi with h1 hi;injection hi with h2 h3
       have:=q_ hC.1 (by rw [hn,←h1])
       subst this
       exact ⟨_,run a w _ _ _ hV,.rep (.val _)⟩
     ·cases hr
    ·cases hr
   ·rename_i n' el hu
    injection hr with hr;subst hr
    intro hC S0 w0 n O a w φ hs
    refine ⟨.int .i64 n',?_,.rep (.val _)⟩
    unfold execOp
    simp [ho,resolve,invoke,builtin,Builtin.len_,ht,run_underlying hu,goInt]
   ·cases hr
  ·cases hr
def tD (s:AS):List Operand->Option (List Value)
 | []=>some []
 | x::l=>match bq s x,tD s l with| .val u,some m=>some (u::m)|_,_=>none
theorem vT {S0:bo} {w0 w:World} {n:Nat} {O:List Nat} {a:Act} {φ:Nat->Option Nat} (hs:aJ S0 w0 n O s a w φ):∀(xs:List Operand) (us:List Value),tD s xs=some us->xs.map a.eval=us
 | [],us,h=>by cases h;rfl
 | x::l,us,h=>by
  simp only [tD] at h
  split at h
  ·rename_i u m hu hm
   injection h with h;subst h
   rw [List.map_cons,vT hs l m hm,show a.eval x=u from bK (hu ▸ hs.bq x)]
  ·cases h
def Nt (P:Program) (b:Builtin) (ts:Array TypeId) (ty:TypeId) (us:List Value):Option (AV×List Prop) :=
 match b with
 | .min=>(match j_ P (Builtin.min_ ts ty us.toArray) with|some z=>some (.val z,[])|none=>none)
 | .max=>(match j_ P (Builtin.max_ ts ty us.toArray) with|some z=>some (.val z,[])|none=>none)
 | _=>none
theorem La {b:Builtin} {xs:Array Operand} {ts:Array TypeId} {us:List Value} (ho:o.op= .call {callee:=.builtin b,args:=xs,argTypes:=ts}) (hu:tD s xs.toList=some us) (hr:Nt P b ts o.type us=some r):dc P s o r.1 r.2:=by
 intro hC S0 w0 n O a w φ hs
 have e:=vT hs _ _ hu
 have e2:xs.map a.eval=us.toArray:=Array.toList_inj.1 (by rw [Array.toList_map,e])
 unfold Nt at hr
 split at hr
 ·split at hr
  ·rename_i z hz
   injection hr with hr;subst hr
   refine ⟨z,?_,.rep (.val _)⟩
   unfold execOp
   simp [ho,resolve,invoke,builtin,e2,fK w hz]
  ·cases hr
 ·split at hr
  ·rename_i z hz
   injection hr with hr;subst hr
   refine ⟨z,?_,.rep (.val _)⟩
   unfold execOp
   simp [ho,resolve,invoke,builtin,e2,fK w hz]
  ·cases hr
 ·cases hr
end
end Go.Proofs.YtjgbhhnghedgdaaGreatDoor
