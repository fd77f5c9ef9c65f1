import Derived.Test.YtejpabdmiagnnaaGreatDoorZrRW
import Derived.Shelf.Unicode.DecodeSlow
import Derived.Calls
import Derived.Laws.Cells
set_option linter.all false
namespace Go.Proofs.YtejpabdmiagnnaaGreatDoor
open Go.RowKit
inductive AV where
 | val (v:Value)
 | nil
 | agg (cs:List AV)
 | tup (cs:List AV)
 | arr (cs:List AV)
 | sl (e:Nat) (row:List AV)
 | ptr (row:List AV) (off:Nat)
 | own (e:Nat) (row:List AV)
 | box (row:List AV)
 | ref (id:Nat)
 | pre (id n:Nat)
 | win (id off n:Nat)
 | addr (id off:Nat)
 | clo (f:Nat) (cs:List AV)
 | dead
 deriving Inhabited
inductive Rep (S:Nat->Prop) (w:World):Value->AV->Prop
 | val (v:Value):Rep S w v (.val v)
 | nil:Rep S w (.slice none 0 0) .nil
 | agg (vs:List Value) (cs:List AV) (hl:vs.length=cs.length) (h:∀(j:Nat) v c,vs[j]?=some v->cs[j]?=some c->Rep S w v c):Rep S w (.agg vs.toArray) (.agg cs)
 | tup (vs:List Value) (cs:List AV) (hl:vs.length=cs.length) (h:∀(j:Nat) v c,vs[j]?=some v->cs[j]?=some c->Rep S w v c):Rep S w (.tuple vs.toArray) (.tup cs)
 | arr (vs:List Value) (cs:List AV) (hl:vs.length=cs.length) (h:∀(j:Nat) v c,vs[j]?=some v->cs[j]?=some c->Rep S w v c):Rep S w (.agg vs.toArray) (.arr cs)
 | sl (A:Option Addr) (n c e:Nat) (us:List Value) (row:List AV) (hl:us.length=row.length) (hn:row.length=e*n) (hc:n≤c) (hm:c≤maxLen)
   (ha:0<row.length-> ∃ad,A=some ad∧S ad.block∧ ∀(j:Nat) u,us[j]?=some u->w.cell? (ad.add j)=some u)
   (h:∀(j:Nat) u x,us[j]?=some u->row[j]?=some x->Rep S w u x):Rep S w (.slice A n c) (.sl e row)
 | ptr (ad:Addr) (us:List Value) (row:List AV) (off:Nat) (hl:us.length=row.length) (hs:S ad.block) (ha:∀(j:Nat) u,us[j]?=some u->w.cell? (ad.add j)=some u)
   (h:∀(j:Nat) u x,us[j]?=some u->row[j]?=some x->Rep S w u x):Rep S w (.pointer (some (ad.add off))) (.ptr row off)
 | clo (f:Nat) (vs:List Value) (cs:List AV) (hl:vs.length=cs.length) (h:∀(j:Nat) v c,vs[j]?=some v->cs[j]?=some c->Rep S w v c):Rep S w (.func (.func f) #[] vs.toArray) (.clo f cs)
theorem cell_same {w w':World} {p:Addr} (h:w'.heap[p.block]?=w.heap[p.block]?):w'.cell? p=w.cell? p:=World.cell?_of_block (w:=w) h
theorem Rep.mono {S S':Nat->Prop} {w w':World} (hS:∀b,S b->S' b∧w'.heap[b]?=w.heap[b]?) {v:Value} {av:AV} (h:Rep S w v av):Rep S' w' v av:=by
 induction h with
 | val v=>exact .val v
 | nil=>exact .nil
 | agg vs cs hl _ ih=>exact .agg vs cs hl ih
 | tup vs cs hl _ ih=>exact .tup vs cs hl ih
 | arr vs cs hl _ ih=>exact .arr vs cs hl ih
 | sl A n c e us row hl hn hc hm ha _ ih =>
  refine .sl A n c e us row hl hn hc hm (fun h0=>?_) ih
  obtain ⟨ad,rfl,hb,hcell⟩:=ha h0
  exact ⟨ad,rfl,(hS _ hb).1,fun j u hu=>(cell_same (by rw [block_of_add];exact (hS _ hb).2)).trans (hcell j u hu)⟩
 | ptr ad us row off hl hs ha _ ih =>
  exact .ptr ad us row off hl (hS _ hs).1 (fun j u hu=>(cell_same (by rw [block_of_add];exact (hS _ hs).2)).trans (ha j u hu)) ih
 | clo f vs cs hl _ ih=>exact .clo f vs cs hl ih
abbrev Info:=Nat->Option (Nat×Nat×Option Nat)
def cellsLen (w:World) (g:Nat):Nat:=match w.heap[g]? with|some (.cells c _ _)=>c.size|_=>0
inductive Den (I:Info) (S:Nat->Prop) (w:World):Value->AV->Prop
 | rep {v:Value} {av:AV} (h:Rep S w v av):Den I S w v av
 | agg (vs:List Value) (cs:List AV) (hl:vs.length=cs.length) (h:∀(j:Nat) v c,vs[j]?=some v->cs[j]?=some c->Den I S w v c):Den I S w (.agg vs.toArray) (.agg cs)
 | tup (vs:List Value) (cs:List AV) (hl:vs.length=cs.length) (h:∀(j:Nat) v c,vs[j]?=some v->cs[j]?=some c->Den I S w v c):Den I S w (.tuple vs.toArray) (.tup cs)
 | ref (id e m g l c:Nat) (hi:I id=some (e,m,some g)) (hm:m=e*l) (hc:l≤c) (hx:c≤maxLen) (hs:cellsLen w g=e*c):Den I S w (.slice (some ⟨g,0,none⟩) l c) (.ref id)
 | refnil (id e:Nat) (hi:I id=some (e,0,none)):Den I S w (.slice none 0 0) (.ref id)
 | pre (id n e m g l c:Nat) (hi:I id=some (e,m,some g)) (hn:n=e*l) (hm:n≤m) (hc:l≤c) (hx:c≤maxLen) (hs:cellsLen w g=e*c):Den I S w (.slice (some ⟨g,0,none⟩) l c) (.pre id n)
 | prenil (id e:Nat) (hi:I id=some (e,0,none)):Den I S w (.slice none 0 0) (.pre id 0)
 | win (id off n e m l c:Nat) (g:Option Nat) (A:Option Addr) (hi:I id=some (e,m,g)) (hn:n=e*l) (hm:off+n≤m) (hc:l≤c) (hx:c≤maxLen) (ha:0<n-> ∃b,g=some b∧A=some ⟨b,off,none⟩):Den I S w (.slice A l c) (.win id off n)
 | addr (id off e m g:Nat) (hi:I id=some (e,m,some g)):Den I S w (.pointer (some ⟨g,off,none⟩)) (.addr id off)
 | dead (v:Value):Den I S w v .dead
theorem Den.mono {I I':Info} {S S':Nat->Prop} {w w':World} (hI:∀id x,I id=some x->I' id=some x) (hS:∀b,S b->S' b∧w'.heap[b]?=w.heap[b]?)
  (hL:∀id e m g,I id=some (e,m,some g)->cellsLen w' g=cellsLen w g) {v:Value} {av:AV} (h:Den I S w v av):Den I' S' w' v av:=by
 induction h with
 | rep h=>exact .rep (h.mono hS)
 | agg vs cs hl _ ih=>exact .agg vs cs hl ih
 | tup vs cs hl _ ih=>exact .tup vs cs hl ih
 | ref id e m g l c hi hm hc hx hs=>exact .ref id e m g l c (hI _ _ hi) hm hc hx ((hL _ _ _ _ hi).trans hs)
 | refnil id e hi=>exact .refnil id e (hI _ _ hi)
 | pre id n e m g l c hi hn hm hc hx hs=>exact .pre id n e m g l c (hI _ _ hi) hn hm hc hx ((hL _ _ _ _ hi).trans hs)
 | prenil id e hi=>exact .prenil id e (hI _ _ hi)
 | win id off n e m l c g A hi hn hm hc hx ha=>exact .win id off n e m l c g A (hI _ _ hi) hn hm hc hx ha
 | addr id off e m g hi=>exact .addr id off e m g (hI _ _ hi)
 | dead v=>exact .dead v
structure Row where
 e:Nat
 pure:Bool
 full:Bool
 cells:List AV
def CellDen (I:Info) (S:Nat->Prop) (w:World) (p:Bool) (u:Value) (x:AV):Prop:=match p with|true=>Rep S w u x|false=>Den I S w u x
def RowDen (I:Info) (S:Nat->Prop) (w:World) (b:Option Nat) (r:Row):Prop :=
 match b with
 | none=>r.cells= []
 | some g=>∃cur te fr,w.heap[g]?=some (.cells cur te fr)∧(∀j,j<cur.size-> ¬(fr.1≤j∧j<fr.2))∧r.cells.length≤cur.size∧(r.full=true->cur.size=r.cells.length) ∧
   ∀(j:Nat) u x,cur[j]?=some u->r.cells[j]?=some x->CellDen I S w r.pure u x
def look {α:Type}:List (Nat×α)->Nat->Option α
 | [],_=>none
 | (k,x)::l,i=>match Nat.beq k i with|true=>some x|false=>look l i
def drop_ {α:Type}:List (Nat×α)->Nat->List (Nat×α)
 | [],_=>[]
 | (k,x)::l,i=>match Nat.beq k i with|true=>drop_ l i|false=>(k,x)::drop_ l i
def mapv {α:Type} (f:α->α):List (Nat×α)->List (Nat×α)
 | []=>[]
 | (k,x)::l=>(k,f x)::mapv f l
theorem beq_cases (k i:Nat):(Nat.beq k i=true∧k=i)∨(Nat.beq k i=false∧k≠i):=by
 cases h:Nat.beq k i with
 | true=>exact .inl ⟨rfl,Nat.eq_of_beq_eq_true h⟩
 | false=>exact .inr ⟨rfl,Nat.ne_of_beq_eq_false h⟩
theorem look_cons {α:Type} (k:Nat) (x:α) (l:List (Nat×α)) (i:Nat):look ((k,x)::l) i=if k=i then some x else look l i:=by
 rcases beq_cases k i with ⟨h,e⟩|⟨h,e⟩<;>simp [look,h,e]
theorem look_drop {α:Type} (l:List (Nat×α)) (i j:Nat):look (drop_ l i) j=if i=j then none else look l j:=by
 induction l with
 | nil=>simp [drop_,look]
 | cons p l ih =>
  obtain ⟨k,x⟩:=p
  rcases beq_cases k i with ⟨h,e⟩|⟨h,e⟩
  ·simp only [drop_,h];rw [ih,look_cons,e]
   by_cases hj:i=j<;>simp [hj]
  ·simp only [drop_,h,look_cons,ih]
   by_cases hk:k=j
   ·subst hk;simp [Ne.symm e]
   ·simp [hk]
theorem look_mapv {α:Type} (f:α->α) (l:List (Nat×α)) (i:Nat):look (mapv f l) i=(look l i).map f:=by
 induction l with
 | nil=>rfl
 | cons p l ih =>
  obtain ⟨k,x⟩:=p
  simp only [mapv,look_cons,ih]
  by_cases hk:k=i<;>simp [hk]
theorem look_append {α:Type} (l m:List (Nat×α)) (i:Nat):look (l++m) i=(look l i).or (look m i):=by
 induction l with
 | nil=>simp [look]
 | cons p l ih =>
  obtain ⟨k,x⟩:=p
  simp only [List.cons_append,look_cons,ih]
  by_cases hk:k=i<;>simp [hk]
structure AS where
 F:List (Nat×AV)
 H:List (Nat×Row)
def infoOf (H:List (Nat×Row)) (φ:Nat->Option Nat):Info:=fun id=>(look H id).map fun r=>(r.e,r.cells.length,φ id)
def TB (b:Nat):Prop:=b=0∨b=1
def Good (w:World):Prop:=Lib.Utf8Tabs 0 1 w
theorem Good.keep {w w':World} (h:Good w) (hk:∀b,TB b->w'.heap[b]?=w.heap[b]?):Good w' :=
 ⟨fun c hc=>(World.cell?_of_block (hk _ (.inl rfl))).trans (h.1 c hc),fun i hi=>⟨(World.cell?_of_block (hk _ (.inr rfl))).trans (h.2 i hi).1,(World.cell?_of_block (hk _ (.inr rfl))).trans (h.2 i hi).2⟩⟩
theorem Good.lt {w:World} (h:Good w) {b:Nat} (hb:TB b):b<w.heap.size:=by
 have lt:∀ {a:Addr} {v:Value},w.cell? a=some v->a.block<w.heap.size:=fun {a v} hc=>by
  rcases Nat.lt_or_ge a.block w.heap.size with h'|h'
  ·exact h'
  ·simp [World.cell?,Array.getElem?_eq_none h'] at hc
 rcases hb with rfl|rfl
 ·exact lt (h.1 0 (by decide))
 ·exact lt (h.2 0 (by decide)).1
structure Zone where
 S:Nat->Prop
 X:Nat->Prop
 fix:Nat->Option Nat
 dfs:List Deferred:=[]
instance:CoeFun Zone fun _=>Nat->Prop:=⟨Zone.S⟩
def Mine (S0:Zone) (w0:World) (id g:Nat):Prop:=(id<1000000000000∨S0.fix id=some g)∧(w0.heap.size≤g∨S0.X g)
structure Kept (S0:Zone) (w0 w:World):Prop where
 os:w.os=w0.os
 tape:w.tape=w0.tape
 output:w.output=w0.output
 size:w0.heap.size≤w.heap.size
 block:∀k,k<w0.heap.size-> ¬S0.X k->w.heap[k]?=w0.heap[k]?
 g0:Good w0
 gx:∀b,TB b-> ¬S0.X b
theorem Kept.good {S0:Zone} {w0 w:World} (h:Kept S0 w0 w):Good w:=h.g0.keep fun b hb=>h.block b (h.g0.lt hb) (h.gx b hb)
theorem Kept.thenCall {S0:Zone} {w0 w w':World} (h:Kept S0 w0 w) (hb:Below w.heap.size w w'):Kept S0 w0 w' :=
 ⟨hb.os.trans h.os,hb.tape.trans h.tape,hb.output.trans h.output,Nat.le_trans h.size hb.size,fun k hk hx=>(hb.block k (Nat.lt_of_lt_of_le hk h.size)).trans (h.block k hk hx),h.g0,h.gx⟩
theorem Kept.below {S0:Zone} {w0 w:World} (h:Kept S0 w0 w) (hX:∀b,¬S0.X b):Below w0.heap.size w0 w :=
 ⟨h.os,h.tape,h.output,h.size,fun k hk=>h.block k hk (hX k)⟩
def Free (S0:Zone) (w:World) (φ:Nat->Option Nat) (O:List Nat):Nat->Prop:=fun b=>b<w.heap.size∧b ∉ O∧(∀id,φ id≠some b)∧S0 b
structure SimO (S0:Zone) (w0:World) (n:Nat) (O:List Nat) (s:AS) (a:Act) (w:World) (φ:Nat->Option Nat):Prop where
 tsz:a.tmps.size=n
 dfr:a.defers=S0.dfs
 bel:Kept S0 w0 w
 slots:∀i av,look s.F i=some av->Den (infoOf s.H φ) (Free S0 w φ O) w (a.tmps.getD i undef) av
 rows:∀id r,look s.H id=some r->RowDen (infoOf s.H φ) (Free S0 w φ O) w (φ id) r
 only:∀id,look s.H id=none->φ id=none
 inj:∀id id' g,φ id=some g->φ id'=some g->id=id'
 rng:∀id g,φ id=some g->Mine S0 w0 id g∧g<w.heap.size
 apart:∀id g,φ id=some g->g ∉ O
 new:∀b,(w0.heap.size≤b∨S0.X b)->S0 b
def Sim (S0:Zone) (w0:World) (n:Nat) (s:AS) (a:Act) (w:World):Prop:=∃ φ,SimO S0 w0 n [] s a w φ
theorem Kept.noTB {S0:Zone} {w0 w:World} (h:Kept S0 w0 w) {g:Nat} (hg:w0.heap.size≤g∨S0.X g):¬TB g:=fun hb=>hg.elim (fun h1=>by have:=h.g0.lt hb;omega) (h.gx g hb)
theorem SimO.noTB {S0:Zone} {w0 w:World} {n:Nat} {O:List Nat} {s:AS} {a:Act} {φ:Nat->Option Nat} (h:SimO S0 w0 n O s a w φ) {b:Nat} (hb:TB b):¬ ∃id,φ id=some b:=fun ⟨id,hid⟩=>h.bel.noTB (h.rng id b hid).1.2 hb
def getF (s:AS) (i:Nat):AV:=match look s.F i with|some x=>x|none=>.dead
def setF (s:AS) (i:Nat) (x:AV):AS:=⟨(i,x)::drop_ s.F i,s.H⟩
theorem look_setF (s:AS) (i j:Nat) (x:AV):look (setF s i x).F j=if i=j then some x else look s.F j:=by
 simp only [setF,look_cons,look_drop]
 by_cases h:i=j<;>simp [h]
section
variable {S0:Zone} {w0 w w':World} {n:Nat} {O:List Nat} {s:AS} {a:Act} {φ:Nat->Option Nat}
theorem SimO.get (h:SimO S0 w0 n O s a w φ) (i:Nat):Den (infoOf s.H φ) (Free S0 w φ O) w (a.tmps.getD i undef) (getF s i):=by
 unfold getF
 cases hl:look s.F i with
 | none=>exact .dead _
 | some x=>exact h.slots i x hl
theorem put_getD (a:Act) (d i:Nat) (v:Value) (hd:d<a.tmps.size):(a.put (some d) v).tmps.getD i undef=if d=i then v else a.tmps.getD i undef:=by
 simp only [Act.put]
 by_cases h:d=i
 ·subst h;simp [hd]
 ·simp [h,Array.getElem?_setIfInBounds_ne h]
theorem tmps_put (a:Act) (d:Option Nat) (v:Value):(a.put d v).tmps.size=a.tmps.size:=by cases d<;>simp [Act.put]
theorem defers_put (a:Act) (d:Option Nat) (v:Value):(a.put d v).defers=a.defers:=by cases d<;>simp [Act.put]
theorem SimO.put (h:SimO S0 w0 n O s a w φ) {d:Nat} (hd:d<n) {v:Value} {x:AV} (hx:Den (infoOf s.H φ) (Free S0 w φ O) w v x):SimO S0 w0 n O (setF s d x) (a.put (some d) v) w φ where
 tsz:=(tmps_put ..).trans h.tsz
 dfr:=(defers_put ..).trans h.dfr
 bel:=h.bel
 slots:=fun i av hi=>by
  rw [put_getD a d i v (by rw [h.tsz];exact hd)]
  rw [look_setF] at hi
  by_cases e:d=i
  ·rw [if_pos e] at hi ⊢
   injection hi with hi
   subst hi;exact hx
  ·rw [if_neg e] at hi ⊢
   exact h.slots i av hi
 rows:=h.rows
 only:=h.only
 inj:=h.inj
 rng:=h.rng
 apart:=h.apart
 new:=h.new
theorem SimO.grow (h:SimO S0 w0 n O s a w φ) (hb:Below w.heap.size w w'):SimO S0 w0 n O s a w' φ where
 tsz:=h.tsz
 dfr:=h.dfr
 bel:=h.bel.thenCall hb
 slots:=fun i av hi=>(h.slots i av hi).mono (fun _ _ h=>h) (fun b hS=>⟨⟨Nat.lt_of_lt_of_le hS.1 hb.size,hS.2⟩,hb.block b hS.1⟩) (fun id e m g hi=>by
  have hg:φ id=some g:=by
   unfold infoOf at hi
   cases hl:look s.H id with
   | none=>rw [hl] at hi;cases hi
   | some r=>rw [hl] at hi;simp at hi;exact hi.2.2
  unfold cellsLen;rw [hb.block g (h.rng id g hg).2])
 rows:=fun id r hr=>by
  have hrow:=h.rows id r hr
  unfold RowDen at hrow ⊢
  cases hφ:φ id with
  | none=>rw [hφ] at hrow;exact hrow
  | some g =>
   rw [hφ] at hrow
   obtain ⟨cur,te,fr,hg,hf,hl,hfu,hc⟩:=hrow
   refine ⟨cur,te,fr,(hb.block g (h.rng id g hφ).2).trans hg,hf,hl,hfu,fun j u x hu hx=>?_⟩
   have hcell:=hc j u x hu hx
   have hS:∀b,Free S0 w φ O b->Free S0 w' φ O b∧w'.heap[b]?=w.heap[b]?:=fun b hS=>⟨⟨Nat.lt_of_lt_of_le hS.1 hb.size,hS.2⟩,hb.block b hS.1⟩
   unfold CellDen at hcell ⊢
   cases hp:r.pure with
   | true=>rw [hp] at hcell;exact hcell.mono hS
   | false =>
    rw [hp] at hcell
    exact hcell.mono (fun _ _ h=>h) hS (fun id e m g hi=>by
     have hg:φ id=some g:=by
      unfold infoOf at hi
      cases hl:look s.H id with
      | none=>rw [hl] at hi;cases hi
      | some r=>rw [hl] at hi;simp at hi;exact hi.2.2
     unfold cellsLen;rw [hb.block g (h.rng id g hg).2])
 only:=h.only
 inj:=h.inj
 rng:=fun id g hg=>⟨(h.rng id g hg).1,Nat.lt_of_lt_of_le (h.rng id g hg).2 hb.size⟩
 apart:=h.apart
 new:=h.new
end
end Go.Proofs.YtejpabdmiagnnaaGreatDoor
namespace Go.Proofs.YtejpabdmiagnnaaGreatDoor
open Go.RowKit
def kill0 (id:Nat):AV->AV
 | .ref i=>match Nat.beq i id with|true=>.dead|false=>.ref i
 | .pre i n=>match Nat.beq i id with|true=>.dead|false=>.pre i n
 | .win i o n=>match Nat.beq i id with|true=>.dead|false=>.win i o n
 | .addr i o=>match Nat.beq i id with|true=>.dead|false=>.addr i o
 | .agg _=>.dead
 | .tup _=>.dead
 | x=>x
def kill1 (id:Nat):AV->AV
 | .agg cs=>.agg (cs.map (kill0 id))
 | x=>kill0 id x
def kill2 (id:Nat):AV->AV
 | .tup cs=>.tup (cs.map (kill1 id))
 | x=>kill1 id x
def killRow (id:Nat) (r:Row):Row:=match r.pure with|true=>r|false=>⟨r.e,false,r.full,r.cells.map (kill0 id)⟩
def retire (id:Nat) (s:AS):AS:=⟨mapv (kill2 id) s.F,mapv (killRow id) (drop_ s.H id)⟩
def thaw0 (id:Nat) (r:Row):AV->AV
 | .ref i=>match Nat.beq i id with|true=>.sl r.e r.cells|false=>.ref i
 | .pre i n=>match Nat.beq i id with|true=>.sl r.e (r.cells.take n)|false=>.pre i n
 | .win i o n=>match Nat.beq i id with|true=>.sl r.e ((r.cells.drop o).take n)|false=>.win i o n
 | .addr i o=>match Nat.beq i id with|true=>.ptr r.cells o|false=>.addr i o
 | .agg _=>.dead
 | .tup _=>.dead
 | x=>x
def thaw1 (id:Nat) (r:Row):AV->AV
 | .agg cs=>.agg (cs.map (thaw0 id r))
 | x=>thaw0 id r x
def thaw2 (id:Nat) (r:Row):AV->AV
 | .tup cs=>.tup (cs.map (thaw1 id r))
 | x=>thaw1 id r x
def thawRow (id:Nat) (r:Row) (q:Row):Row:=match q.pure with|true=>q|false=>⟨q.e,false,q.full,q.cells.map (thaw0 id r)⟩
def thaw (id:Nat) (r:Row) (s:AS):AS:=⟨mapv (thaw2 id r) s.F,mapv (thawRow id r) (drop_ s.H id)⟩
section
variable {I I':Info} {S S':Nat->Prop} {w w':World}
structure LeafOK (I I':Info) (S S':Nat->Prop) (w:World) (f:AV->AV):Prop where
 leaf:∀v x,Den I S w v x->(∀cs,x≠ .agg cs)->(∀cs,x≠ .tup cs)->Den I' S' w v (f x)
 agg:∀cs,f (.agg cs)= .dead
 tup:∀cs,f (.tup cs)= .dead
theorem LeafOK.all {f:AV->AV} (h:LeafOK I I' S S' w f) {v:Value} {x:AV} (hx:Den I S w v x):Den I' S' w v (f x):=by
 cases x with
 | agg cs=>rw [h.agg];exact .dead _
 | tup cs=>rw [h.tup];exact .dead _
 | _=>exact h.leaf v _ hx (by intro cs e;cases e) (by intro cs e;cases e)
theorem den_agg {v:Value} {cs:List AV} (h:Den I S w v (.agg cs)):∃vs:List Value,v= .agg vs.toArray∧vs.length=cs.length∧ ∀(j:Nat) v c,vs[j]?=some v->cs[j]?=some c->Den I S w v c:=by
 cases h with
 | rep h=>cases h with|agg vs _ hl h=>exact ⟨vs,rfl,hl,fun j v c hv hc=>.rep (h j v c hv hc)⟩
 | agg vs _ hl h=>exact ⟨vs,rfl,hl,h⟩
theorem den_tup {v:Value} {cs:List AV} (h:Den I S w v (.tup cs)):∃vs:List Value,v= .tuple vs.toArray∧vs.length=cs.length∧ ∀(j:Nat) v c,vs[j]?=some v->cs[j]?=some c->Den I S w v c:=by
 cases h with
 | rep h=>cases h with|tup vs _ hl h=>exact ⟨vs,rfl,hl,fun j v c hv hc=>.rep (h j v c hv hc)⟩
 | tup vs _ hl h=>exact ⟨vs,rfl,hl,h⟩
theorem LeafOK.one {f:AV->AV} (h:LeafOK I I' S S' w f) {v:Value} {x:AV} (hx:Den I S w v x) {g:AV->AV} (hg:∀cs,g (.agg cs)= .agg (cs.map f)) (hg':∀y,(∀cs,y≠ .agg cs)->g y=f y):Den I' S' w v (g x):=by
 by_cases hc:∃cs,x= .agg cs
 ·obtain ⟨cs,rfl⟩:=hc
  obtain ⟨vs,rfl,hl,hd⟩:=den_agg hx
  rw [hg]
  refine .agg vs _ (by simpa using hl) fun j v c hv hc=>?_
  rw [List.getElem?_map] at hc
  cases hj:cs[j]? with
  | none=>rw [hj] at hc;cases hc
  | some y=>rw [hj] at hc;injection hc with hc;subst hc;exact h.all (hd j v y hv hj)
 ·rw [hg' x fun cs e=>hc ⟨cs,e⟩]
  exact h.all hx
theorem LeafOK.two {f:AV->AV} (h:LeafOK I I' S S' w f) {v:Value} {x:AV} (hx:Den I S w v x) {g k:AV->AV} (hg:∀cs,g (.agg cs)= .agg (cs.map f)) (hg':∀y,(∀cs,y≠ .agg cs)->g y=f y)
  (hk:∀cs,k (.tup cs)= .tup (cs.map g)) (hk':∀y,(∀cs,y≠ .tup cs)->k y=g y):Den I' S' w v (k x):=by
 by_cases hc:∃cs,x= .tup cs
 ·obtain ⟨cs,rfl⟩:=hc
  obtain ⟨vs,rfl,hl,hd⟩:=den_tup hx
  rw [hk]
  refine .tup vs _ (by simpa using hl) fun j v c hv hc=>?_
  rw [List.getElem?_map] at hc
  cases hj:cs[j]? with
  | none=>rw [hj] at hc;cases hc
  | some y=>rw [hj] at hc;injection hc with hc;subst hc;exact h.one (hd j v y hv hj) hg hg'
 ·rw [hk' x fun cs e=>hc ⟨cs,e⟩]
  exact h.one hx hg hg'
theorem kill1_other (id:Nat) (y:AV) (h:∀cs,y≠ .agg cs):kill1 id y=kill0 id y:=by
 cases y with
 | agg cs=>exact absurd rfl (h cs)
 | _=>rfl
theorem kill2_other (id:Nat) (y:AV) (h:∀cs,y≠ .tup cs):kill2 id y=kill1 id y:=by
 cases y with
 | tup cs=>exact absurd rfl (h cs)
 | _=>rfl
theorem thaw1_other (id:Nat) (r:Row) (y:AV) (h:∀cs,y≠ .agg cs):thaw1 id r y=thaw0 id r y:=by
 cases y with
 | agg cs=>exact absurd rfl (h cs)
 | _=>rfl
theorem thaw2_other (id:Nat) (r:Row) (y:AV) (h:∀cs,y≠ .tup cs):thaw2 id r y=thaw1 id r y:=by
 cases y with
 | tup cs=>exact absurd rfl (h cs)
 | _=>rfl
theorem kill0_ok (id:Nat) (hI:∀i x,i≠id->I i=some x->I' i=some x) (hS:∀b,S b->S' b):LeafOK I I' S S' w (kill0 id) where
 agg:=fun _=>rfl
 tup:=fun _=>rfl
 leaf:=fun v x hx h1 h2=>by
  have hS2:∀b,S b->S' b∧w.heap[b]?=w.heap[b]?:=fun b h=>⟨hS b h,rfl⟩
  cases hx with
  | rep h=>cases h with
   | val v=>exact .rep (.val v)
   | nil=>exact .rep .nil
   | agg vs cs _ _=>exact absurd rfl (h1 cs)
   | tup vs cs _ _=>exact absurd rfl (h2 cs)
   | arr vs cs hl h=>exact .rep ((Rep.arr vs cs hl h).mono hS2)
   | sl A n c e us row hl hn hc hm ha h=>exact .rep ((Rep.sl A n c e us row hl hn hc hm ha h).mono hS2)
   | ptr ad us row off hl hs ha h=>exact .rep ((Rep.ptr ad us row off hl hs ha h).mono hS2)
   | clo f vs cs hl h=>exact .rep ((Rep.clo f vs cs hl h).mono hS2)
  | agg vs cs _ _=>exact absurd rfl (h1 cs)
  | tup vs cs _ _=>exact absurd rfl (h2 cs)
  | ref i e m g l c hi hm hc hx hs =>
   rcases beq_cases i id with ⟨h,e⟩|⟨h,e⟩<;>simp only [kill0,h]
   ·exact .dead _
   ·exact .ref i _ m g l c (hI _ _ e hi) hm hc hx hs
  | refnil i e hi =>
   rcases beq_cases i id with ⟨h,e⟩|⟨h,e⟩<;>simp only [kill0,h]
   ·exact .dead _
   ·exact .refnil i _ (hI _ _ e hi)
  | pre i n e m g l c hi hn hm hc hx hs =>
   rcases beq_cases i id with ⟨h,e⟩|⟨h,e⟩<;>simp only [kill0,h]
   ·exact .dead _
   ·exact .pre i n _ m g l c (hI _ _ e hi) hn hm hc hx hs
  | prenil i e hi =>
   rcases beq_cases i id with ⟨h,e⟩|⟨h,e⟩<;>simp only [kill0,h]
   ·exact .dead _
   ·exact .prenil i _ (hI _ _ e hi)
  | win i off n e m l c g A hi hn hm hc hx ha =>
   rcases beq_cases i id with ⟨h,e⟩|⟨h,e⟩<;>simp only [kill0,h]
   ·exact .dead _
   ·exact .win i off n _ m l c g A (hI _ _ e hi) hn hm hc hx ha
  | addr i off e m g hi =>
   rcases beq_cases i id with ⟨h,e⟩|⟨h,e⟩<;>simp only [kill0,h]
   ·exact .dead _
   ·exact .addr i off _ m g (hI _ _ e hi)
  | dead v=>exact .dead _
theorem Den.kill (id:Nat) (hI:∀i x,i≠id->I i=some x->I' i=some x) (hS:∀b,S b->S' b) {v:Value} {x:AV} (h:Den I S w v x):Den I' S' w v (kill2 id x) :=
 (kill0_ok id hI hS).two h (fun _=>rfl) (kill1_other id) (fun _=>rfl) (kill2_other id)
theorem sl_of_row {r:Row} {g l c:Nat} {cur:Array Value} {te:TypeId} {fr:Nat×Nat} (hg:w.heap[g]?=some (.cells cur te fr)) (hS:S g) (cells:List AV) (off:Nat) (hl:off+cells.length≤cur.size)
  (hn:cells.length=r.e*l) (hc:l≤c) (hm:c≤maxLen) (A:Option Addr) (hA:0<cells.length->A=some ⟨g,off,none⟩) (h:∀(j:Nat) u x,cur[off+j]?=some u->cells[j]?=some x->Rep S w u x):Rep S w (.slice A l c) (.sl r.e cells):=by
 refine .sl A l c r.e ((cur.toList.drop off).take cells.length) cells (by have:cur.toList.length=cur.size:=rfl;rw [List.length_take,List.length_drop];omega) hn hc hm (fun h0=>⟨_,hA h0,hS,fun j u hu=>?_⟩) (fun j u x hu hx=>?_)
 ·have e:(⟨g,off,none⟩:Addr).add j=⟨g,off+j,none⟩:=by unfold Addr.add;split<;>simp_all
  rw [e,cell_of_row w g _ cur te fr hg]
  rw [List.getElem?_take] at hu
  split at hu
  ·rw [List.getElem?_drop] at hu;simpa using hu
  ·cases hu
 ·refine h j u x ?_ hx
  rw [List.getElem?_take] at hu
  split at hu
  ·rw [List.getElem?_drop] at hu;simpa using hu
  ·cases hu
theorem ptr_of_row {g off:Nat} {cur:Array Value} {te:TypeId} {fr:Nat×Nat} (hg:w.heap[g]?=some (.cells cur te fr)) (hS:S g) (cells:List AV) (hl:cells.length≤cur.size)
  (h:∀(j:Nat) u x,cur[j]?=some u->cells[j]?=some x->Rep S w u x):Rep S w (.pointer (some ⟨g,off,none⟩)) (.ptr cells off):=by
 have e:∀j,(⟨g,0,none⟩:Addr).add j=⟨g,j,none⟩:=addr0_add g
 have:=Rep.ptr (S:=S) (w:=w) ⟨g,0,none⟩ (cur.toList.take cells.length) cells off (by have:cur.toList.length=cur.size:=rfl;rw [List.length_take];omega) hS (fun j u hu=>?_) (fun j u x hu hx=>?_)
 ·rw [e] at this;exact this
 ·rw [e,cell_of_row w g _ cur te fr hg]
  rw [List.getElem?_take] at hu
  split at hu
  ·simpa using hu
  ·cases hu
 ·refine h j u x ?_ hx
  rw [List.getElem?_take] at hu
  split at hu
  ·simpa using hu
  ·cases hu
end
def erase (φ:Nat->Option Nat) (id:Nat):Nat->Option Nat:=fun i=>if i=id then none else φ i
def bind_ (φ:Nat->Option Nat) (id g:Nat):Nat->Option Nat:=fun i=>if i=id then some g else φ i
section
variable {S0:Zone} {w0 w w':World} {n:Nat} {O:List Nat} {s:AS} {a:Act} {φ:Nat->Option Nat}
theorem info_some {H:List (Nat×Row)} {id e m:Nat} {b:Option Nat} (h:infoOf H φ id=some (e,m,b)):∃r,look H id=some r∧r.e=e∧r.cells.length=m∧φ id=b:=by
 unfold infoOf at h
 cases hl:look H id with
 | none=>rw [hl] at h;cases h
 | some r=>rw [hl] at h;simp at h;exact ⟨r,rfl,h⟩
theorem info_of {H:List (Nat×Row)} {id:Nat} {r:Row} (h:look H id=some r):infoOf H φ id=some (r.e,r.cells.length,φ id):=by
 unfold infoOf;rw [h];rfl
theorem killRow_len (id:Nat) (r:Row):(killRow id r).e=r.e∧(killRow id r).cells.length=r.cells.length∧(killRow id r).pure=r.pure∧(killRow id r).full=r.full:=by
 unfold killRow
 cases h:r.pure<;>simp [h]
theorem thawRow_len (id:Nat) (r q:Row):(thawRow id r q).e=q.e∧(thawRow id r q).cells.length=q.cells.length∧(thawRow id r q).pure=q.pure∧(thawRow id r q).full=q.full:=by
 unfold thawRow
 cases h:q.pure<;>simp [h]
theorem info_retire (id i:Nat) (x:Nat×Nat×Option Nat) (hne:i≠id) (h:infoOf s.H φ i=some x):infoOf (retire id s).H (erase φ id) i=some x:=by
 obtain ⟨e,m,b⟩:=x
 obtain ⟨r,hl,he,hm,hb⟩:=info_some h
 have:look (retire id s).H i=some (killRow id r):=by
  unfold retire;rw [look_mapv,look_drop,if_neg (Ne.symm hne),hl];rfl
 rw [info_of this,(killRow_len id r).1,(killRow_len id r).2.1,he,hm]
 unfold erase;rw [if_neg hne,hb]
theorem info_thaw (id i:Nat) (q:Row) (x:Nat×Nat×Option Nat) (hne:i≠id) (h:infoOf s.H φ i=some x):infoOf (thaw id q s).H (erase φ id) i=some x:=by
 obtain ⟨e,m,b⟩:=x
 obtain ⟨r,hl,he,hm,hb⟩:=info_some h
 have:look (thaw id q s).H i=some (thawRow id q r):=by
  unfold thaw;rw [look_mapv,look_drop,if_neg (Ne.symm hne),hl];rfl
 rw [info_of this,(thawRow_len id q r).1,(thawRow_len id q r).2.1,he,hm]
 unfold erase;rw [if_neg hne,hb]
theorem SimO.retire_ (h:SimO S0 w0 n O s a w φ) (id:Nat) (O':List Nat) (hO:O'=match φ id with|some g=>g::O|none=>O):SimO S0 w0 n O' (retire id s) a w (erase φ id):=by
 have hF:∀b,Free S0 w φ O b->Free S0 w (erase φ id) O' b:=by
  intro b ⟨h1,h2,h3,h4⟩
  refine ⟨h1,?_,fun i hi=>?_,h4⟩
  ·rw [hO]
   cases hφ:φ id with
   | none=>exact h2
   | some g =>
    simp only [List.mem_cons,not_or]
    exact ⟨fun e=>h3 id (by rw [hφ,e]),h2⟩
  ·unfold erase at hi
   split at hi
   ·cases hi
   ·exact h3 i hi
 refine ⟨h.tsz,h.dfr,h.bel,fun i av hi=>?_,fun i r hr=>?_,fun i hi=>?_,fun i j g hi hj=>?_,fun i g hi=>?_,fun i g hi=>?_,h.new⟩
 ·unfold retire at hi
  rw [look_mapv] at hi
  cases hl:look s.F i with
  | none=>rw [hl] at hi;cases hi
  | some x =>
   rw [hl] at hi;injection hi with hi;subst hi
   exact (h.slots i x hl).kill id (info_retire id) hF
 ·have hr':=hr
  unfold retire at hr'
  rw [look_mapv,look_drop] at hr'
  by_cases hne:id=i
  ·rw [if_pos hne] at hr';cases hr'
  ·rw [if_neg hne] at hr'
   cases hl:look s.H i with
   | none=>rw [hl] at hr';cases hr'
   | some q =>
    rw [hl] at hr';injection hr' with hr';subst hr'
    have hq:=h.rows i q hl
    have hφi:erase φ id i=φ i:=by unfold erase;rw [if_neg (Ne.symm hne)]
    rw [hφi]
    unfold RowDen at hq ⊢
    cases hb:φ i with
    | none =>
     rw [hb] at hq
     have:=(killRow_len id q).2.1
     simp only at hq ⊢
     rw [hq] at this;exact List.length_eq_zero_iff.1 this
    | some g =>
     rw [hb] at hq
     obtain ⟨cur,te,fr,hg,hf,hlen,hfu,hc⟩:=hq
     refine ⟨cur,te,fr,hg,hf,by rw [(killRow_len id q).2.1];exact hlen,by rw [(killRow_len id q).2.1,(killRow_len id q).2.2.2];exact hfu,fun j u x hu hx=>?_⟩
     rw [(killRow_len id q).2.2.1]
     unfold CellDen
     cases hp:q.pure with
     | true =>
      have:killRow id q=q:=by unfold killRow;rw [hp]
      rw [this] at hx
      have:=hc j u x hu hx
      unfold CellDen at this;rw [hp] at this
      exact this.mono fun b hb=>⟨hF b hb,rfl⟩
     | false =>
      have:(killRow id q).cells=q.cells.map (kill0 id):=by unfold killRow;rw [hp]
      rw [this,List.getElem?_map] at hx
      cases hj:q.cells[j]? with
      | none=>rw [hj] at hx;cases hx
      | some y =>
       rw [hj] at hx;injection hx with hx;subst hx
       have:=hc j u y hu hj
       unfold CellDen at this;rw [hp] at this
       exact (kill0_ok id (info_retire id) hF).all this
 ·unfold retire at hi
  rw [look_mapv,look_drop] at hi
  unfold erase
  by_cases hne:id=i
  ·rw [if_pos hne.symm]
  ·rw [if_neg hne] at hi
   rw [if_neg (Ne.symm hne)]
   refine h.only i ?_
   cases hl:look s.H i with
   | none=>rfl
   | some r=>rw [hl] at hi;cases hi
 ·unfold erase at hi hj
  split at hi
  ·cases hi
  ·split at hj
   ·cases hj
   ·exact h.inj i j g hi hj
 ·unfold erase at hi
  split at hi
  ·cases hi
  ·exact h.rng i g hi
 ·unfold erase at hi
  split at hi
  ·cases hi
  ·rename_i hne
   rw [hO]
   cases hφ:φ id with
   | none=>exact h.apart i g hi
   | some g' =>
    simp only [List.mem_cons,not_or]
    exact ⟨fun e=>hne (h.inj i id g hi (by rw [hφ,e])),h.apart i g hi⟩
theorem SimO.touch (h:SimO S0 w0 n O s a w φ) (hO:∀g∈O,w0.heap.size≤g∨S0.X g) (hos:w'.os=w.os) (htape:w'.tape=w.tape) (hout:w'.output=w.output) (hsz:w.heap.size≤w'.heap.size) (hb:∀b,b<w.heap.size->b ∉ O->w'.heap[b]?=w.heap[b]?):SimO S0 w0 n O s a w' φ:=by
 have hF:∀b,Free S0 w φ O b->Free S0 w' φ O b∧w'.heap[b]?=w.heap[b]?:=fun b h=>⟨⟨by have:=h.1;omega,h.2⟩,hb b h.1 h.2.1⟩
 have hL:∀id e m g,infoOf s.H φ id=some (e,m,some g)->cellsLen w' g=cellsLen w g:=by
  intro id e m g hi
  obtain ⟨r,-,-,-,hφ⟩:=info_some hi
  unfold cellsLen;rw [hb g (h.rng id g hφ).2 (h.apart id g hφ)]
 refine ⟨h.tsz,h.dfr,⟨hos.trans h.bel.os,htape.trans h.bel.tape,hout.trans h.bel.output,Nat.le_trans h.bel.size hsz,fun k hk hx=>?_,h.bel.g0,h.bel.gx⟩,fun i av hi=>(h.slots i av hi).mono (fun _ _ h=>h) hF hL,fun id r hr=>?_,h.only,h.inj,fun id g hg=>⟨(h.rng id g hg).1,Nat.lt_of_lt_of_le (h.rng id g hg).2 hsz⟩,h.apart,h.new⟩
 ·rw [hb k (by have:=h.bel.size;omega) (fun hm=>by rcases hO k hm with h|h;omega;exact hx h)]
  exact h.bel.block k hk hx
 ·have hrow:=h.rows id r hr
  unfold RowDen at hrow ⊢
  cases hφ:φ id with
  | none=>rw [hφ] at hrow;exact hrow
  | some g =>
   rw [hφ] at hrow
   obtain ⟨cur,te,fr,hg,hf,hl,hfu,hc⟩:=hrow
   refine ⟨cur,te,fr,(hb g (h.rng id g hφ).2 (h.apart id g hφ)).trans hg,hf,hl,hfu,fun j u x hu hx=>?_⟩
   have hcell:=hc j u x hu hx
   unfold CellDen at hcell ⊢
   cases hp:r.pure with
   | true=>rw [hp] at hcell;exact hcell.mono hF
   | false=>rw [hp] at hcell;exact hcell.mono (fun _ _ h=>h) hF hL
theorem SimO.await (h:SimO S0 w0 n O s a w φ) (g:Nat) (hg:w.heap.size≤g):SimO S0 w0 n (g::O) s a w φ:=by
 have hF:∀b,Free S0 w φ O b->Free S0 w φ (g::O) b∧w.heap[b]?=w.heap[b]?:=fun b h=>⟨⟨h.1,by simp only [List.mem_cons,not_or];exact ⟨by have:=h.1;omega,h.2.1⟩,h.2.2⟩,rfl⟩
 have hL:∀id e m g,infoOf s.H φ id=some (e,m,some g)->cellsLen w g=cellsLen w g:=fun _ _ _ _ _=>rfl
 refine ⟨h.tsz,h.dfr,h.bel,fun i av hi=>(h.slots i av hi).mono (fun _ _ h=>h) hF hL,fun id r hr=>?_,h.only,h.inj,h.rng,fun id g' hg'=>?_,h.new⟩
 ·have hrow:=h.rows id r hr
  unfold RowDen at hrow ⊢
  cases hφ:φ id with
  | none=>rw [hφ] at hrow;exact hrow
  | some g =>
   rw [hφ] at hrow
   obtain ⟨cur,te,fr,hg,hf,hl,hfu,hc⟩:=hrow
   refine ⟨cur,te,fr,hg,hf,hl,hfu,fun j u x hu hx=>?_⟩
   have hcell:=hc j u x hu hx
   unfold CellDen at hcell ⊢
   cases hp:r.pure with
   | true=>rw [hp] at hcell;exact hcell.mono hF
   | false=>rw [hp] at hcell;exact hcell.mono (fun _ _ h=>h) hF hL
 ·simp only [List.mem_cons,not_or]
  exact ⟨by have:=(h.rng id g' hg').2;omega,h.apart id g' hg'⟩
theorem free_bind {id g:Nat} (hid:φ id=none) (b:Nat):Free S0 w φ (g::O) b↔Free S0 w (bind_ φ id g) O b:=by
 unfold Free bind_
 constructor
 ·rintro ⟨h1,h2,h3,h4⟩
  simp only [List.mem_cons,not_or] at h2
  refine ⟨h1,h2.2,fun i hi=>?_,h4⟩
  split at hi
  ·injection hi with hi;exact h2.1 hi.symm
  ·exact h3 i hi
 ·rintro ⟨h1,h2,h3,h4⟩
  refine ⟨h1,?_,fun i hi=>?_,h4⟩
  ·simp only [List.mem_cons,not_or]
   exact ⟨fun e=>h3 id (by rw [if_pos rfl,e]),h2⟩
  ·by_cases e:i=id
   ·subst e;rw [hid] at hi;cases hi
   ·exact h3 i (by rw [if_neg e];exact hi)
theorem SimO.adopt {g id:Nat} {r:Row} (h:SimO S0 w0 n (g::O) s a w φ) (hg0:Mine S0 w0 id g) (hg1:g<w.heap.size) (hgO:g ∉ O) (hid:look s.H id=none)
  (hr:RowDen (infoOf s.H φ) (Free S0 w φ (g::O)) w (some g) r):SimO S0 w0 n O ⟨s.F,(id,r)::s.H⟩ a w (bind_ φ id g):=by
 have hφ:=h.only id hid
 have hF:∀b,Free S0 w φ (g::O) b->Free S0 w (bind_ φ id g) O b∧w.heap[b]?=w.heap[b]?:=fun b hb=>⟨(free_bind hφ b).1 hb,rfl⟩
 have hI:∀i x,infoOf s.H φ i=some x->infoOf ((id,r)::s.H) (bind_ φ id g) i=some x:=by
  intro i x hi
  obtain ⟨e,m,b⟩:=x
  obtain ⟨q,hl,he,hm,hb⟩:=info_some hi
  have hne:id≠i:=fun e=>by subst e;rw [hid] at hl;cases hl
  rw [info_of (r:=q) (by rw [look_cons,if_neg hne,hl])]
  unfold bind_;rw [if_neg (Ne.symm hne),he,hm,hb]
 have hL:∀id e m g,infoOf s.H φ id=some (e,m,some g)->cellsLen w g=cellsLen w g:=fun _ _ _ _ _=>rfl
 have hrow:∀b q,RowDen (infoOf s.H φ) (Free S0 w φ (g::O)) w b q->RowDen (infoOf ((id,r)::s.H) (bind_ φ id g)) (Free S0 w (bind_ φ id g) O) w b q:=by
  intro b q hq
  unfold RowDen at hq ⊢
  cases b with
  | none=>exact hq
  | some g' =>
   obtain ⟨cur,te,fr,hg,hf,hl,hfu,hc⟩:=hq
   refine ⟨cur,te,fr,hg,hf,hl,hfu,fun j u x hu hx=>?_⟩
   have hcell:=hc j u x hu hx
   unfold CellDen at hcell ⊢
   cases hp:q.pure with
   | true=>rw [hp] at hcell;exact hcell.mono hF
   | false=>rw [hp] at hcell;exact hcell.mono hI hF hL
 refine ⟨h.tsz,h.dfr,h.bel,fun i av hi=>(h.slots i av hi).mono hI hF hL,fun i q hq=>?_,fun i hi=>?_,fun i j g' hi hj=>?_,fun i g' hi=>?_,fun i g' hi=>?_,h.new⟩
 ·rw [look_cons] at hq
  by_cases e:id=i
  ·rw [if_pos e] at hq;injection hq with hq;subst hq;subst e
   have:bind_ φ id g id=some g:=by unfold bind_;rw [if_pos rfl]
   rw [this];exact hrow _ _ hr
  ·rw [if_neg e] at hq
   have:bind_ φ id g i=φ i:=by unfold bind_;rw [if_neg (Ne.symm e)]
   rw [this];exact hrow _ _ (h.rows i q hq)
 ·rw [look_cons] at hi
  by_cases e:id=i
  ·rw [if_pos e] at hi;cases hi
  ·rw [if_neg e] at hi
   unfold bind_;rw [if_neg (Ne.symm e)];exact h.only i hi
 ·have hne:∀i,φ i=some g'->g'≠g:=fun i hi e=>h.apart i g' hi (by rw [e];simp)
  unfold bind_ at hi hj
  split at hi<;>split at hj
  ·omega
  ·injection hi with hi;exact absurd hi.symm (hne j hj)
  ·injection hj with hj;exact absurd hj.symm (hne i hi)
  ·exact h.inj i j g' hi hj
 ·unfold bind_ at hi
  split at hi
  ·rename_i e;injection hi with hi;subst hi;exact ⟨e ▸ hg0,hg1⟩
  ·exact h.rng i g' hi
 ·unfold bind_ at hi
  split at hi
  ·injection hi with hi;subst hi;exact hgO
  ·exact fun hm=>h.apart i g' hi (by simp [hm])
theorem SimO.adopt_nil (h:SimO S0 w0 n O s a w φ) {id:Nat} {r:Row} (hid:look s.H id=none) (hr:r.cells= []):SimO S0 w0 n O ⟨s.F,(id,r)::s.H⟩ a w φ:=by
 have hφ:=h.only id hid
 have hI:∀i x,infoOf s.H φ i=some x->infoOf ((id,r)::s.H) φ i=some x:=by
  intro i x hi
  obtain ⟨e,m,b⟩:=x
  obtain ⟨q,hl,he,hm,hb⟩:=info_some hi
  have hne:id≠i:=fun e=>by subst e;rw [hid] at hl;cases hl
  rw [info_of (r:=q) (by rw [look_cons,if_neg hne,hl]),he,hm,hb]
 have hF:∀b,Free S0 w φ O b->Free S0 w φ O b∧w.heap[b]?=w.heap[b]?:=fun b hb=>⟨hb,rfl⟩
 have hL:∀id e m g,infoOf s.H φ id=some (e,m,some g)->cellsLen w g=cellsLen w g:=fun _ _ _ _ _=>rfl
 refine ⟨h.tsz,h.dfr,h.bel,fun i av hi=>(h.slots i av hi).mono hI hF hL,fun i q hq=>?_,fun i hi=>?_,h.inj,h.rng,h.apart,h.new⟩
 ·rw [look_cons] at hq
  by_cases e:id=i
  ·rw [if_pos e] at hq;injection hq with hq;subst hq;subst e
   rw [hφ];exact hr
  ·rw [if_neg e] at hq
   have hq':=h.rows i q hq
   unfold RowDen at hq' ⊢
   cases hb:φ i with
   | none=>rw [hb] at hq';exact hq'
   | some g' =>
    rw [hb] at hq'
    obtain ⟨cur,te,fr,hg,hf,hl,hfu,hc⟩:=hq'
    refine ⟨cur,te,fr,hg,hf,hl,hfu,fun j u x hu hx=>?_⟩
    have hcell:=hc j u x hu hx
    unfold CellDen at hcell ⊢
    cases hp:q.pure with
    | true=>rw [hp] at hcell;exact hcell
    | false=>rw [hp] at hcell;exact hcell.mono hI hF hL
 ·rw [look_cons] at hi
  by_cases e:id=i
  ·rw [if_pos e] at hi;cases hi
  ·rw [if_neg e] at hi;exact h.only i hi
theorem SimO.free_ {g:Nat} (h:SimO S0 w0 n (g::O) s a w φ):SimO S0 w0 n O s a w φ:=by
 have hF:∀b,Free S0 w φ (g::O) b->Free S0 w φ O b∧w.heap[b]?=w.heap[b]?:=fun b h=>⟨⟨h.1,fun hm=>h.2.1 (by simp [hm]),h.2.2⟩,rfl⟩
 have hL:∀id e m g,infoOf s.H φ id=some (e,m,some g)->cellsLen w g=cellsLen w g:=fun _ _ _ _ _=>rfl
 refine ⟨h.tsz,h.dfr,h.bel,fun i av hi=>(h.slots i av hi).mono (fun _ _ h=>h) hF hL,fun id r hr=>?_,h.only,h.inj,h.rng,fun id g' hg' hm=>h.apart id g' hg' (by simp [hm]),h.new⟩
 have hrow:=h.rows id r hr
 unfold RowDen at hrow ⊢
 cases hφ:φ id with
 | none=>rw [hφ] at hrow;exact hrow
 | some g =>
  rw [hφ] at hrow
  obtain ⟨cur,te,fr,hg,hf,hl,hfu,hc⟩:=hrow
  refine ⟨cur,te,fr,hg,hf,hl,hfu,fun j u x hu hx=>?_⟩
  have hcell:=hc j u x hu hx
  unfold CellDen at hcell ⊢
  cases hp:r.pure with
  | true=>rw [hp] at hcell;exact hcell.mono hF
  | false=>rw [hp] at hcell;exact hcell.mono (fun _ _ h=>h) hF hL
theorem SimO.thaw_ (h:SimO S0 w0 n O s a w φ) {id:Nat} {r:Row} (hr:look s.H id=some r) (hp:r.pure=true):SimO S0 w0 n O (thaw id r s) a w (erase φ id):=by
 have hF:∀b,Free S0 w φ O b->Free S0 w (erase φ id) O b:=by
  intro b ⟨h1,h2,h3,h4⟩
  refine ⟨h1,h2,fun i hi=>?_,h4⟩
  unfold erase at hi
  split at hi
  ·cases hi
  ·exact h3 i hi
 have hF2:∀b,Free S0 w φ O b->Free S0 w (erase φ id) O b∧w.heap[b]?=w.heap[b]?:=fun b hb=>⟨hF b hb,rfl⟩
 have hrow:=h.rows id r hr
 have hI:=info_of (φ:=φ) hr
 have ok:LeafOK (infoOf s.H φ) (infoOf (thaw id r s).H (erase φ id)) (Free S0 w φ O) (Free S0 w (erase φ id) O) w (thaw0 id r):=by
  refine ⟨fun v x hx h1 h2=>?_,fun _=>rfl,fun _=>rfl⟩
  have hgF:∀g,φ id=some g->Free S0 w (erase φ id) O g:=fun g hg=>⟨(h.rng id g hg).2,h.apart id g hg,fun i hi=>by
   unfold erase at hi
   split at hi
   ·cases hi
   ·rename_i hne;exact hne (h.inj i id g hi hg),h.new g (h.rng id g hg).1.2⟩
  have hblk:∀g,φ id=some g-> ∃cur te fr,w.heap[g]?=some (.cells cur te fr)∧r.cells.length≤cur.size∧ ∀(j:Nat) u x,cur[j]?=some u->r.cells[j]?=some x->Rep (Free S0 w (erase φ id) O) w u x:=by
   intro g hg
   have hrow':=hrow
   unfold RowDen at hrow'
   rw [hg] at hrow'
   obtain ⟨cur,te,fr,hg',hf,hl,-,hc⟩:=hrow'
   refine ⟨cur,te,fr,hg',hl,fun j u x hu hx=>?_⟩
   have:=hc j u x hu hx
   unfold CellDen at this;rw [hp] at this
   exact this.mono hF2
  have take_at:∀(l:List AV) (k j:Nat) (x:AV),(l.take k)[j]?=some x->l[j]?=some x:=by
   intro l k j x hx
   rw [List.getElem?_take] at hx
   split at hx
   ·exact hx
   ·cases hx
  cases hx with
  | rep h=>cases h with
   | val v=>exact .rep (.val v)
   | nil=>exact .rep .nil
   | agg vs cs _ _=>exact absurd rfl (h1 cs)
   | tup vs cs _ _=>exact absurd rfl (h2 cs)
   | arr vs cs hl h=>exact .rep ((Rep.arr vs cs hl h).mono hF2)
   | sl A n c e us row hl hn hc hm ha h=>exact .rep ((Rep.sl A n c e us row hl hn hc hm ha h).mono hF2)
   | ptr ad us row off hl hs ha h=>exact .rep ((Rep.ptr ad us row off hl hs ha h).mono hF2)
   | clo f vs cs hl h=>exact .rep ((Rep.clo f vs cs hl h).mono hF2)
  | agg vs cs _ _=>exact absurd rfl (h1 cs)
  | tup vs cs _ _=>exact absurd rfl (h2 cs)
  | ref i e m g l c hi hm hc hx hs =>
   rcases beq_cases i id with ⟨hb,e'⟩|⟨hb,e'⟩<;>simp only [thaw0,hb]
   ·subst e'
    rw [hI] at hi;injection hi with hi;injection hi with he hi;injection hi with hm' hg
    obtain ⟨cur,te,fr,hg',hl,hc'⟩:=hblk g hg
    exact .rep (sl_of_row (r:=r) hg' (hgF g hg) r.cells 0 (by omega) (by rw [hm',he];exact hm) hc hx _ (fun _=>rfl) (fun j u x hu hx=>hc' j u x (by simpa using hu) hx))
   ·exact .ref i _ m g l c (info_thaw id i r _ e' hi) hm hc hx hs
  | refnil i e hi =>
   rcases beq_cases i id with ⟨hb,e'⟩|⟨hb,e'⟩<;>simp only [thaw0,hb]
   ·subst e'
    rw [hI] at hi;injection hi with hi;injection hi with he hi;injection hi with hm' hg
    have h0:r.cells= []:=List.length_eq_zero_iff.1 hm'
    rw [h0]
    exact .rep (.sl none 0 0 _ [] [] rfl (by simp) (by simp) (by simp) (fun h=>by simp at h) (fun j u x hu=>by simp at hu))
   ·exact .refnil i _ (info_thaw id i r _ e' hi)
  | pre i k e m g l c hi hn hm hc hx hs =>
   rcases beq_cases i id with ⟨hb,e'⟩|⟨hb,e'⟩<;>simp only [thaw0,hb]
   ·subst e'
    rw [hI] at hi;injection hi with hi;injection hi with he hi;injection hi with hm' hg
    obtain ⟨cur,te,fr,hg',hl,hc'⟩:=hblk g hg
    exact .rep (sl_of_row (r:=r) hg' (hgF g hg) (r.cells.take k) 0 (by rw [List.length_take];omega) (by rw [List.length_take,he,←hn];omega) hc hx _ (fun _=>rfl) (fun j u x hu hx=>hc' j u x (by simpa using hu) (take_at _ _ _ _ hx)))
   ·exact .pre i k _ m g l c (info_thaw id i r _ e' hi) hn hm hc hx hs
  | prenil i e hi =>
   rcases beq_cases i id with ⟨hb,e'⟩|⟨hb,e'⟩<;>simp only [thaw0,hb]
   ·simp only [List.take_zero]
    exact .rep (.sl none 0 0 _ [] [] rfl (by simp) (by simp) (by simp) (fun h=>by simp at h) (fun j u x hu=>by simp at hu))
   ·exact .prenil i _ (info_thaw id i r _ e' hi)
  | win i off k e m l c g A hi hn hm hc hx ha =>
   rcases beq_cases i id with ⟨hb,e'⟩|⟨hb,e'⟩<;>simp only [thaw0,hb]
   ·subst e'
    rw [hI] at hi;injection hi with hi;injection hi with he hi;injection hi with hm' hg
    have hlen:((r.cells.drop off).take k).length=k:=by rw [List.length_take,List.length_drop];omega
    by_cases hk:0<k
    ·obtain ⟨b,hb',hA⟩:=ha hk
     rw [hb'] at hg
     obtain ⟨cur,te,fr,hg',hl,hc'⟩:=hblk b hg
     exact .rep (sl_of_row (r:=r) hg' (hgF b hg) ((r.cells.drop off).take k) off (by rw [hlen];omega) (by rw [hlen,he,←hn]) hc hx _ (fun _=>hA) (fun j u x hu hx=>hc' (off+j) u x hu (by have:=take_at _ _ _ _ hx;rw [List.getElem?_drop] at this;exact this)))
    ·have h0:(r.cells.drop off).take k= []:=List.length_eq_zero_iff.1 (by omega)
     rw [h0]
     exact .rep (.sl A l c r.e [] [] rfl (by rw [he];simp;omega) hc hx (fun h=>by simp at h) (fun j u x hu=>by simp at hu))
   ·exact .win i off k _ m l c g A (info_thaw id i r _ e' hi) hn hm hc hx ha
  | addr i off e m g hi =>
   rcases beq_cases i id with ⟨hb,e'⟩|⟨hb,e'⟩<;>simp only [thaw0,hb]
   ·subst e'
    rw [hI] at hi;injection hi with hi;injection hi with he hi;injection hi with hm' hg
    obtain ⟨cur,te,fr,hg',hl,hc'⟩:=hblk g hg
    exact .rep (ptr_of_row hg' (hgF g hg) r.cells hl hc')
   ·exact .addr i off _ m g (info_thaw id i r _ e' hi)
  | dead v=>exact .dead _
 refine ⟨h.tsz,h.dfr,h.bel,fun i av hi=>?_,fun i q hq=>?_,fun i hi=>?_,fun i j g hi hj=>?_,fun i g hi=>?_,fun i g hi=>?_,h.new⟩
 ·unfold thaw at hi
  rw [look_mapv] at hi
  cases hl:look s.F i with
  | none=>rw [hl] at hi;cases hi
  | some x =>
   rw [hl] at hi;injection hi with hi;subst hi
   exact ok.two (h.slots i x hl) (fun _=>rfl) (thaw1_other id r) (fun _=>rfl) (thaw2_other id r)
 ·have hr':=hq
  unfold thaw at hr'
  rw [look_mapv,look_drop] at hr'
  by_cases hne:id=i
  ·rw [if_pos hne] at hr';cases hr'
  ·rw [if_neg hne] at hr'
   cases hl:look s.H i with
   | none=>rw [hl] at hr';cases hr'
   | some p =>
    rw [hl] at hr';injection hr' with hr';subst hr'
    have hq':=h.rows i p hl
    have hφi:erase φ id i=φ i:=by unfold erase;rw [if_neg (Ne.symm hne)]
    rw [hφi]
    unfold RowDen at hq' ⊢
    cases hb:φ i with
    | none =>
     rw [hb] at hq'
     have:=(thawRow_len id r p).2.1
     simp only at hq' ⊢
     rw [hq'] at this;exact List.length_eq_zero_iff.1 this
    | some g =>
     rw [hb] at hq'
     obtain ⟨cur,te,fr,hg,hf,hlen,hfu,hc⟩:=hq'
     refine ⟨cur,te,fr,hg,hf,by rw [(thawRow_len id r p).2.1];exact hlen,by rw [(thawRow_len id r p).2.1,(thawRow_len id r p).2.2.2];exact hfu,fun j u x hu hx=>?_⟩
     rw [(thawRow_len id r p).2.2.1]
     unfold CellDen
     cases hp':p.pure with
     | true =>
      have:thawRow id r p=p:=by unfold thawRow;rw [hp']
      rw [this] at hx
      have:=hc j u x hu hx
      unfold CellDen at this;rw [hp'] at this
      exact this.mono hF2
     | false =>
      have:(thawRow id r p).cells=p.cells.map (thaw0 id r):=by unfold thawRow;rw [hp']
      rw [this,List.getElem?_map] at hx
      cases hj:p.cells[j]? with
      | none=>rw [hj] at hx;cases hx
      | some y =>
       rw [hj] at hx;injection hx with hx;subst hx
       have:=hc j u y hu hj
       unfold CellDen at this;rw [hp'] at this
       exact ok.all this
 ·unfold thaw at hi
  rw [look_mapv,look_drop] at hi
  unfold erase
  by_cases hne:id=i
  ·rw [if_pos hne.symm]
  ·rw [if_neg hne] at hi
   rw [if_neg (Ne.symm hne)]
   refine h.only i ?_
   cases hl:look s.H i with
   | none=>rfl
   | some r=>rw [hl] at hi;cases hi
 ·unfold erase at hi hj
  split at hi
  ·cases hi
  ·split at hj
   ·cases hj
   ·exact h.inj i j g hi hj
 ·unfold erase at hi
  split at hi
  ·cases hi
  ·exact h.rng i g hi
 ·unfold erase at hi
  split at hi
  ·cases hi
  ·exact h.apart i g hi
end
end Go.Proofs.YtejpabdmiagnnaaGreatDoor
namespace Go.Proofs.YtejpabdmiagnnaaGreatDoor
open Go.RowKit
def AllP:List Prop->Prop
 | []=>True
 | p::l=>p∧AllP l
structure Hint where
 av:Option AV:=none
 k:Nat:=0
 m:Nat:=0
 b:Bool:=true
 g:Bool:=true
 ln:List (Nat×Nat):=[]
 ho:List (Nat×Row):=[]
def semEval {α:Type} (P:Program):Sem α->Option α
 | .pure a=>some a
 | .program k=>semEval P (k P)
 | .mark _ k=>semEval P k
 | _=>none
theorem semEval_run {α:Type} {P:Program} (w:World):∀ {x:Sem α} {a:α},semEval P x=some a->x.run P w= .ok a w
 | .pure a,_,h=>by injection h with h;subst h;rfl
 | .program k,a,h=>by show (k P).run P w=_;exact semEval_run w h
 | .mark _ k,a,h=>by show k.run P w=_;exact semEval_run w h
 | .load ..,_,h| .store ..,_,h| .new ..,_,h| .shape ..,_,h| .freeze ..,_,h| .frozen ..,_,h| .getObj ..,_,h| .setObj ..,_,h| .choose ..,_,h| .sys ..,_,h| .halt ..,_,h=>by cases h
def constAV0:Value->AV
 | .slice none 0 0=>.nil
 | v=>.val v
def constAV:Value->AV
 | .agg cs=>.agg (cs.toList.map constAV0)
 | v=>constAV0 v
def opd (s:AS):Operand->AV
 | .tmp t=>getF s t
 | .const v=>constAV v
 | .global _=>.dead
 | .func f=>.val (.func (.func f) #[] #[])
section
variable {I:Info} {S:Nat->Prop} {w:World}
theorem rep_const0 (v:Value):Rep S w v (constAV0 v):=by
 unfold constAV0
 split
 ·exact .nil
 ·exact .val _
theorem rep_const (v:Value):Rep S w v (constAV v):=by
 unfold constAV
 split
 ·rename_i cs
  have:=Rep.agg (S:=S) (w:=w) cs.toList (cs.toList.map constAV0) (by simp) (fun j v c hv hc=>by
   rw [List.getElem?_map,hv] at hc
   injection hc with hc;subst hc;exact rep_const0 v)
  simpa using this
 ·exact rep_const0 _
end
section
variable {S0:Zone} {w0 w:World} {n:Nat} {O:List Nat} {s:AS} {a:Act} {φ:Nat->Option Nat} {P:Program}
theorem SimO.opd (h:SimO S0 w0 n O s a w φ) (x:Operand):Den (infoOf s.H φ) (Free S0 w φ O) w (a.eval x) (opd s x):=by
 cases x with
 | tmp t=>exact h.get t
 | const v=>exact .rep (rep_const v)
 | global g=>exact .dead _
 | func f=>exact .rep (.val _)
end
theorem den_val {I:Info} {S:Nat->Prop} {w:World} {v u:Value} (h:Den I S w v (.val u)):v=u:=by
 cases h with|rep h=>cases h;rfl
def PlainOK (P:Program) (s:AS) (o:Oper) (x:AV) (C:List Prop):Prop :=
 AllP C-> ∀S0 w0 n O a w φ,SimO S0 w0 n O s a w φ-> ∃v,(execOp a.eval o).run P w= .ok (.value v) w∧Den (infoOf s.H φ) (Free S0 w φ O) w v x
def fin (h:Hint) (r:AV×List Prop):AV×List Prop:=match h.av with|none=>r|some y=>(y,(r.1=y)::r.2)
theorem fin_ok {P:Program} {s:AS} {o:Oper} {h:Hint} {r:AV×List Prop} (hr:PlainOK P s o r.1 r.2):PlainOK P s o (fin h r).1 (fin h r).2:=by
 unfold fin
 split
 ·exact hr
 ·rename_i y _
  intro hC
  obtain ⟨rfl,hC⟩:=hC
  exact hr hC
def sizeT (P:Program) (t:TypeId):Option Nat:=(P.info? t).map (·.size)
def isAggT (P:Program) (t:TypeId):Bool:=match P.underlying t with|some (.struct _)|some (.array _ _)=>true|_=>false
def isArrT (P:Program) (t:TypeId):Bool:=match P.underlying t with|some (.array _ _)=>true|_=>false
def elemT (P:Program) (t:TypeId):Option TypeId:=match P.underlying t with|some (.slice e)=>some e|_=>none
section
variable {P:Program} {w:World}
theorem run_sizeOf {t:TypeId} {k:Nat} (h:sizeT P t=some k):(sizeOf t).run P w= .ok k w:=by
 unfold sizeT at h
 cases hi:P.info? t with
 | none=>rw [hi] at h;cases h
 | some i=>rw [hi] at h;injection h with h;simp [sizeOf,typeInfo,hi,h]
theorem run_isAgg {t:TypeId} (hu:∃d,P.underlying t=some d):(isAgg t).run P w= .ok (isAggT P t) w:=by
 obtain ⟨d,hd⟩:=hu
 unfold isAgg isAggT
 simp only [Sem.run_bind,run_underlying hd,Result.andThen_ok,hd]
 cases d<;>rfl
end
def evBin (P:Program) (op:BinOp) (t:TypeId) (x y:Operand) (u v:Value):Option (AV×List Prop) :=
 match op,u,v with
 | .quo,.int k a,.int k' b=>if k=k' then some (.val (.int k (k.wrap (a.tdiv b))),[b≠0]) else none
 | .rem,.int k a,.int k' b=>if k=k' then some (.val (.int k (a.tmod b)),[b≠0]) else none
 | .shl,.int k a,.int _ b=>some (.val (.int k (k.wrap (a*2^min b.toNat k.bits))),[0≤b])
 | .shr,.int k a,.int _ b=>some (.val (.int k (a.fdiv (2^min b.toNat k.bits))),[0≤b])
 | op,u,v=>match semEval P (do eqGuard op t x y u v;binOp op t u v) with|some z=>some (.val z,[])|none=>none
theorem evBin_ok {P:Program} {s:AS} {o:Oper} {op:BinOp} {t t':TypeId} {x y:Operand} {u v:Value} {r:AV×List Prop} (ho:o.op= .binOp op t x y t') (hx:opd s x= .val u) (hy:opd s y= .val v) (h:evBin P op t x y u v=some r):PlainOK P s o r.1 r.2:=by
 intro hC S0 w0 n O a w φ hs
 have ex:a.eval x=u:=den_val (hx ▸ hs.opd x)
 have ey:a.eval y=v:=den_val (hy ▸ hs.opd y)
 unfold execOp
 simp only [ho,ex,ey]
 unfold evBin at h
 split at h
 ·split at h
  ·rename_i hk
   injection h with h;subst h;subst hk
   have hb:=hC.1
   refine ⟨_,?_,.rep (.val _)⟩
   simp [eqGuard,binOp,Op.intDiv,hb]
  ·cases h
 ·split at h
  ·rename_i hk
   injection h with h;subst h;subst hk
   have hb:=hC.1
   refine ⟨_,?_,.rep (.val _)⟩
   simp [eqGuard,binOp,Op.intDiv,hb]
  ·cases h
 ·injection h with h;subst h
  have hb:¬(_:Int)<0:=Int.not_lt.2 hC.1
  refine ⟨_,?_,.rep (.val _)⟩
  simp [eqGuard,binOp,Op.shift,hb]
 ·injection h with h;subst h
  have hb:¬(_:Int)<0:=Int.not_lt.2 hC.1
  refine ⟨_,?_,.rep (.val _)⟩
  simp [eqGuard,binOp,Op.shift,hb]
 ·split at h
  ·rename_i z hz
   injection h with h;subst h
   refine ⟨z,?_,.rep (.val _)⟩
   rw [Sem.run_bind,semEval_run w hz];rfl
  ·cases h
def evUn (P:Program) (op:UnOp) (u:Value):Option (AV×List Prop):=match semEval P (Op.unary op u) with|some z=>some (.val z,[])|none=>none
theorem evUn_ok {P:Program} {s:AS} {o:Oper} {op:UnOp} {t:TypeId} {x:Operand} {u:Value} {r:AV×List Prop} (ho:o.op= .unOp op t x) (hx:opd s x= .val u) (h:evUn P op u=some r):PlainOK P s o r.1 r.2:=by
 intro hC S0 w0 n O a w φ hs
 have ex:a.eval x=u:=den_val (hx ▸ hs.opd x)
 unfold execOp
 simp only [ho,ex]
 unfold evUn at h
 split at h
 ·rename_i z hz
  injection h with h;subst h
  refine ⟨z,?_,.rep (.val _)⟩
  rw [Sem.run_bind,semEval_run w hz];rfl
 ·cases h
def view0 (s:AS):AV->Option AV
 | .ref id=>match look s.H id with|some r=>(match r.pure with|true=>some (.sl r.e r.cells)|false=>none)|none=>none
 | .pre id n=>match look s.H id with|some r=>(match r.pure with|true=>some (.sl r.e (r.cells.take n))|false=>none)|none=>none
 | .win id o n=>match look s.H id with|some r=>(match r.pure with|true=>some (.sl r.e ((r.cells.drop o).take n))|false=>none)|none=>none
 | .addr id o=>match look s.H id with|some r=>(match r.pure with|true=>some (.ptr r.cells o)|false=>none)|none=>none
 | .agg _=>none
 | .tup _=>none
 | .dead=>none
 | .own _ _=>none
 | .box _=>none
 | x=>some x
def viewL (s:AS):List AV->Option (List AV)
 | []=>some []
 | x::l=>match view0 s x,viewL s l with|some y,some m=>some (y::m)|_,_=>none
def view (s:AS):AV->Option AV
 | .agg cs=>match viewL s cs with|some l=>some (.agg l)|none=>none
 | x=>view0 s x
section
variable {S0:Zone} {w0 w:World} {n:Nat} {O:List Nat} {s:AS} {a:Act} {φ:Nat->Option Nat} {P:Program}
theorem row_pure (h:SimO S0 w0 n O s a w φ) {id:Nat} {r:Row} {g:Nat} (hr:look s.H id=some r) (hp:r.pure=true) (hg:φ id=some g) :
  ∃cur te fr,w.heap[g]?=some (.cells cur te fr)∧(∀j,j<cur.size-> ¬(fr.1≤j∧j<fr.2))∧r.cells.length≤cur.size∧ ∀(j:Nat) u x,cur[j]?=some u->r.cells[j]?=some x->Rep (Free S0 w φ O) w u x:=by
 have hrow:=h.rows id r hr
 unfold RowDen at hrow
 rw [hg] at hrow
 obtain ⟨cur,te,fr,hg',hf,hl,-,hc⟩:=hrow
 refine ⟨cur,te,fr,hg',hf,hl,fun j u x hu hx=>?_⟩
 have:=hc j u x hu hx
 unfold CellDen at this;rw [hp] at this
 exact this
theorem free_lt (b:Nat) (h:Free S0 w φ O b):b<w.heap.size∧w.heap[b]?=w.heap[b]?:=⟨h.1,rfl⟩
theorem take_get {α:Type} (l:List α) (k j:Nat) (x:α) (hx:(l.take k)[j]?=some x):l[j]?=some x:=by
 rw [List.getElem?_take] at hx
 split at hx
 ·exact hx
 ·cases hx
theorem sl_empty {S:Nat->Prop} (A:Option Addr) (l c e:Nat) (hn:0=e*l) (hc:l≤c) (hm:c≤maxLen):Rep S w (.slice A l c) (.sl e []) :=
 .sl A l c e [] [] rfl hn hc hm (fun h=>by simp at h) (fun j u x hu=>by simp at hu)
theorem view0_ok (h:SimO S0 w0 n O s a w φ) {v:Value} {x y:AV} (hx:Den (infoOf s.H φ) (Free S0 w φ O) w v x) (hv:view0 s x=some y):Rep (fun b=>b<w.heap.size) w v y:=by
 cases hx with
 | rep h =>
  have:=h.mono (free_lt (w:=w) (φ:=φ) (O:=O))
  cases h<;>simp [view0] at hv<;>subst hv<;>exact this
 | agg vs cs _ _=>simp [view0] at hv
 | tup vs cs _ _=>simp [view0] at hv
 | dead v=>simp [view0] at hv
 | ref id e m g l c hi hm hc hx hs =>
  obtain ⟨r,hr,he,hml,hφ⟩:=info_some hi
  simp only [view0,hr] at hv
  cases hp:r.pure with
  | false=>rw [hp] at hv;cases hv
  | true =>
   rw [hp] at hv;injection hv with hv;subst hv
   obtain ⟨cur,te,fr,hg,hf,hl,hc'⟩:=row_pure h hr hp hφ
   exact sl_of_row (r:=r) hg (h.rng id g hφ).2 r.cells 0 (by omega) (by rw [hml,he];exact hm) hc hx _ (fun _=>rfl) (fun j u x hu hx=>(hc' j u x (by simpa using hu) hx).mono free_lt)
 | refnil id e hi =>
  obtain ⟨r,hr,he,hml,hφ⟩:=info_some hi
  simp only [view0,hr] at hv
  cases hp:r.pure with
  | false=>rw [hp] at hv;cases hv
  | true =>
   rw [hp] at hv;injection hv with hv;subst hv
   rw [List.length_eq_zero_iff.1 hml]
   exact sl_empty _ _ _ _ (by simp) (by simp) (by simp)
 | pre id k e m g l c hi hn hm hc hx hs =>
  obtain ⟨r,hr,he,hml,hφ⟩:=info_some hi
  simp only [view0,hr] at hv
  cases hp:r.pure with
  | false=>rw [hp] at hv;cases hv
  | true =>
   rw [hp] at hv;injection hv with hv;subst hv
   obtain ⟨cur,te,fr,hg,hf,hl,hc'⟩:=row_pure h hr hp hφ
   exact sl_of_row (r:=r) hg (h.rng id g hφ).2 (r.cells.take k) 0 (by rw [List.length_take];omega) (by rw [List.length_take,he,←hn];omega) hc hx _ (fun _=>rfl) (fun j u x hu hx=>(hc' j u x (by simpa using hu) (take_get _ _ _ _ hx)).mono free_lt)
 | prenil id e hi =>
  obtain ⟨r,hr,he,hml,hφ⟩:=info_some hi
  simp only [view0,hr] at hv
  cases hp:r.pure with
  | false=>rw [hp] at hv;cases hv
  | true =>
   rw [hp] at hv;injection hv with hv;subst hv
   simp only [List.take_zero]
   exact sl_empty _ _ _ _ (by simp) (by simp) (by simp)
 | win id off k e m l c g A hi hn hm hc hx ha =>
  obtain ⟨r,hr,he,hml,hφ⟩:=info_some hi
  simp only [view0,hr] at hv
  cases hp:r.pure with
  | false=>rw [hp] at hv;cases hv
  | true =>
   rw [hp] at hv;injection hv with hv;subst hv
   have hlen:((r.cells.drop off).take k).length=k:=by rw [List.length_take,List.length_drop];omega
   by_cases hk:0<k
   ·obtain ⟨b,hb,hA⟩:=ha hk
    rw [hb] at hφ
    obtain ⟨cur,te,fr,hg,hf,hl,hc'⟩:=row_pure h hr hp hφ
    exact sl_of_row (r:=r) hg (h.rng id b hφ).2 ((r.cells.drop off).take k) off (by rw [hlen];omega) (by rw [hlen,he,←hn]) hc hx _ (fun _=>hA) (fun j u x hu hx=>(hc' (off+j) u x hu (by have:=take_get _ _ _ _ hx;rw [List.getElem?_drop] at this;exact this)).mono free_lt)
   ·rw [show (r.cells.drop off).take k= [] from List.length_eq_zero_iff.1 (by omega)]
    exact sl_empty _ _ _ _ (by rw [he];omega) hc hx
 | addr id off e m g hi =>
  obtain ⟨r,hr,he,hml,hφ⟩:=info_some hi
  simp only [view0,hr] at hv
  cases hp:r.pure with
  | false=>rw [hp] at hv;cases hv
  | true =>
   rw [hp] at hv;injection hv with hv;subst hv
   obtain ⟨cur,te,fr,hg,hf,hl,hc'⟩:=row_pure h hr hp hφ
   exact ptr_of_row hg (h.rng id g hφ).2 r.cells hl (fun j u x hu hx=>(hc' j u x hu hx).mono free_lt)
theorem viewL_ok (h:SimO S0 w0 n O s a w φ):∀(cs l:List AV) (vs:List Value),viewL s cs=some l->vs.length=cs.length->(∀(j:Nat) v c,vs[j]?=some v->cs[j]?=some c->Den (infoOf s.H φ) (Free S0 w φ O) w v c) ->
  l.length=cs.length∧ ∀(j:Nat) v c,vs[j]?=some v->l[j]?=some c->Rep (fun b=>b<w.heap.size) w v c
 | [],l,vs,hv,hl,hd=>by simp [viewL] at hv;subst hv;exact ⟨rfl,fun j v c _ hc=>by simp at hc⟩
 | x::cs,l,[],hv,hl,hd=>by simp at hl
 | x::cs,l,v0::vs,hv,hl,hd=>by
  simp only [viewL] at hv
  cases h1:view0 s x with
  | none=>rw [h1] at hv;cases hv
  | some y =>
   cases h2:viewL s cs with
   | none=>rw [h1,h2] at hv;cases hv
   | some m =>
    rw [h1,h2] at hv;injection hv with hv;subst hv
    obtain ⟨e1,e2⟩:=viewL_ok h cs m vs h2 (by simpa using hl) fun j v c hv hc=>hd (j+1) v c (by simpa using hv) (by simpa using hc)
    refine ⟨by simp [e1],fun j v c hv hc=>?_⟩
    cases j with
    | zero=>simp at hv hc;subst hv;subst hc;exact view0_ok h (hd 0 _ _ rfl rfl) h1
    | succ j=>exact e2 j v c (by simpa using hv) (by simpa using hc)
theorem view_ok (h:SimO S0 w0 n O s a w φ) {v:Value} {x y:AV} (hx:Den (infoOf s.H φ) (Free S0 w φ O) w v x) (hv:view s x=some y):Rep (fun b=>b<w.heap.size) w v y:=by
 by_cases hc:∃cs,x= .agg cs
 ·obtain ⟨cs,rfl⟩:=hc
  obtain ⟨vs,rfl,hl,hd⟩:=den_agg hx
  simp only [view] at hv
  cases h1:viewL s cs with
  | none=>rw [h1] at hv;cases hv
  | some l =>
   rw [h1] at hv;injection hv with hv;subst hv
   obtain ⟨e1,e2⟩:=viewL_ok h cs l vs h1 hl hd
   exact .agg vs l (by omega) e2
 ·have:view s x=view0 s x:=by
   cases x with
   | agg cs=>exact absurd ⟨cs,rfl⟩ hc
   | _=>rfl
  rw [this] at hv
  exact view0_ok h hx hv
end
def bytesA (bs:List UInt8):List AV:=bs.map fun c=>.val (.int .u8 (bv c))
def wordsA (l:List UInt64):List AV:=l.map fun c=>.val (.int .u64 (wv c))
def intsA (l:List Int):List AV:=l.map fun c=>.val (.int .i64 c)
theorem bytesA_len (l:List UInt8):(bytesA l).length=l.length:=by simp [bytesA]
theorem wordsA_len (l:List UInt64):(wordsA l).length=l.length:=by simp [wordsA]
theorem intsA_len (l:List Int):(intsA l).length=l.length:=by simp [intsA]
theorem rep_bytes {S:Nat->Prop} {w:World} {v:Value} {bs:List UInt8} (h:Rep S w v (.sl 1 (bytesA bs))) (hS:∀b,S b->b<w.heap.size):SliceAt w v (bvs bs):=by
 cases h with
 | sl A n c e us row hl hn hc hm ha h =>
  have hus:us=bvs bs:=by
   apply List.ext_getElem?
   intro j
   cases hu:us[j]? with
   | none =>
    have:us.length≤j:=List.getElem?_eq_none_iff.1 hu
    rw [List.getElem?_eq_none (by rw [bvs_len];rw [bytesA_len] at hl;omega)]
   | some u =>
    have hj:j<bs.length:=by have:=(List.getElem?_eq_some_iff.1 hu).1;rw [hl,bytesA_len] at this;exact this
    have hx:(bytesA bs)[j]?=some (.val (.int .u8 (bv bs[j]))):=by simp [bytesA,hj]
    have:=h j u _ hu hx
    cases this
    simp [bvs,hj]
  subst hus
  rw [bytesA_len] at hn ha
  have hn':bs.length=n:=by omega
  subst hn'
  refine ⟨A,c,by rw [bvs_len],by rw [bvs_len];exact hc,hm,by rw [bvs_len],fun h0=>?_⟩
  rw [bvs_len] at h0
  obtain ⟨ad,e,hs,hcell⟩:=ha h0
  exact ⟨ad,e,hS _ hs,hcell⟩
def evConv (P:Program) (s:AS) (src dst:TypeId) (x:AV) (h:Hint):Option (AV×List Prop) :=
 match x with
 | .val u=>(match semEval P (convert src dst u) with|some z=>some (fin h (.val z,[]))|none=>none)
 | x =>
  match P.underlying src,P.underlying dst,view s x,h.av with
  | some (.slice e),some .string,some (.sl 1 row),some (.val (.string b)) =>
   (match P.underlying e with|some (.int .u8)=>some (.val (.string b),[row=bytesA b.data.toList])|_=>none)
  | _,_,_,_=>none
theorem evConv_ok {P:Program} {s:AS} {o:Oper} {src dst:TypeId} {x:Operand} {h:Hint} {r:AV×List Prop} (ho:o.op= .convert src dst x) (hr:evConv P s src dst (opd s x) h=some r):PlainOK P s o r.1 r.2:=by
 unfold evConv at hr
 split at hr
 ·rename_i u hx
  split at hr
  ·rename_i z hz
   injection hr with hr;subst hr
   apply fin_ok
   intro hC S0 w0 n O a w φ hs
   have ex:a.eval x=u:=den_val (hx ▸ hs.opd x)
   unfold execOp
   simp only [ho,ex]
   refine ⟨z,?_,.rep (.val _)⟩
   rw [Sem.run_bind,semEval_run w hz];rfl
  ·cases hr
 ·split at hr
  ·rename_i e row b h1 h2 h3 h4
   split at hr
   ·rename_i h5
    injection hr with hr;subst hr
    intro hC S0 w0 n O a w φ hs
    have hv:=view_ok hs (hs.opd x) h3
    rw [hC.1] at hv
    have hrun:=run_string_of (P:=P) (rep_bytes hv (fun _ h=>h)) src dst e h1 h5 h2
    unfold execOp
    simp only [ho]
    refine ⟨.string b,?_,.rep (.val _)⟩
    rw [Sem.run_bind,hrun];rfl
   ·cases hr
  ·cases hr
end Go.Proofs.YtejpabdmiagnnaaGreatDoor
namespace Go.Proofs.YtejpabdmiagnnaaGreatDoor
open Go.RowKit
def mul1:Nat->Nat->Nat
 | k,1=>k
 | k,e=>k*e
theorem mul1_eq (k e:Nat):mul1 k e=k*e:=by
 unfold mul1
 split<;>simp
def evRead (P:Program) (t:TypeId) (pure:Bool) (cells:List AV) (off:Nat) (h:Hint):Option (AV×List Prop) :=
 match sizeT P t,P.underlying t with
 | some sz,some d =>
  (match d with
  | .struct _=>(match h.av with
   | some (.agg cs)=>some (.agg cs,[(cells.drop off).take sz=cs,cs.length=sz])
   | some _=>none
   | none=>(match Nat.beq ((cells.drop off).take sz).length sz with|true=>some (.agg ((cells.drop off).take sz),[])|false=>none))
  | .array _ _=>(match h.av,pure with
   | some (.arr cs),true=>some (.arr cs,[(cells.drop off).take sz=cs,cs.length=sz])
   | some (.agg cs),_=>some (.agg cs,[(cells.drop off).take sz=cs,cs.length=sz])
   | _,_=>none)
  | _=>(match h.av with
   | some y=>some (y,[cells[off]?=some y])
   | none=>(match cells[off]? with|some y=>some (y,[])|none=>none)))
 | _,_=>none
section
variable {P:Program} {w:World} {I:Info} {S:Nat->Prop}
theorem run_loadVar_agg {t:TypeId} {p:Addr} {vs:List Value} {d:TypeDesc} (hd:P.underlying t=some d) (ha:isAggT P t=true) (hs:sizeT P t=some vs.length) (h:∀(j:Nat) v,vs[j]?=some v->w.cell? (p.add j)=some v) :
  (loadVar t p).run P w= .ok (.agg vs.toArray) w:=by
 unfold loadVar
 rw [Sem.run_bind,run_isAgg ⟨d,hd⟩]
 simp only [Result.andThen_ok,ha,if_true]
 rw [Sem.run_bind,run_sizeOf hs]
 simp only [Result.andThen_ok]
 rw [Sem.run_bind,run_loadCells_list w p vs h]
 rfl
theorem run_loadVar_one {t:TypeId} {p:Addr} {v:Value} {d:TypeDesc} (hd:P.underlying t=some d) (ha:isAggT P t=false) (h:w.cell? p=some v) :
  (loadVar t p).run P w= .ok v w:=by
 unfold loadVar
 rw [Sem.run_bind,run_isAgg ⟨d,hd⟩]
 simp [ha,h]
theorem drop_take_get {α:Type} (l:List α) (off k j:Nat) (x:α) (hx:((l.drop off).take k)[j]?=some x):l[off+j]?=some x:=by
 have:=take_get _ _ _ _ hx
 rw [List.getElem?_drop] at this;exact this
theorem add_zero_addr (p:Addr):p.add 0=p:=by simp [Addr.add]
theorem evRead_ok {t:TypeId} {pure:Bool} {cells:List AV} {off:Nat} {h:Hint} {r:AV×List Prop} (hr:evRead P t pure cells off h=some r) (hC:AllP r.2) (p:Addr) (us:List Value) (hl:cells.length≤us.length)
  (hcell:∀(j:Nat) u,us[off+j]?=some u->w.cell? (p.add j)=some u) (hd:∀(j:Nat) u x,us[j]?=some u->cells[j]?=some x->CellDen I S w pure u x) :
  ∃v,(loadVar t p).run P w= .ok v w∧Den I S w v r.1:=by
 have den:∀(j:Nat) u x,us[j]?=some u->cells[j]?=some x->Den I S w u x:=by
  intro j u x hu hx
  have:=hd j u x hu hx
  unfold CellDen at this
  cases pure with
  | true=>exact .rep this
  | false=>exact this
 unfold evRead at hr
 split at hr
 ·rename_i sz d hsz hu
  have agg:∀(cs:List AV),isAggT P t=true->(cells.drop off).take sz=cs->cs.length=sz-> ∃vs:List Value,vs=(us.drop off).take sz∧(loadVar t p).run P w= .ok (.agg vs.toArray) w∧vs.length=cs.length∧(∀(j:Nat) v c,vs[j]?=some v->cs[j]?=some c->us[off+j]?=some v∧cells[off+j]?=some c):=by
   intro cs ha he hlen
   have hlc:cs.length=min sz (cells.length-off):=by rw [←he,List.length_take,List.length_drop]
   have hlv:((us.drop off).take sz).length=sz:=by rw [List.length_take,List.length_drop];omega
   refine ⟨_,rfl,run_loadVar_agg hu ha (by rw [hlv];exact hsz) (fun j v hv=>hcell j v (drop_take_get _ _ _ _ _ hv)),by omega,fun j v c hv hc=>⟨drop_take_get _ _ _ _ _ hv,?_⟩⟩
   rw [←he] at hc;exact drop_take_get _ _ _ _ _ hc
  have one:∀y,isAggT P t=false->cells[off]?=some y-> ∃v,(loadVar t p).run P w= .ok v w∧Den I S w v y:=by
   intro y ha hy
   have hlt:off<us.length:=by have:=(List.getElem?_eq_some_iff.1 hy).1;omega
   have hv:us[off]?=some us[off]:=List.getElem?_eq_getElem hlt
   refine ⟨us[off],run_loadVar_one hu ha ?_,den off _ y hv hy⟩
   have:=hcell 0 us[off] (by simp)
   rw [add_zero_addr] at this;exact this
  split at hr
  ·have ha:isAggT P t=true:=by unfold isAggT;rw [hu]
   split at hr
   ·rename_i cs _
    injection hr with hr;subst hr
    obtain ⟨vs,-,h1,h2,h3⟩:=agg cs ha hC.1 hC.2.1
    exact ⟨_,h1,.agg vs cs h2 fun j v c hv hc=>den _ _ _ (h3 j v c hv hc).1 (h3 j v c hv hc).2⟩
   ·cases hr
   ·split at hr
    ·rename_i hb
     injection hr with hr;subst hr
     obtain ⟨vs,-,h1,h2,h3⟩:=agg _ ha rfl (Nat.eq_of_beq_eq_true hb)
     exact ⟨_,h1,.agg vs _ h2 fun j v c hv hc=>den _ _ _ (h3 j v c hv hc).1 (h3 j v c hv hc).2⟩
    ·cases hr
  ·have ha:isAggT P t=true:=by unfold isAggT;rw [hu]
   split at hr
   ·rename_i cs _
    injection hr with hr;subst hr
    obtain ⟨vs,-,h1,h2,h3⟩:=agg cs ha hC.1 hC.2.1
    exact ⟨_,h1,.rep (.arr vs cs h2 fun j v c hv hc=>by have:=hd _ _ _ (h3 j v c hv hc).1 (h3 j v c hv hc).2;exact this)⟩
   ·rename_i cs _
    injection hr with hr;subst hr
    obtain ⟨vs,-,h1,h2,h3⟩:=agg cs ha hC.1 hC.2.1
    exact ⟨_,h1,.agg vs cs h2 fun j v c hv hc=>den _ _ _ (h3 j v c hv hc).1 (h3 j v c hv hc).2⟩
   ·cases hr
  ·rename_i hn1 hn2
   have ha:isAggT P t=false:=by
    unfold isAggT;rw [hu]
    cases d<;>first|rfl|exact absurd rfl (hn1 _)|exact absurd rfl (hn2 _ _)
   split at hr
   ·injection hr with hr;subst hr
    exact one _ ha hC.1
   ·split at hr
    ·rename_i y hy
     injection hr with hr;subst hr
     exact one _ ha hy
    ·cases hr
 ·cases hr
end
def evLoad (P:Program) (s:AS) (t:TypeId) (x:AV) (h:Hint):Option (AV×List Prop) :=
 match x with
 | .ptr row off=>evRead P t true row off h
 | .addr id off=>(match look s.H id with|some r=>evRead P t r.pure r.cells off h|none=>none)
 | _=>none
section
variable {P:Program} {s:AS} {o:Oper} {h:Hint} {r:AV×List Prop}
theorem den_ptr {I:Info} {S:Nat->Prop} {w:World} {v:Value} {row:List AV} {off:Nat} (h:Den I S w v (.ptr row off)):∃(ad:Addr) (us:List Value),v= .pointer (some (ad.add off))∧us.length=row.length∧S ad.block∧(∀(j:Nat) u,us[j]?=some u->w.cell? (ad.add j)=some u)∧ ∀(j:Nat) u x,us[j]?=some u->row[j]?=some x->Rep S w u x:=by
 cases h with|rep h=>cases h with|ptr ad us _ _ hl hs ha h=>exact ⟨ad,us,rfl,hl,hs,ha,h⟩
theorem den_addr {I:Info} {S:Nat->Prop} {w:World} {v:Value} {id off:Nat} (h:Den I S w v (.addr id off)):∃e m g,I id=some (e,m,some g)∧v= .pointer (some ⟨g,off,none⟩):=by
 cases h with
 | rep h=>cases h
 | addr id off e m g hi=>exact ⟨e,m,g,hi,rfl⟩
theorem addr_add (g o j:Nat):(⟨g,o,none⟩:Addr).add j=⟨g,o+j,none⟩:=by unfold Addr.add;split<;>simp_all
theorem evLoad_ok {t:TypeId} {x:Operand} (ho:o.op= .load t x) (hr:evLoad P s t (opd s x) h=some r):PlainOK P s o r.1 r.2:=by
 intro hC S0 w0 n O a w φ hs
 have hx:=hs.opd x
 unfold execOp
 simp only [ho]
 unfold evLoad at hr
 split at hr
 ·rename_i row off he
  rw [he] at hx
  obtain ⟨ad,us,hv,hl,hS,hcell,hrep⟩:=den_ptr hx
  obtain ⟨v,h1,h2⟩:=evRead_ok (I:=infoOf s.H φ) (S:=Free S0 w φ O) hr hC (ad.add off) us (by omega) (fun j u hu=>by rw [add_of_add];exact hcell _ u hu) (fun j u x hu hx=>by show Rep _ _ _ _;exact hrep j u x hu hx)
  refine ⟨v,?_,h2⟩
  simp only [Instr.loadAt,hv,Instr.sureAddr,Sem.run_bind,Sem.run_pure,Result.andThen_ok,h1]
 ·rename_i id off he
  rw [he] at hx
  obtain ⟨e,m,g,hi,hv⟩:=den_addr hx
  obtain ⟨q,hq,-,-,hφ⟩:=info_some hi
  rw [hq] at hr
  have hrow:=hs.rows id q hq
  unfold RowDen at hrow
  rw [hφ] at hrow
  obtain ⟨cur,te,fr,hg,hf,hl,-,hc⟩:=hrow
  obtain ⟨v,h1,h2⟩:=evRead_ok (I:=infoOf s.H φ) (S:=Free S0 w φ O) hr hC ⟨g,off,none⟩ cur.toList hl (fun j u hu=>by rw [addr_add,cell_of_row w g _ cur te fr hg];simpa using hu) (fun j u x hu hx=>hc j u x (by simpa using hu) hx)
  refine ⟨v,?_,h2⟩
  simp only [Instr.loadAt,hv,Instr.sureAddr,Sem.run_bind,Sem.run_pure,Result.andThen_ok,h1]
 ·cases hr
def evFieldAddr (P:Program) (t:TypeId) (x:AV) (f:Nat):Option (AV×List Prop) :=
 match P.underlying t with
 | some (.struct fields) =>
  (match fields[f]? with
  | some fd=>(match sizeT P fd.type with
   | some (_+1)=>(match x with
    | .ptr row off=>some (.ptr row (off+fd.offset),[])
    | .addr id off=>some (.addr id (off+fd.offset),[])
    | _=>none)
   | _=>none)
  | none=>none)
 | _=>none
theorem evFieldAddr_ok {t:TypeId} {x:Operand} {f:Nat} (ho:o.op= .fieldAddr t x f) (hr:evFieldAddr P t (opd s x) f=some r):PlainOK P s o r.1 r.2:=by
 intro hC S0 w0 n O a w φ hs
 have hx:=hs.opd x
 unfold execOp
 simp only [ho]
 unfold evFieldAddr at hr
 split at hr
 ·rename_i fields hu
  split at hr
  ·rename_i fd hf
   split at hr
   ·rename_i k hsz
    have hz:(sizeOf fd.type).run P w= .ok (k+1) w:=run_sizeOf hsz
    split at hr
    ·rename_i row off he
     injection hr with hr;subst hr
     rw [he] at hx
     obtain ⟨ad,us,hv,hl,hS,hcell,hrep⟩:=den_ptr hx
     refine ⟨.pointer (some (ad.add (off+fd.offset))),?_,.rep (.ptr ad us row _ hl hS hcell hrep)⟩
     simp [Instr.fieldAt,run_underlying hu,hf,hv,Instr.sureAddr,fieldPlace,hz,add_of_add]
    ·rename_i id off he
     injection hr with hr;subst hr
     rw [he] at hx
     obtain ⟨e,m,g,hi,hv⟩:=den_addr hx
     refine ⟨.pointer (some ⟨g,off+fd.offset,none⟩),?_,.addr id _ e m g hi⟩
     simp [Instr.fieldAt,run_underlying hu,hf,hv,Instr.sureAddr,fieldPlace,hz,addr_add]
    ·cases hr
   ·cases hr
  ·cases hr
 ·cases hr
def evIdx (P:Program) (s:AS) (t:TypeId) (x:AV) (n:Int) (h:Hint):Option (AV×List Prop) :=
 match P.underlying t with
 | some (.slice el) =>
  (match sizeT P el with
  | some (z+1)=>(match x with
   | .sl e row=>(match Nat.beq e (z+1) with|true=>some (.ptr row (mul1 h.k (z+1)),[n=(h.k:Int),mul1 h.k (z+1)<row.length])|false=>none)
   | .ref id=>(match look s.H id with|some q=>(match Nat.beq q.e (z+1) with|true=>some (.addr id (mul1 h.k (z+1)),[n=(h.k:Int),mul1 h.k (z+1)<q.cells.length])|false=>none)|none=>none)
   | .pre id l=>(match look s.H id with|some q=>(match Nat.beq q.e (z+1) with|true=>some (.addr id (mul1 h.k (z+1)),[n=(h.k:Int),mul1 h.k (z+1)<l])|false=>none)|none=>none)
   | .win id off l=>(match look s.H id with|some q=>(match Nat.beq q.e (z+1) with|true=>some (.addr id (mul1 h.k (z+1)+off),[n=(h.k:Int),mul1 h.k (z+1)<l])|false=>none)|none=>none)
   | _=>none)
  | _=>none)
 | some (.array len el) =>
  (match sizeT P el with
  | some (z+1)=>(match x with
   | .ptr row off=>some (.ptr row (mul1 h.k (z+1)+off),[n=(h.k:Int),h.k<len])
   | .addr id off=>some (.addr id (mul1 h.k (z+1)+off),[n=(h.k:Int),h.k<len])
   | _=>none)
  | _=>none)
 | _=>none
theorem den_sl {I:Info} {S:Nat->Prop} {w:World} {v:Value} {e:Nat} {row:List AV} (h:Den I S w v (.sl e row)):Rep S w v (.sl e row):=by
 cases h with|rep h=>exact h
theorem lt_of_mul {k z l e m:Nat} (h:mul1 k (z+1)<m) (hm:m=e*l) (he:e=z+1):k<l:=by
 rw [mul1_eq,hm,he,Nat.mul_comm] at h
 exact Nat.lt_of_mul_lt_mul_left h
theorem evIdx_ok {t:TypeId} {x i:Operand} {k:IntKind} {n:Int} (ho:o.op= .indexAddr t x i) (hi:opd s i= .val (.int k n)) (hr:evIdx P s t (opd s x) n h=some r):PlainOK P s o r.1 r.2:=by
 intro hC S0 w0 n' O a w φ hs
 have hx:=hs.opd x
 have ei:a.eval i= .int k n:=den_val (hi ▸ hs.opd i)
 unfold execOp
 simp only [ho,ei]
 unfold evIdx at hr
 split at hr
 ·rename_i el hu
  split at hr
  ·rename_i z hsz
   have hz:(sizeOf el).run P w= .ok (z+1) w:=run_sizeOf hsz
   split at hr
   ·rename_i e row he
    rw [he] at hx
    split at hr
    ·rename_i hb
     have hb':e=z+1:=Nat.eq_of_beq_eq_true hb
     injection hr with hr;subst hr
     obtain ⟨hn,hlt,-⟩:=hC
     have hrep:=den_sl hx
     cases hval:a.eval x with
     | slice A l c =>
      rw [hval] at hrep
      cases hrep with
      | sl _ _ _ _ us _ hl hn' hc hm ha hrep =>
       have hkl:h.k<l:=lt_of_mul hlt hn' hb'
       obtain ⟨ad,rfl,hS,hcell⟩:=ha (by omega)
       refine ⟨.pointer (some (ad.add (mul1 h.k (z+1)))),?_,.rep (.ptr ad us row _ hl hS hcell hrep)⟩
       have hbd:0≤n∧n<(l:Int):=by omega
       have hk:n.toNat=h.k:=by omega
       simp [Instr.indexAt,run_underlying hu,asIntOf,hbd,hz,hk,mul1_eq]
     | _=>rw [hval] at hrep;cases hrep
    ·cases hr
   ·rename_i id he
    rw [he] at hx
    split at hr
    ·rename_i q hq
     split at hr
     ·rename_i hb
      have hb':q.e=z+1:=Nat.eq_of_beq_eq_true hb
      injection hr with hr;subst hr
      obtain ⟨hn,hlt,-⟩:=hC
      generalize a.eval x=V at hx
      cases hx with
      | rep h=>cases h
      | ref _ e m g l c hi hm hc hx hs' =>
       rw [info_of hq] at hi
       injection hi with hi;injection hi with h1 hi;injection hi with h2 h3
       have hkl:h.k<l:=lt_of_mul hlt (by rw [h2];exact hm) (by rw [←h1];exact hb')
       refine ⟨.pointer (some ⟨g,mul1 h.k (z+1),none⟩),?_,.addr id _ q.e q.cells.length g (by rw [info_of hq,h3])⟩
       have hbd:0≤n∧n<(l:Int):=by omega
       have hk:n.toNat=h.k:=by omega
       simp [Instr.indexAt,run_underlying hu,asIntOf,hbd,hz,hk,mul1_eq,addr0_add]
      | refnil _ e hi =>
       rw [info_of hq] at hi
       injection hi with hi;injection hi with h1 hi;injection hi with h2 h3
       omega
     ·cases hr
    ·cases hr
   ·rename_i id l' he
    rw [he] at hx
    split at hr
    ·rename_i q hq
     split at hr
     ·rename_i hb
      have hb':q.e=z+1:=Nat.eq_of_beq_eq_true hb
      injection hr with hr;subst hr
      obtain ⟨hn,hlt,-⟩:=hC
      generalize a.eval x=V at hx
      cases hx with
      | rep h=>cases h
      | pre _ _ e m g l c hi hn' hm hc hx hs' =>
       rw [info_of hq] at hi
       injection hi with hi;injection hi with h1 hi;injection hi with h2 h3
       have hkl:h.k<l:=lt_of_mul hlt hn' (by rw [←h1];exact hb')
       refine ⟨.pointer (some ⟨g,mul1 h.k (z+1),none⟩),?_,.addr id _ q.e q.cells.length g (by rw [info_of hq,h3])⟩
       have hbd:0≤n∧n<(l:Int):=by omega
       have hk:n.toNat=h.k:=by omega
       simp [Instr.indexAt,run_underlying hu,asIntOf,hbd,hz,hk,mul1_eq,addr0_add]
      | prenil _ e hi=>omega
     ·cases hr
    ·cases hr
   ·rename_i id off l' he
    rw [he] at hx
    split at hr
    ·rename_i q hq
     split at hr
     ·rename_i hb
      have hb':q.e=z+1:=Nat.eq_of_beq_eq_true hb
      injection hr with hr;subst hr
      obtain ⟨hn,hlt,-⟩:=hC
      generalize a.eval x=V at hx
      cases hx with
      | rep h=>cases h
      | win _ _ _ e m l c g A hi hn' hm hc hx ha =>
       rw [info_of hq] at hi
       injection hi with hi;injection hi with h1 hi;injection hi with h2 h3
       have hkl:h.k<l:=lt_of_mul hlt hn' (by rw [←h1];exact hb')
       obtain ⟨b,hb1,rfl⟩:=ha (by omega)
       refine ⟨.pointer (some ⟨b,mul1 h.k (z+1)+off,none⟩),?_,.addr id _ q.e q.cells.length b (by rw [info_of hq,h3,hb1])⟩
       have hbd:0≤n∧n<(l:Int):=by omega
       have hk:n.toNat=h.k:=by omega
       simp [Instr.indexAt,run_underlying hu,asIntOf,hbd,hz,hk,mul1_eq,addr_add,Nat.add_comm]
     ·cases hr
    ·cases hr
   ·cases hr
  ·cases hr
 ·rename_i len el hu
  split at hr
  ·rename_i z hsz
   have hz:(sizeOf el).run P w= .ok (z+1) w:=run_sizeOf hsz
   split at hr
   ·rename_i row off he
    rw [he] at hx
    injection hr with hr;subst hr
    obtain ⟨hn,hlt,-⟩:=hC
    obtain ⟨ad,us,hv,hl,hS,hcell,hrep⟩:=den_ptr hx
    refine ⟨.pointer (some (ad.add (mul1 h.k (z+1)+off))),?_,.rep (.ptr ad us row _ hl hS hcell hrep)⟩
    have hbd:0≤n∧n<(len:Int):=by omega
    have hk:n.toNat=h.k:=by omega
    simp [Instr.indexAt,run_underlying hu,asIntOf,hbd,hz,hk,hv,Instr.sureAddr,mul1_eq,add_of_add,Nat.add_comm]
   ·rename_i id off he
    rw [he] at hx
    injection hr with hr;subst hr
    obtain ⟨hn,hlt,-⟩:=hC
    obtain ⟨e,m,g,hi,hv⟩:=den_addr hx
    refine ⟨.pointer (some ⟨g,mul1 h.k (z+1)+off,none⟩),?_,.addr id _ e m g hi⟩
    have hbd:0≤n∧n<(len:Int):=by omega
    have hk:n.toNat=h.k:=by omega
    simp [Instr.indexAt,run_underlying hu,asIntOf,hbd,hz,hk,hv,Instr.sureAddr,mul1_eq,addr_add,Nat.add_comm]
   ·cases hr
  ·cases hr
 ·cases hr
end
end Go.Proofs.YtejpabdmiagnnaaGreatDoor
namespace Go.Proofs.YtejpabdmiagnnaaGreatDoor
open Go.RowKit
section
variable {P:Program} {s:AS} {o:Oper} {h:Hint} {r:AV×List Prop}
inductive Cut where
 | all|to (n:Int)|from_ (n:Int)|both (n m:Int)
def intAV:AV->Option Int
 | .val (.int _ n)=>some n
 | _=>none
def cutOf (s:AS) (lo hi mx:Option Operand):Option Cut :=
 match lo,hi,mx with
 | none,none,none=>some .all
 | none,some y,none=>(match intAV (opd s y) with|some m=>some (.to m)|none=>none)
 | some x,none,none=>(match intAV (opd s x) with|some n=>some (.from_ n)|none=>none)
 | some x,some y,none=>(match intAV (opd s x),intAV (opd s y) with|some n,some m=>some (.both n m)|_,_=>none)
 | _,_,_=>none
def evSlice (P:Program) (s:AS) (t:TypeId) (x:AV) (c:Cut) (h:Hint):Option (AV×List Prop) :=
 match P.underlying t with
 | some .string =>
  (match x,c with
  | .val (.string b),.all=>some (.val (.string b),[])
  | .val (.string b),.to n=>some (fin h (.val (.string (b.extract 0 h.m)),[n=(h.m:Int),h.m≤b.size]))
  | .val (.string b),.from_ n=>some (fin h (.val (.string (b.extract h.k b.size)),[n=(h.k:Int),h.k≤b.size]))
  | .val (.string b),.both n n'=>some (fin h (.val (.string (b.extract h.k h.m)),[n=(h.k:Int),n'=(h.m:Int),h.k≤h.m,h.m≤b.size]))
  | _,_=>none)
 | some (.slice el) =>
  (match sizeT P el with
  | some (z+1)=>(match x,c with
   | .sl e row,.all=>some (fin h (.sl e row,[]))
   | .sl e row,.to n=>(match Nat.beq e (z+1) with|true=>some (fin h (.sl e (row.take (mul1 h.m e)),[n=(h.m:Int),mul1 h.m e≤row.length]))|false=>none)
   | .sl e row,.from_ n=>(match Nat.beq e (z+1) with|true=>some (fin h (.sl e (row.drop (mul1 h.k e)),[n=(h.k:Int),mul1 h.k e≤row.length]))|false=>none)
   | .sl e row,.both n n'=>(match Nat.beq e (z+1) with|true=>some (fin h (.sl e ((row.drop (mul1 h.k e)).take (mul1 (h.m-h.k) e)),[n=(h.k:Int),n'=(h.m:Int),h.k≤h.m,mul1 h.m e≤row.length]))|false=>none)
   | .ref id,.all=>some (.ref id,[])
   | .ref id,.to n=>(match look s.H id with|some q=>(match Nat.beq q.e (z+1) with|true=>some (.pre id (mul1 h.m q.e),[n=(h.m:Int),mul1 h.m q.e≤q.cells.length])|false=>none)|none=>none)
   | .ref id,.from_ n=>(match look s.H id with|some q=>(match Nat.beq q.e (z+1) with|true=>some (.win id (mul1 h.k q.e) (q.cells.length-mul1 h.k q.e),[n=(h.k:Int),mul1 h.k q.e≤q.cells.length])|false=>none)|none=>none)
   | .ref id,.both n n'=>(match look s.H id with|some q=>(match Nat.beq q.e (z+1) with|true=>some (.win id (mul1 h.k q.e) (mul1 (h.m-h.k) q.e),[n=(h.k:Int),n'=(h.m:Int),h.k≤h.m,mul1 h.m q.e≤q.cells.length])|false=>none)|none=>none)
   | .pre id l,.all=>some (.pre id l,[])
   | .pre id l,.to n=>(match look s.H id with|some q=>(match Nat.beq q.e (z+1) with|true=>some (.pre id (mul1 h.m q.e),[n=(h.m:Int),mul1 h.m q.e≤l])|false=>none)|none=>none)
   | _,_=>none)
  | _=>none)
 | some (.array len el) =>
  (match sizeT P el with
  | some (z+1)=>(match x,c with
   | .addr id 0,.all=>(match look s.H id with|some q=>(match Nat.beq q.e (z+1),q.full with|true,true=>some (.ref id,[q.cells.length=mul1 len q.e,len≤maxLen])|_,_=>none)|none=>none)
   | .addr id 0,.to n=>(match look s.H id with|some q=>(match Nat.beq q.e (z+1),q.full with|true,true=>some (.pre id (mul1 h.m q.e),[n=(h.m:Int),h.m≤len,q.cells.length=mul1 len q.e,len≤maxLen])|_,_=>none)|none=>none)
   | .addr id 0,.from_ n=>(match look s.H id with|some q=>(match Nat.beq q.e (z+1),q.full with|true,true=>some (.win id (mul1 h.k q.e) (mul1 (len-h.k) q.e),[n=(h.k:Int),h.k≤len,q.cells.length=mul1 len q.e,len≤maxLen])|_,_=>none)|none=>none)
   | .addr id 0,.both n n'=>(match look s.H id with|some q=>(match Nat.beq q.e (z+1),q.full with|true,true=>some (.win id (mul1 h.k q.e) (mul1 (h.m-h.k) q.e),[n=(h.k:Int),n'=(h.m:Int),h.k≤h.m,h.m≤len,q.cells.length=mul1 len q.e,len≤maxLen])|_,_=>none)|none=>none)
   | _,_=>none)
  | _=>none)
 | _=>none
def Bounds (c:Cut) (len cap:Nat) (l hi:Nat):Prop :=
 match c with
 | .all=>l=0∧hi=len
 | .to n=>l=0∧n=(hi:Int)∧hi≤cap
 | .from_ n=>n=(l:Int)∧l≤len∧hi=len
 | .both n n'=>n=(l:Int)∧n'=(hi:Int)∧l≤hi∧hi≤cap
theorem intAV_some {x:AV} {n:Int} (h:intAV x=some n):∃k,x= .val (.int k n):=by
 unfold intAV at h
 split at h
 ·injection h with h;subst h;exact ⟨_,rfl⟩
 ·cases h
theorem run_sliceBound {w:World} {k:IntKind} {n:Int} {y l:Nat} {code:BoundsCode} (h1:n=(l:Int)) (h2:l≤y):(Instr.sliceBound (.int k n) y code).run P w= .ok l w:=by
 have:0≤n∧n≤(y:Int):=by omega
 have e:n.toNat=l:=by omega
 simp [Instr.sliceBound,asIntOf,this,e]
theorem run_bounds {S0:Zone} {w0 w:World} {n:Nat} {O:List Nat} {a:Act} {φ:Nat->Option Nat} (hs:SimO S0 w0 n O s a w φ) {lo hi mx:Option Operand} {c:Cut} (hc:cutOf s lo hi mx=some c) (isSl:Bool) {len cap l m:Nat} (hb:Bounds c len cap l m) (hle:len≤cap) :
  mx=none∧(Instr.sliceBounds isSl len cap (lo.map a.eval) (hi.map a.eval) none).run P w= .ok (l,m,cap) w:=by
 have ev:∀x z,intAV (opd s x)=some z-> ∃k,a.eval x= .int k z:=fun x z hx=>by
  obtain ⟨k,e⟩:=intAV_some hx
  exact ⟨k,den_val (e ▸ hs.opd x)⟩
 unfold cutOf at hc
 split at hc
 ·injection hc with hc;subst hc
  obtain ⟨rfl,rfl⟩:=hb
  exact ⟨rfl,by simp [Instr.sliceBounds]⟩
 ·split at hc
  ·rename_i z hz
   injection hc with hc;subst hc
   obtain ⟨rfl,h1,h2⟩:=hb
   obtain ⟨k,e⟩:=ev _ _ hz
   exact ⟨rfl,by simp [Instr.sliceBounds,e,run_sliceBound h1 h2]⟩
  ·cases hc
 ·split at hc
  ·rename_i z hz
   injection hc with hc;subst hc
   obtain ⟨h1,h2,rfl⟩:=hb
   obtain ⟨k,e⟩:=ev _ _ hz
   exact ⟨rfl,by simp [Instr.sliceBounds,e,run_sliceBound h1 h2]⟩
  ·cases hc
 ·split at hc
  ·rename_i z z' hz hz'
   injection hc with hc;subst hc
   obtain ⟨h1,h1',h2,h3⟩:=hb
   obtain ⟨k,e⟩:=ev _ _ hz
   obtain ⟨k',e'⟩:=ev _ _ hz'
   exact ⟨rfl,by simp [Instr.sliceBounds,e,e',run_sliceBound h1' h3,run_sliceBound h1 h2]⟩
  ·cases hc
 ·cases hc
theorem run_slice_of {S0:Zone} {w0 w:World} {n:Nat} {O:List Nat} {a:Act} {φ:Nat->Option Nat} (hs:SimO S0 w0 n O s a w φ) {t el:TypeId} {x:Operand} {lo hi mx:Option Operand} {c:Cut} (ho:o.op= .slice t x lo hi mx) (hc:cutOf s lo hi mx=some c) (hu:P.underlying t=some (.slice el)) {z:Nat} (hz:sizeT P el=some z)
  {A:Option Addr} {len cap l m:Nat} (hx:a.eval x= .slice A len cap) (hb:Bounds c len cap l m) (hle:len≤cap) :
  (execOp a.eval o).run P w= .ok (.value (.slice (if cap=l then A else A.map (·.add (l*z))) (m-l) (cap-l))) w:=by
 obtain ⟨rfl,hr⟩:=run_bounds (P:=P) hs hc true hb hle
 unfold execOp
 simp only [ho,hx]
 have hz':(sizeOf el).run P w= .ok z w:=run_sizeOf hz
 simp [Instr.sliceAt,Instr.slice,run_underlying hu,hr,hz']
theorem run_slice_arr {S0:Zone} {w0 w:World} {n:Nat} {O:List Nat} {a:Act} {φ:Nat->Option Nat} (hs:SimO S0 w0 n O s a w φ) {t el:TypeId} {x:Operand} {lo hi mx:Option Operand} {c:Cut} (ho:o.op= .slice t x lo hi mx) (hc:cutOf s lo hi mx=some c) {len:Nat} (hu:P.underlying t=some (.array len el)) {z:Nat} (hz:sizeT P el=some z)
  {p:Addr} {l m:Nat} (hx:a.eval x= .pointer (some p)) (hb:Bounds c len len l m) :
  (execOp a.eval o).run P w= .ok (.value (.slice (some (if len=l then p else p.add (l*z))) (m-l) (len-l))) w:=by
 obtain ⟨rfl,hr⟩:=run_bounds (P:=P) hs hc false hb (Nat.le_refl _)
 unfold execOp
 simp only [ho,hx]
 have hz':(sizeOf el).run P w= .ok z w:=run_sizeOf hz
 simp [Instr.sliceAt,Instr.sureAddr,run_underlying hu,hr,hz']
theorem run_slice_str {S0:Zone} {w0 w:World} {n:Nat} {O:List Nat} {a:Act} {φ:Nat->Option Nat} (hs:SimO S0 w0 n O s a w φ) {t:TypeId} {x:Operand} {lo hi mx:Option Operand} {c:Cut} (ho:o.op= .slice t x lo hi mx) (hc:cutOf s lo hi mx=some c) (hu:P.underlying t=some .string)
  {b:ByteArray} {l m:Nat} (hx:a.eval x= .string b) (hb:Bounds c b.size b.size l m) :
  (execOp a.eval o).run P w= .ok (.value (.string (b.extract l m))) w:=by
 obtain ⟨rfl,hr⟩:=run_bounds (P:=P) hs hc false hb (Nat.le_refl _)
 unfold execOp
 simp only [ho,hx]
 simp [Instr.sliceAt,Instr.slice,run_underlying hu,hr]
theorem rep_part {S:Nat->Prop} {w:World} {A:Option Addr} {len cap e z:Nat} {row:List AV} (hrep:Rep S w (.slice A len cap) (.sl e row)) (he:e=z+1) (l m:Nat) (hlm:l≤m) (hm:m≤len) :
  Rep S w (.slice (if cap=l then A else A.map (·.add (l*(z+1)))) (m-l) (cap-l)) (.sl e ((row.drop (l*e)).take ((m-l)*e))):=by
 cases hrep with
 | sl _ _ _ _ us _ hl hn hc hx ha h =>
  have hle:(m-l)*e≤row.length-l*e:=by
   rw [hn,Nat.sub_mul,Nat.mul_comm e len]
   have:=Nat.mul_le_mul_right e hm
   omega
  have hlen:((row.drop (l*e)).take ((m-l)*e)).length=(m-l)*e:=by rw [List.length_take,List.length_drop];omega
  refine .sl _ _ _ _ ((us.drop (l*e)).take ((m-l)*e)) _ (by rw [hlen,List.length_take,List.length_drop];omega) (by rw [hlen,Nat.mul_comm]) (by omega) (by omega) (fun h0=>?_) (fun j u x hu hx=>h (l*e+j) u x (drop_take_get _ _ _ _ _ hu) (drop_take_get _ _ _ _ _ hx))
  rw [hlen] at h0
  have hne:cap≠l:=by
   intro e'
   have:m-l=0:=by omega
   rw [this,Nat.zero_mul] at h0;omega
  have hrl:0<row.length:=by omega
  obtain ⟨ad,rfl,hS,hcell⟩:=ha hrl
  rw [if_neg hne]
  refine ⟨ad.add (l*(z+1)),rfl,by rw [block_of_add];exact hS,fun j u hu=>?_⟩
  rw [add_of_add,←he]
  exact hcell _ u (drop_take_get _ _ _ _ _ hu)
theorem mul1_le {m len e q:Nat} (h:mul1 m e≤q) (hq:q=e*len) (he:0<e):m≤len:=by
 rw [mul1_eq,hq,Nat.mul_comm] at h
 exact Nat.le_of_mul_le_mul_left h he
theorem zero_of {m z:Nat} (h:m*(z+1)≤0):m=0:=by
 rcases Nat.eq_zero_or_pos m with h5|h5
 ·exact h5
 ·have:=Nat.mul_pos h5 (show 0<z+1 by omega);omega
theorem evSlice_ok {t:TypeId} {x:Operand} {lo hi mx:Option Operand} {c:Cut} (ho:o.op= .slice t x lo hi mx) (hc:cutOf s lo hi mx=some c) (hr:evSlice P s t (opd s x) c h=some r):PlainOK P s o r.1 r.2:=by
 unfold evSlice at hr
 split at hr
 ·rename_i hu
  split at hr
  ·rename_i b he
   injection hr with hr;subst hr
   intro hC S0 w0 n O a w φ hs
   have ex:a.eval x= .string b:=den_val (he ▸ hs.opd x)
   refine ⟨_,run_slice_str hs ho hc hu ex ⟨rfl,rfl⟩,?_⟩
   have:b.extract 0 b.size=b:=by simp
   rw [this];exact .rep (.val _)
  ·rename_i b n he
   injection hr with hr;subst hr
   refine fin_ok ?_
   intro hC S0 w0 n' O a w φ hs
   have ex:a.eval x= .string b:=den_val (he ▸ hs.opd x)
   exact ⟨_,run_slice_str hs ho hc hu ex ⟨rfl,hC.1,hC.2.1⟩,.rep (.val _)⟩
  ·rename_i b n he
   injection hr with hr;subst hr
   refine fin_ok ?_
   intro hC S0 w0 n' O a w φ hs
   have ex:a.eval x= .string b:=den_val (he ▸ hs.opd x)
   exact ⟨_,run_slice_str hs ho hc hu ex ⟨hC.1,hC.2.1,rfl⟩,.rep (.val _)⟩
  ·rename_i b n n2 he
   injection hr with hr;subst hr
   refine fin_ok ?_
   intro hC S0 w0 n' O a w φ hs
   have ex:a.eval x= .string b:=den_val (he ▸ hs.opd x)
   exact ⟨_,run_slice_str hs ho hc hu ex ⟨hC.1,hC.2.1,hC.2.2.1,hC.2.2.2.1⟩,.rep (.val _)⟩
  ·cases hr
 ·rename_i el hu
  split at hr
  ·rename_i z hsz
   have sl:∀(e:Nat) (row:List AV) (X:AV) (C:List Prop),opd s x= .sl e row->e=z+1->(AllP C-> ∃l m,(∀len cap,row.length=e*len->len≤cap->Bounds c len cap l m∧m≤len)∧l≤m∧X= .sl e ((row.drop (l*e)).take ((m-l)*e))∨(c= .all∧X= .sl e row))->PlainOK P s o X C:=by
    intro e row X C he hez hX hC S0 w0 n O a w φ hs
    have hx:=hs.opd x
    rw [he] at hx
    have hrep:=den_sl hx
    cases hval:a.eval x with
    | slice A len cap =>
     rw [hval] at hrep
     have hrep':=hrep
     cases hrep' with
     | sl _ _ _ _ us _ hl hn hc' hx' ha h' =>
      obtain ⟨l,m,h1⟩:=hX hC
      rcases h1 with ⟨hb,hlm,rfl⟩|⟨rfl,rfl⟩
      ·obtain ⟨hb,hm⟩:=hb len cap hn hc'
       exact ⟨_,run_slice_of hs ho hc hu hsz hval hb hc',.rep (rep_part hrep hez l m hlm hm)⟩
      ·refine ⟨_,run_slice_of hs ho hc hu hsz hval (l:=0) (m:=len) ⟨rfl,rfl⟩ hc',?_⟩
       have:(if cap=0 then A else A.map (·.add (0*(z+1))))=A:=by
        split
        ·rfl
        ·cases A<;>simp [add_zero_addr]
       rw [this];exact .rep hrep
    | _=>rw [hval] at hrep;cases hrep
   split at hr
   ·rename_i e row he
    injection hr with hr;subst hr
    refine fin_ok ?_
    intro hC S0 w0 n O a w φ hs
    have hx:=hs.opd x
    rw [he] at hx
    have hrep:=den_sl hx
    cases hval:a.eval x with
    | slice A len cap =>
     rw [hval] at hrep
     have hrep':=hrep
     cases hrep' with
     | sl _ _ _ _ us _ hl hn hc' hx' ha h' =>
      refine ⟨_,run_slice_of hs ho hc hu hsz hval (l:=0) (m:=len) ⟨rfl,rfl⟩ hc',?_⟩
      have:(if cap=0 then A else A.map (·.add (0*(z+1))))=A:=by
       split
       ·rfl
       ·cases A<;>simp [add_zero_addr]
      rw [this];exact .rep hrep
    | _=>rw [hval] at hrep;cases hrep
   ·rename_i e row n he
    split at hr
    ·rename_i hb
     have hez:e=z+1:=Nat.eq_of_beq_eq_true hb
     injection hr with hr;subst hr
     refine fin_ok (sl e row _ _ he hez fun hC=>⟨0,h.m,.inl ⟨fun len cap hn hcap=>?_,Nat.zero_le _,by simp [mul1_eq]⟩⟩)
     have:=mul1_le hC.2.1 hn (by omega)
     exact ⟨⟨rfl,hC.1,by omega⟩,this⟩
    ·cases hr
   ·rename_i e row n he
    split at hr
    ·rename_i hb
     have hez:e=z+1:=Nat.eq_of_beq_eq_true hb
     injection hr with hr;subst hr
     refine fin_ok ?_
     intro hC S0 w0 n' O a w φ hs
     have hx:=hs.opd x
     rw [he] at hx
     have hrep:=den_sl hx
     cases hval:a.eval x with
     | slice A len cap =>
      rw [hval] at hrep
      have hrep':=hrep
      cases hrep' with
      | sl _ _ _ _ us _ hl hn hc' hx' ha h' =>
       have hk:=mul1_le hC.2.1 hn (by omega)
       refine ⟨_,run_slice_of hs ho hc hu hsz hval (l:=h.k) (m:=len) ⟨hC.1,hk,rfl⟩ hc',?_⟩
       have:=rep_part hrep hez h.k len hk (Nat.le_refl _)
       have e2:(row.drop (h.k*e)).take ((len-h.k)*e)=row.drop (mul1 h.k e):=by
        rw [mul1_eq,List.take_of_length_le]
        rw [List.length_drop,hn,Nat.sub_mul,Nat.mul_comm e len]
        exact Nat.le_refl _
       rw [e2] at this
       exact .rep this
     | _=>rw [hval] at hrep;cases hrep
    ·cases hr
   ·rename_i e row n n2 he
    split at hr
    ·rename_i hb
     have hez:e=z+1:=Nat.eq_of_beq_eq_true hb
     injection hr with hr;subst hr
     refine fin_ok (sl e row _ _ he hez fun hC=>⟨h.k,h.m,.inl ⟨fun len cap hn hcap=>?_,hC.2.2.1,by simp [mul1_eq]⟩⟩)
     have:=mul1_le hC.2.2.2.1 hn (by omega)
     exact ⟨⟨hC.1,hC.2.1,hC.2.2.1,by omega⟩,this⟩
    ·cases hr
   ·rename_i id he
    injection hr with hr;subst hr
    intro hC S0 w0 n O a w φ hs
    have hx:=hs.opd x
    rw [he] at hx
    generalize hV:a.eval x=V at hx
    cases hx with
    | rep h=>cases h
    | ref _ e m g l c' hi hm hc' hx hs' =>
     refine ⟨_,run_slice_of hs ho hc hu hsz hV (l:=0) (m:=l) ⟨rfl,rfl⟩ hc',?_⟩
     have:(if c'=0 then (some ⟨g,0,none⟩:Option Addr) else (some ⟨g,0,none⟩:Option Addr).map (·.add (0*(z+1))))=some ⟨g,0,none⟩:=by simp [add_zero_addr]
     rw [this]
     exact .ref id e m g l c' hi hm hc' hx hs'
    | refnil _ e hi =>
     refine ⟨_,run_slice_of hs ho hc hu hsz hV (l:=0) (m:=0) ⟨rfl,rfl⟩ (Nat.le_refl _),?_⟩
     simp only [if_true]
     exact .refnil id e hi
   ·rename_i id n he
    split at hr
    ·rename_i q hq
     split at hr
     ·rename_i hb
      have hez:q.e=z+1:=Nat.eq_of_beq_eq_true hb
      injection hr with hr;subst hr
      intro hC S0 w0 n' O a w φ hs
      have hx:=hs.opd x
      rw [he] at hx
      generalize hV:a.eval x=V at hx
      cases hx with
      | rep h=>cases h
      | ref _ e m g l c' hi hm hc' hx hs' =>
       obtain ⟨q',hq',h1,h2,h3⟩:=info_some hi
       rw [hq] at hq';injection hq' with hq';subst hq'
       subst h1
       have hk:=mul1_le hC.2.1 (by rw [h2];exact hm) (by omega)
       refine ⟨_,run_slice_of hs ho hc hu hsz hV (l:=0) (m:=h.m) ⟨rfl,hC.1,by omega⟩ hc',?_⟩
       have:(if c'=0 then (some ⟨g,0,none⟩:Option Addr) else (some ⟨g,0,none⟩:Option Addr).map (·.add (0*(z+1))))=some ⟨g,0,none⟩:=by simp [add_zero_addr]
       rw [this]
       exact .pre id _ q.e m g h.m c' hi (by rw [mul1_eq,Nat.mul_comm]) (by rw [←h2];exact hC.2.1) (by omega) hx hs'
      | refnil _ e hi =>
       obtain ⟨q',hq',h1,h2,h3⟩:=info_some hi
       rw [hq] at hq';injection hq' with hq';subst hq'
       have hk:h.m=0:=by
        have h4:=hC.2.1
        rw [mul1_eq,h2,hez] at h4
        exact zero_of h4
       refine ⟨_,run_slice_of hs ho hc hu hsz hV (l:=0) (m:=h.m) ⟨rfl,hC.1,by omega⟩ (Nat.le_refl _),?_⟩
       rw [hk]
       simp only [if_true]
       have e0:mul1 0 q.e=0:=by rw [mul1_eq];simp
       rw [e0]
       exact .prenil id e hi
     ·cases hr
    ·cases hr
   ·rename_i id n he
    split at hr
    ·rename_i q hq
     split at hr
     ·rename_i hb
      have hez:q.e=z+1:=Nat.eq_of_beq_eq_true hb
      injection hr with hr;subst hr
      intro hC S0 w0 n' O a w φ hs
      have hx:=hs.opd x
      rw [he] at hx
      generalize hV:a.eval x=V at hx
      cases hx with
      | rep h=>cases h
      | ref _ e m g l c' hi hm hc' hx hs' =>
       obtain ⟨q',hq',h1,h2,h3⟩:=info_some hi
       rw [hq] at hq';injection hq' with hq';subst hq'
       subst h1
       have hk:=mul1_le hC.2.1 (by rw [h2];exact hm) (by omega)
       have hle:=hC.2.1
       rw [mul1_eq] at hle
       refine ⟨_,run_slice_of hs ho hc hu hsz hV (l:=h.k) (m:=l) ⟨hC.1,hk,rfl⟩ hc',?_⟩
       rw [mul1_eq]
       refine .win id _ _ q.e m (l-h.k) (c'-h.k) (some g) _ hi (by rw [h2,hm,Nat.mul_sub,Nat.mul_comm h.k]) (by omega) (by omega) (by omega) (fun h0=>⟨g,rfl,?_⟩)
       have hne:c'≠h.k:=by
        intro e'
        have:l=h.k:=by omega
        rw [h2,hm,this,Nat.mul_comm,Nat.sub_self] at h0;omega
       rw [if_neg hne]
       simp [addr0_add,hez]
      | refnil _ e hi =>
       obtain ⟨q',hq',h1,h2,h3⟩:=info_some hi
       rw [hq] at hq';injection hq' with hq';subst hq'
       have hk:h.k=0:=by
        have h4:=hC.2.1
        rw [mul1_eq,h2,hez] at h4
        exact zero_of h4
       refine ⟨_,run_slice_of hs ho hc hu hsz hV (l:=0) (m:=0) ⟨by rw [hC.1,hk],Nat.le_refl _,rfl⟩ (Nat.le_refl _),?_⟩
       rw [hk,h2]
       have e0:mul1 0 q.e=0:=by rw [mul1_eq];simp
       rw [e0]
       simp only [if_true]
       exact .win id 0 _ e 0 0 0 none none hi (by simp) (by simp) (by simp) (by simp) (fun h=>by simp at h)
     ·cases hr
    ·cases hr
   ·rename_i id n n2 he
    split at hr
    ·rename_i q hq
     split at hr
     ·rename_i hb
      have hez:q.e=z+1:=Nat.eq_of_beq_eq_true hb
      injection hr with hr;subst hr
      intro hC S0 w0 n' O a w φ hs
      have hx:=hs.opd x
      rw [he] at hx
      obtain ⟨hC1,hC2,hC3,hC4,-⟩:=hC
      generalize hV:a.eval x=V at hx
      cases hx with
      | rep h=>cases h
      | ref _ e m g l c' hi hm hc' hx hs' =>
       obtain ⟨q',hq',h1,h2,h3⟩:=info_some hi
       rw [hq] at hq';injection hq' with hq';subst hq'
       subst h1
       have hk:=mul1_le hC4 (by rw [h2];exact hm) (by omega)
       rw [mul1_eq] at hC4
       refine ⟨_,run_slice_of hs ho hc hu hsz hV (l:=h.k) (m:=h.m) ⟨hC1,hC2,hC3,by omega⟩ hc',?_⟩
       rw [mul1_eq,mul1_eq]
       have hmul:h.k*q.e≤h.m*q.e:=Nat.mul_le_mul_right _ hC3
       refine .win id _ _ q.e m (h.m-h.k) (c'-h.k) (some g) _ hi (by rw [Nat.mul_comm]) (by rw [Nat.sub_mul];omega) (by omega) (by omega) (fun h0=>⟨g,rfl,?_⟩)
       have hne:c'≠h.k:=by
        intro e'
        have:h.m-h.k=0:=by omega
        rw [this,Nat.zero_mul] at h0;omega
       rw [if_neg hne]
       simp [addr0_add,hez]
      | refnil _ e hi =>
       obtain ⟨q',hq',h1,h2,h3⟩:=info_some hi
       rw [hq] at hq';injection hq' with hq';subst hq'
       have hk:h.m=0:=by
        rw [mul1_eq,h2,hez] at hC4
        exact zero_of hC4
       have hk0:h.k=0:=by omega
       refine ⟨_,run_slice_of hs ho hc hu hsz hV (l:=0) (m:=0) ⟨by rw [hC1,hk0],by rw [hC2,hk],Nat.le_refl _,Nat.le_refl _⟩ (Nat.le_refl _),?_⟩
       rw [hk0,hk]
       have e0:mul1 0 q.e=0:=by rw [mul1_eq];simp
       simp only [Nat.sub_self,e0,if_true]
       exact .win id 0 0 e 0 0 0 none none hi (by simp) (by simp) (by simp) (by simp) (fun h=>by simp at h)
     ·cases hr
    ·cases hr
   ·rename_i id l' he
    injection hr with hr;subst hr
    intro hC S0 w0 n O a w φ hs
    have hx:=hs.opd x
    rw [he] at hx
    generalize hV:a.eval x=V at hx
    cases hx with
    | rep h=>cases h
    | pre _ _ e m g l c' hi hn' hm hc' hx hs' =>
     refine ⟨_,run_slice_of hs ho hc hu hsz hV (l:=0) (m:=l) ⟨rfl,rfl⟩ hc',?_⟩
     have:(if c'=0 then (some ⟨g,0,none⟩:Option Addr) else (some ⟨g,0,none⟩:Option Addr).map (·.add (0*(z+1))))=some ⟨g,0,none⟩:=by simp [add_zero_addr]
     rw [this]
     exact .pre id _ e m g l c' hi hn' hm hc' hx hs'
    | prenil _ e hi =>
     refine ⟨_,run_slice_of hs ho hc hu hsz hV (l:=0) (m:=0) ⟨rfl,rfl⟩ (Nat.le_refl _),?_⟩
     simp only [if_true]
     exact .prenil id e hi
   ·rename_i id l' n he
    split at hr
    ·rename_i q hq
     split at hr
     ·rename_i hb
      have hez:q.e=z+1:=Nat.eq_of_beq_eq_true hb
      injection hr with hr;subst hr
      intro hC S0 w0 n' O a w φ hs
      have hx:=hs.opd x
      rw [he] at hx
      generalize hV:a.eval x=V at hx
      cases hx with
      | rep h=>cases h
      | pre _ _ e m g l c' hi hn' hm hc' hx hs' =>
       obtain ⟨q',hq',h1,h2,h3⟩:=info_some hi
       rw [hq] at hq';injection hq' with hq';subst hq'
       subst h1
       have hk:=mul1_le hC.2.1 hn' (by omega)
       refine ⟨_,run_slice_of hs ho hc hu hsz hV (l:=0) (m:=h.m) ⟨rfl,hC.1,by omega⟩ hc',?_⟩
       have:(if c'=0 then (some ⟨g,0,none⟩:Option Addr) else (some ⟨g,0,none⟩:Option Addr).map (·.add (0*(z+1))))=some ⟨g,0,none⟩:=by simp [add_zero_addr]
       rw [this]
       exact .pre id _ q.e m g h.m c' hi (by rw [mul1_eq,Nat.mul_comm]) (by have:=hC.2.1;omega) (by omega) hx hs'
      | prenil _ e hi =>
       have hk:h.m=0:=by
        have h4:=hC.2.1
        rw [mul1_eq,hez] at h4
        exact zero_of h4
       refine ⟨_,run_slice_of hs ho hc hu hsz hV (l:=0) (m:=h.m) ⟨rfl,hC.1,by omega⟩ (Nat.le_refl _),?_⟩
       rw [hk]
       simp only [if_true]
       have e0:mul1 0 q.e=0:=by rw [mul1_eq];simp
       rw [e0]
       exact .prenil id e hi
     ·cases hr
    ·cases hr
   ·cases hr
  ·cases hr
 ·rename_i len el hu
  split at hr
  ·rename_i z hsz
   have arr:∀(id:Nat) (q:Row),opd s x= .addr id 0->look s.H id=some q->q.full=true-> ∀S0 w0 n O a w φ,SimO S0 w0 n O s a w φ-> ∃g,a.eval x= .pointer (some ⟨g,0,none⟩)∧infoOf s.H φ id=some (q.e,q.cells.length,some g)∧cellsLen w g=q.cells.length:=by
    intro id q he hq hf S0 w0 n O a w φ hs
    have hx:=hs.opd x
    rw [he] at hx
    obtain ⟨e,m,g,hi,hv⟩:=den_addr hx
    obtain ⟨q',hq',h1,h2,h3⟩:=info_some hi
    rw [hq] at hq';injection hq' with hq';subst hq'
    refine ⟨g,hv,by rw [info_of hq,h3],?_⟩
    have hrow:=hs.rows id q hq
    unfold RowDen at hrow
    rw [h3] at hrow
    obtain ⟨cur,te,fr,hg,-,-,hfu,-⟩:=hrow
    unfold cellsLen;rw [hg]
    exact hfu hf
   split at hr
   ·rename_i id he
    split at hr
    ·rename_i q hq
     split at hr
     ·rename_i hb hf
      have hez:q.e=z+1:=Nat.eq_of_beq_eq_true hb
      injection hr with hr;subst hr
      intro hC S0 w0 n O a w φ hs
      obtain ⟨g,hv,hi,hcl⟩:=arr id q he hq hf S0 w0 n O a w φ hs
      obtain ⟨hC1,hC2,-⟩:=hC
      rw [mul1_eq] at hC1
      refine ⟨_,run_slice_arr hs ho hc hu hsz hv (l:=0) (m:=len) ⟨rfl,rfl⟩,?_⟩
      have:(if len=0 then (⟨g,0,none⟩:Addr) else (⟨g,0,none⟩:Addr).add (0*(z+1)))=⟨g,0,none⟩:=by simp [add_zero_addr]
      rw [this]
      exact .ref id q.e _ g len len hi (by rw [hC1,Nat.mul_comm]) (Nat.le_refl _) hC2 (by rw [hcl,hC1,Nat.mul_comm])
     ·cases hr
    ·cases hr
   ·rename_i id n he
    split at hr
    ·rename_i q hq
     split at hr
     ·rename_i hb hf
      have hez:q.e=z+1:=Nat.eq_of_beq_eq_true hb
      injection hr with hr;subst hr
      intro hC S0 w0 n' O a w φ hs
      obtain ⟨g,hv,hi,hcl⟩:=arr id q he hq hf S0 w0 n' O a w φ hs
      obtain ⟨hC0,hC3,hC1,hC2,-⟩:=hC
      rw [mul1_eq] at hC1
      refine ⟨_,run_slice_arr hs ho hc hu hsz hv (l:=0) (m:=h.m) ⟨rfl,hC0,hC3⟩,?_⟩
      have:(if len=0 then (⟨g,0,none⟩:Addr) else (⟨g,0,none⟩:Addr).add (0*(z+1)))=⟨g,0,none⟩:=by simp [add_zero_addr]
      rw [this,mul1_eq]
      exact .pre id _ q.e _ g h.m len hi (by rw [Nat.mul_comm]) (by rw [hC1];exact Nat.mul_le_mul_right _ hC3) hC3 hC2 (by rw [hcl,hC1,Nat.mul_comm])
     ·cases hr
    ·cases hr
   ·rename_i id n he
    split at hr
    ·rename_i q hq
     split at hr
     ·rename_i hb hf
      have hez:q.e=z+1:=Nat.eq_of_beq_eq_true hb
      injection hr with hr;subst hr
      intro hC S0 w0 n' O a w φ hs
      obtain ⟨g,hv,hi,hcl⟩:=arr id q he hq hf S0 w0 n' O a w φ hs
      obtain ⟨hC0,hC3,hC1,hC2,-⟩:=hC
      rw [mul1_eq] at hC1
      refine ⟨_,run_slice_arr hs ho hc hu hsz hv (l:=h.k) (m:=len) ⟨hC0,hC3,rfl⟩,?_⟩
      rw [mul1_eq,mul1_eq]
      have hmul:h.k*q.e≤len*q.e:=Nat.mul_le_mul_right _ hC3
      refine .win id _ _ q.e _ (len-h.k) (len-h.k) (some g) _ hi (by rw [Nat.mul_comm]) (by rw [Nat.sub_mul,hC1];omega) (by omega) (by omega) (fun h0=>⟨g,rfl,?_⟩)
      have hne:len≠h.k:=by
       intro e'
       have:len-h.k=0:=by omega
       rw [this,Nat.zero_mul] at h0;omega
      rw [if_neg hne]
      simp [addr0_add,hez]
     ·cases hr
    ·cases hr
   ·rename_i id n n2 he
    split at hr
    ·rename_i q hq
     split at hr
     ·rename_i hb hf
      have hez:q.e=z+1:=Nat.eq_of_beq_eq_true hb
      injection hr with hr;subst hr
      intro hC S0 w0 n' O a w φ hs
      obtain ⟨g,hv,hi,hcl⟩:=arr id q he hq hf S0 w0 n' O a w φ hs
      obtain ⟨hC0,hC4,hC5,hC3,hC1,hC2,-⟩:=hC
      rw [mul1_eq] at hC1
      refine ⟨_,run_slice_arr hs ho hc hu hsz hv (l:=h.k) (m:=h.m) ⟨hC0,hC4,hC5,hC3⟩,?_⟩
      rw [mul1_eq,mul1_eq]
      have hmul:h.k*q.e≤h.m*q.e:=Nat.mul_le_mul_right _ hC5
      have hmul2:h.m*q.e≤len*q.e:=Nat.mul_le_mul_right _ hC3
      refine .win id _ _ q.e _ (h.m-h.k) (len-h.k) (some g) _ hi (by rw [Nat.mul_comm]) (by rw [Nat.sub_mul,hC1];omega) (by omega) (by omega) (fun h0=>⟨g,rfl,?_⟩)
      have hne:len≠h.k:=by
       intro e'
       have:h.m-h.k=0:=by omega
       rw [this,Nat.zero_mul] at h0;omega
      rw [if_neg hne]
      simp [addr0_add,hez]
     ·cases hr
    ·cases hr
   ·cases hr
  ·cases hr
 ·cases hr
end
end Go.Proofs.YtejpabdmiagnnaaGreatDoor
namespace Go.Proofs.YtejpabdmiagnnaaGreatDoor
open Go.RowKit
section
variable {P:Program} {s:AS} {o:Oper} {h:Hint} {r:AV×List Prop}
def evPart (P:Program) (t:TypeId) (cs:List AV) (off:Nat) (h:Hint):Option (AV×List Prop) :=
 match sizeT P t,P.underlying t with
 | some sz,some d =>
  (match d with
  | .struct _| .array _ _=>(match Nat.beq ((cs.drop off).take sz).length sz with|true=>some (.agg ((cs.drop off).take sz),[])|false=>none)
  | _=>(match h.av with
   | some y=>some (y,[cs[off]?=some y])
   | none=>(match cs[off]? with|some y=>some (y,[])|none=>none)))
 | _,_=>none
theorem evPart_ok {I:Info} {S:Nat->Prop} {w:World} {t:TypeId} {cs:List AV} {off:Nat} (hr:evPart P t cs off h=some r) (hC:AllP r.2) (vs:List Value) (hl:vs.length=cs.length) (hd:∀(j:Nat) v c,vs[j]?=some v->cs[j]?=some c->Den I S w v c) :
  ∃v,(part t vs.toArray off).run P w= .ok v w∧Den I S w v r.1:=by
 unfold evPart at hr
 split at hr
 ·rename_i sz d hsz hu
  have hz:(sizeOf t).run P w= .ok sz w:=run_sizeOf hsz
  have agg:isAggT P t=true->Nat.beq ((cs.drop off).take sz).length sz=true->r=(.agg ((cs.drop off).take sz),[])-> ∃v,(part t vs.toArray off).run P w= .ok v w∧Den I S w v r.1:=by
   intro ha hb hr
   subst hr
   have hlen:=Nat.eq_of_beq_eq_true hb
   rw [List.length_take,List.length_drop] at hlen
   refine ⟨.agg (vs.toArray.extract off (off+sz)),?_,?_⟩
   ·simp [part,run_isAgg ⟨d,hu⟩,ha,hz]
   ·have e:vs.toArray.extract off (off+sz)=((vs.drop off).take sz).toArray:=by
     simp [List.extract_eq_take_drop]
    rw [e]
    exact .agg _ _ (by rw [List.length_take,List.length_drop,List.length_take,List.length_drop];omega) fun j v c hv hc=>hd (off+j) v c (drop_take_get _ _ _ _ _ hv) (drop_take_get _ _ _ _ _ hc)
  have one:∀y,isAggT P t=false->cs[off]?=some y-> ∃v,(part t vs.toArray off).run P w= .ok v w∧Den I S w v y:=by
   intro y ha hy
   have hlt:off<vs.length:=by have:=(List.getElem?_eq_some_iff.1 hy).1;omega
   have hv:vs[off]?=some vs[off]:=List.getElem?_eq_getElem hlt
   refine ⟨vs[off],?_,hd off _ y hv hy⟩
   simp [part,run_isAgg ⟨d,hu⟩,ha,hlt]
  split at hr
  ·have ha:isAggT P t=true:=by unfold isAggT;rw [hu]
   split at hr
   ·rename_i hb;injection hr with hr;exact agg ha hb hr.symm
   ·cases hr
  ·have ha:isAggT P t=true:=by unfold isAggT;rw [hu]
   split at hr
   ·rename_i hb;injection hr with hr;exact agg ha hb hr.symm
   ·cases hr
  ·rename_i hn1 hn2
   have ha:isAggT P t=false:=by
    unfold isAggT;rw [hu]
    cases d<;>first|rfl|exact absurd rfl (hn1 _)|exact absurd rfl (hn2 _ _)
   split at hr
   ·injection hr with hr;subst hr
    exact one _ ha hC.1
   ·split at hr
    ·rename_i y hy
     injection hr with hr;subst hr
     exact one _ ha hy
    ·cases hr
 ·cases hr
def evField (P:Program) (t:TypeId) (x:AV) (f:Nat) (h:Hint):Option (AV×List Prop) :=
 match P.underlying t,x with
 | some (.struct fields),.agg cs=>(match fields[f]? with|some fd=>evPart P fd.type cs fd.offset h|none=>none)
 | _,_=>none
theorem evField_ok {t:TypeId} {x:Operand} {f:Nat} (ho:o.op= .field t x f) (hr:evField P t (opd s x) f h=some r):PlainOK P s o r.1 r.2:=by
 intro hC S0 w0 n O a w φ hs
 have hx:=hs.opd x
 unfold evField at hr
 split at hr
 ·rename_i fields cs hu he
  split at hr
  ·rename_i fd hf
   rw [he] at hx
   obtain ⟨vs,hv,hl,hd⟩:=den_agg hx
   obtain ⟨v,h1,h2⟩:=evPart_ok hr hC vs hl hd
   refine ⟨v,?_,h2⟩
   unfold execOp
   simp [ho,Instr.field,run_underlying hu,hf,hv,asAgg,h1]
  ·cases hr
 ·cases hr
def evExtract (x:AV) (i:Nat):Option (AV×List Prop) :=
 match x with
 | .tup cs=>(match cs[i]? with|some y=>some (y,[])|none=>none)
 | _=>none
theorem evExtract_ok {x:Operand} {i:Nat} (ho:o.op= .extract x i) (hr:evExtract (opd s x) i=some r):PlainOK P s o r.1 r.2:=by
 intro hC S0 w0 n O a w φ hs
 have hx:=hs.opd x
 unfold evExtract at hr
 split at hr
 ·rename_i cs he
  split at hr
  ·rename_i y hy
   injection hr with hr;subst hr
   rw [he] at hx
   obtain ⟨vs,hv,hl,hd⟩:=den_tup hx
   have hlt:i<vs.length:=by have:=(List.getElem?_eq_some_iff.1 hy).1;omega
   have hvi:vs[i]?=some vs[i]:=List.getElem?_eq_getElem hlt
   refine ⟨vs[i],?_,hd i _ y hvi hy⟩
   unfold execOp
   simp [ho,Instr.extract,hv,hlt]
  ·cases hr
 ·cases hr
def evIndex (P:Program) (t:TypeId) (x:AV) (n:Int) (h:Hint):Option (AV×List Prop) :=
 match P.underlying t,x with
 | some (.array len el),.agg cs=>(match sizeT P el with|some z=>(match evPart P el cs (mul1 h.k z) h with|some r=>some (r.1,(n=(h.k:Int))::(h.k<len)::r.2)|none=>none)|none=>none)
 | some (.array len el),.arr cs=>(match sizeT P el with|some z=>(match evPart P el cs (mul1 h.k z) h with|some r=>some (r.1,(n=(h.k:Int))::(h.k<len)::r.2)|none=>none)|none=>none)
 | some .string,.val (.string b)=>some (fin h (.val (.int .u8 (bv (b.data.toList.getD h.k 0))),[n=(h.k:Int),h.k<b.size]))
 | _,_=>none
theorem den_arr {I:Info} {S:Nat->Prop} {w:World} {v:Value} {cs:List AV} (h:Den I S w v (.arr cs)):∃vs:List Value,v= .agg vs.toArray∧vs.length=cs.length∧ ∀(j:Nat) v c,vs[j]?=some v->cs[j]?=some c->Rep S w v c:=by
 cases h with
 | rep h=>cases h with|arr vs _ hl h=>exact ⟨vs,rfl,hl,h⟩
theorem evIndex_ok {t:TypeId} {x i:Operand} {k:IntKind} {n:Int} (ho:o.op= .index t x i) (hi:opd s i= .val (.int k n)) (hr:evIndex P t (opd s x) n h=some r):PlainOK P s o r.1 r.2:=by
 unfold evIndex at hr
 have arr:∀(len:Nat) (el:TypeId) (z:Nat) (q:AV×List Prop) (cs:List AV),P.underlying t=some (.array len el)->sizeT P el=some z->evPart P el cs (mul1 h.k z) h=some q->r=(q.1,(n=(h.k:Int))::(h.k<len)::q.2) ->
   (∀S0 w0 n O a w φ,SimO S0 w0 n O s a w φ-> ∃vs:List Value,a.eval x= .agg vs.toArray∧vs.length=cs.length∧ ∀(j:Nat) v c,vs[j]?=some v->cs[j]?=some c->Den (infoOf s.H φ) (Free S0 w φ O) w v c)->PlainOK P s o r.1 r.2:=by
  intro len el z q cs hu hz hq hr hX
  subst hr
  intro hC S0 w0 n' O a w φ hs
  obtain ⟨h1,h2,hC⟩:=hC
  have ei:a.eval i= .int k n:=den_val (hi ▸ hs.opd i)
  obtain ⟨vs,hv,hl,hd⟩:=hX S0 w0 n' O a w φ hs
  obtain ⟨v,h3,h4⟩:=evPart_ok hq hC vs hl hd
  refine ⟨v,?_,h4⟩
  have hbd:0≤n∧n<(len:Int):=by omega
  have hk:n.toNat=h.k:=by omega
  have hz':(sizeOf el).run P w= .ok z w:=run_sizeOf hz
  rw [mul1_eq] at h3
  unfold execOp
  simp [ho,Instr.index,run_underlying hu,hv,asIntOf,ei,hbd,hk,hz',h3]
 split at hr
 ·rename_i len el cs hu he
  split at hr
  ·rename_i z hz
   split at hr
   ·rename_i q hq
    injection hr with hr
    refine arr len el z q cs hu hz hq hr.symm fun S0 w0 n O a w φ hs=>?_
    have hx:=hs.opd x
    rw [he] at hx
    exact den_agg hx
   ·cases hr
  ·cases hr
 ·rename_i len el cs hu he
  split at hr
  ·rename_i z hz
   split at hr
   ·rename_i q hq
    injection hr with hr
    refine arr len el z q cs hu hz hq hr.symm fun S0 w0 n O a w φ hs=>?_
    have hx:=hs.opd x
    rw [he] at hx
    obtain ⟨vs,h1,h2,h3⟩:=den_arr hx
    exact ⟨vs,h1,h2,fun j v c hv hc=>.rep (h3 j v c hv hc)⟩
   ·cases hr
  ·cases hr
 ·rename_i b hu he
  injection hr with hr;subst hr
  refine fin_ok ?_
  intro hC S0 w0 n' O a w φ hs
  obtain ⟨h1,h2,-⟩:=hC
  have ei:a.eval i= .int k n:=den_val (hi ▸ hs.opd i)
  have ex:a.eval x= .string b:=den_val (he ▸ hs.opd x)
  refine ⟨_,?_,.rep (.val _)⟩
  have h0:0≤n:=by omega
  have hk:n.toNat=h.k:=by omega
  unfold execOp
  simp [ho,Instr.index,run_underlying hu,ex,asIntOf,ei,h0,hk,h2]
  rfl
 ·cases hr
def evNil (x:AV):Option (AV×List Prop) :=
 match x with
 | .ptr row off=>some (.ptr row off,[])
 | .addr id off=>some (.addr id off,[])
 | .val (.func (.func f) l c)=>some (.val (.func (.func f) l c),[])
 | _=>none
theorem evNil_ok {x:Operand} (ho:o.op= .nilCheck x) (hr:evNil (opd s x)=some r):PlainOK P s o r.1 r.2:=by
 intro hC S0 w0 n O a w φ hs
 have hx:=hs.opd x
 unfold evNil at hr
 split at hr
 ·rename_i row off he
  injection hr with hr;subst hr
  rw [he] at hx
  obtain ⟨ad,us,hv,-⟩:=den_ptr hx
  refine ⟨a.eval x,?_,hx⟩
  unfold execOp
  simp [ho,hv]
 ·rename_i id off he
  injection hr with hr;subst hr
  rw [he] at hx
  obtain ⟨e,m,g,-,hv⟩:=den_addr hx
  refine ⟨a.eval x,?_,hx⟩
  unfold execOp
  simp [ho,hv]
 ·rename_i f l c he
  injection hr with hr;subst hr
  rw [he] at hx
  have hv:=den_val hx
  refine ⟨a.eval x,?_,hx⟩
  unfold execOp
  simp [ho,hv]
 ·cases hr
def evPick (s:AS) (c x y:Operand) (h:Hint):Option (AV×List Prop) :=
 match opd s c with
 | .val (.bool b)=>(match h.b with|true=>some (opd s x,[b=true])|false=>some (opd s y,[b=false]))
 | _=>none
theorem evPick_ok {c x y:Operand} {h:Hint} (ho:o.op= .pick c x y) (hr:evPick s c x y h=some r):PlainOK P s o r.1 r.2:=by
 intro hC S0 w0 n O a w φ hs
 unfold evPick at hr
 split at hr
 ·rename_i b he
  split at hr
  ·cases hr
   have ec:a.eval c= .bool true:=by
    have h1:a.eval c= .bool b:=den_val (he ▸ hs.opd c)
    rw [h1,show b=true from hC.1]
   refine ⟨a.eval x,?_,hs.opd x⟩
   unfold execOp
   simp [ho,ec,asBool]
  ·cases hr
   have ec:a.eval c= .bool false:=by
    have h1:a.eval c= .bool b:=den_val (he ▸ hs.opd c)
    rw [h1,show b=false from hC.1]
   refine ⟨a.eval y,?_,hs.opd y⟩
   unfold execOp
   simp [ho,ec,asBool]
 ·cases hr
def evLen (P:Program) (s:AS) (ts:Array TypeId) (ty:TypeId) (x:AV) (h:Hint):Option (AV×List Prop) :=
 match x with
 | .val u=>(match semEval P (Builtin.len_ ts ty #[u]) with|some z=>some (fin h (.val z,[]))|none=>none)
 | x=>(match ts[0]? with
  | some t=>(match P.underlying t with
   | some (.slice _)=>(match x with
    | .nil=>some (.val (.int .i64 0),[])
    | .sl (e+1) row=>some (.val (.int .i64 h.k),[row.length=mul1 h.k (e+1)])
    | .ref id=>(match look s.H id with|some ⟨e+1,_,_,cells⟩=>some (.val (.int .i64 h.k),[cells.length=mul1 h.k (e+1)])|_=>none)
    | .pre id l=>(match look s.H id with|some ⟨e+1,_,_,_⟩=>some (.val (.int .i64 h.k),[l=mul1 h.k (e+1)])|_=>none)
    | .win id _ l=>(match look s.H id with|some ⟨e+1,_,_,_⟩=>some (.val (.int .i64 h.k),[l=mul1 h.k (e+1)])|_=>none)
    | _=>none)
   | some (.array n _)=>some (.val (.int .i64 n),[])
   | _=>none)
  | none=>none)
theorem len_eq {q e l k:Nat} (h1:q=mul1 k (e+1)) (h2:q=(e+1)*l):l=k:=by
 rw [mul1_eq,h2,Nat.mul_comm k] at h1
 exact Nat.eq_of_mul_eq_mul_left (by omega) h1
theorem evLen_ok {x:Operand} {ts:Array TypeId} (ho:o.op= .call {callee:=.builtin .len,args:= #[x],argTypes:=ts}) (hr:evLen P s ts o.type (opd s x) h=some r):PlainOK P s o r.1 r.2:=by
 unfold evLen at hr
 split at hr
 ·rename_i u he
  split at hr
  ·rename_i z hz
   injection hr with hr;subst hr
   refine fin_ok ?_
   intro hC S0 w0 n O a w φ hs
   have ex:a.eval x=u:=den_val (he ▸ hs.opd x)
   refine ⟨z,?_,.rep (.val _)⟩
   unfold execOp
   simp [ho,resolve,invoke,builtin,ex,semEval_run w hz]
  ·cases hr
 ·split at hr
  ·rename_i t ht
   split at hr
   ·rename_i el hu
    have run:∀(a:Act) (w:World) (A:Option Addr) (l c:Nat),a.eval x= .slice A l c->(execOp a.eval o).run P w= .ok (.value (.int .i64 l)) w:=by
     intro a w A l c hv
     unfold execOp
     simp [ho,resolve,invoke,builtin,hv,Builtin.len_,ht,run_underlying hu,goInt]
    split at hr
    ·rename_i he
     injection hr with hr;subst hr
     intro hC S0 w0 n O a w φ hs
     have hx:=hs.opd x
     rw [he] at hx
     generalize hV:a.eval x=V at hx
     cases hx with|rep h=>cases h with|nil=>exact ⟨_,run a w _ _ _ hV,.rep (.val _)⟩
    ·rename_i e row he
     injection hr with hr;subst hr
     intro hC S0 w0 n O a w φ hs
     have hx:=hs.opd x
     rw [he] at hx
     have hrep:=den_sl hx
     generalize hV:a.eval x=V at hrep
     cases hrep with
     | sl A l c _ us _ hl hn hc hm ha h' =>
      have:=len_eq hC.1 hn
      subst this
      exact ⟨_,run a w _ _ _ hV,.rep (.val _)⟩
    ·rename_i id he
     split at hr
     ·rename_i e pu fu cells hq
      injection hr with hr;subst hr
      intro hC S0 w0 n O a w φ hs
      have hx:=hs.opd x
      rw [he] at hx
      generalize hV:a.eval x=V at hx
      cases hx with
      | rep h=>cases h
      | ref _ e m g l c hi hm hc hx hs' =>
       rw [info_of hq] at hi
       injection hi with hi;injection hi with h1 hi;injection hi with h2 h3
       have:=len_eq hC.1 (by rw [show cells.length=m from h2,hm,←h1])
       subst this
       exact ⟨_,run a w _ _ _ hV,.rep (.val _)⟩
      | refnil _ e hi =>
       rw [info_of hq] at hi
       injection hi with hi;injection hi with h1 hi;injection hi with h2 h3
       have:=len_eq (l:=0) hC.1 (by rw [show cells.length=0 from h2];simp)
       rw [←this]
       exact ⟨_,run a w _ _ _ hV,.rep (.val _)⟩
     ·cases hr
    ·rename_i id l' he
     split at hr
     ·rename_i e pu fu cells hq
      injection hr with hr;subst hr
      intro hC S0 w0 n O a w φ hs
      have hx:=hs.opd x
      rw [he] at hx
      generalize hV:a.eval x=V at hx
      cases hx with
      | rep h=>cases h
      | pre _ _ e m g l c hi hn hm hc hx hs' =>
       rw [info_of hq] at hi
       injection hi with hi;injection hi with h1 hi;injection hi with h2 h3
       have:=len_eq hC.1 (by rw [hn,←h1])
       subst this
       exact ⟨_,run a w _ _ _ hV,.rep (.val _)⟩
      | prenil _ e hi =>
       have:=len_eq (l:=0) hC.1 (by simp)
       rw [←this]
       exact ⟨_,run a w _ _ _ hV,.rep (.val _)⟩
     ·cases hr
    ·rename_i id off l' he
     split at hr
     ·rename_i e pu fu cells hq
      injection hr with hr;subst hr
      intro hC S0 w0 n O a w φ hs
      have hx:=hs.opd x
      rw [he] at hx
      generalize hV:a.eval x=V at hx
      cases hx with
      | rep h=>cases h
      | win _ _ _ e m l c g A hi hn hm hc hx ha =>
       rw [info_of hq] at hi
       injection hi with hi;injection hi with h1 hi;injection hi with h2 h3
       have:=len_eq hC.1 (by rw [hn,←h1])
       subst this
       exact ⟨_,run a w _ _ _ hV,.rep (.val _)⟩
     ·cases hr
    ·cases hr
   ·rename_i n' el hu
    injection hr with hr;subst hr
    intro hC S0 w0 n O a w φ hs
    refine ⟨.int .i64 n',?_,.rep (.val _)⟩
    unfold execOp
    simp [ho,resolve,invoke,builtin,Builtin.len_,ht,run_underlying hu,goInt]
   ·cases hr
  ·cases hr
def valsOf (s:AS):List Operand->Option (List Value)
 | []=>some []
 | x::l=>match opd s x,valsOf s l with| .val u,some m=>some (u::m)|_,_=>none
theorem valsOf_ok {S0:Zone} {w0 w:World} {n:Nat} {O:List Nat} {a:Act} {φ:Nat->Option Nat} (hs:SimO S0 w0 n O s a w φ):∀(xs:List Operand) (us:List Value),valsOf s xs=some us->xs.map a.eval=us
 | [],us,h=>by cases h;rfl
 | x::l,us,h=>by
  simp only [valsOf] at h
  split at h
  ·rename_i u m hu hm
   injection h with h;subst h
   rw [List.map_cons,valsOf_ok hs l m hm,show a.eval x=u from den_val (hu ▸ hs.opd x)]
  ·cases h
def evMM (P:Program) (b:Builtin) (ts:Array TypeId) (ty:TypeId) (us:List Value):Option (AV×List Prop) :=
 match b with
 | .min=>(match semEval P (Builtin.min_ ts ty us.toArray) with|some z=>some (.val z,[])|none=>none)
 | .max=>(match semEval P (Builtin.max_ ts ty us.toArray) with|some z=>some (.val z,[])|none=>none)
 | _=>none
theorem evMM_ok {b:Builtin} {xs:Array Operand} {ts:Array TypeId} {us:List Value} (ho:o.op= .call {callee:=.builtin b,args:=xs,argTypes:=ts}) (hu:valsOf s xs.toList=some us) (hr:evMM P b ts o.type us=some r):PlainOK P s o r.1 r.2:=by
 intro hC S0 w0 n O a w φ hs
 have e:=valsOf_ok hs _ _ hu
 have e2:xs.map a.eval=us.toArray:=Array.toList_inj.1 (by rw [Array.toList_map,e])
 unfold evMM at hr
 split at hr
 ·split at hr
  ·rename_i z hz
   injection hr with hr;subst hr
   refine ⟨z,?_,.rep (.val _)⟩
   unfold execOp
   simp [ho,resolve,invoke,builtin,e2,semEval_run w hz]
  ·cases hr
 ·split at hr
  ·rename_i z hz
   injection hr with hr;subst hr
   refine ⟨z,?_,.rep (.val _)⟩
   unfold execOp
   simp [ho,resolve,invoke,builtin,e2,semEval_run w hz]
  ·cases hr
 ·cases hr
end
end Go.Proofs.YtejpabdmiagnnaaGreatDoor
