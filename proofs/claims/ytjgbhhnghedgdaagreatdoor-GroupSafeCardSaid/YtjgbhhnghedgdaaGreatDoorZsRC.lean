import Derived.Test.YtjgbhhnghedgdaaGreatDoorZsRL
import Derived.Orders
import Derived.Tactics
import Derived.WalkKit
import Derived.ProofKit
import Derived.OpenShut
import Derived.ShutString
import Derived.ChangeOld
import Derived.Below
import Derived.RangeFuncRecord
set_option linter.all false
namespace Go.Proofs.YtjgbhhnghedgdaaGreatDoor
open Go.RowKit
def Cf (P:Program) (n:Nat) (s:AS) (d:Option Nat) (src dst id:Nat):Option (AS×List Prop) :=
 match look s.H id,P.underlying src with
 | some ⟨e,true,_,cells⟩,some (.slice el)=>(match P.underlying el,Nat.beq src dst with
  | some (.int .u8),true=>(match fZ n (bX id s) d (.sl e cells) with|some s'=>some (s',[0<cells.length])|none=>none)
  | _,_=>none)
 | _,_=>none
section
variable {P:Program} {n:Nat} {s:AS} {o:Oper} {h:Hint} {q:AS×List Prop}
theorem xB {w:World} {g:Nat} {cur:Array Value} {te:TypeId} {fr:Nat×Nat} (hg:w.heap[g]?=some (.cells cur te fr)) (k:Nat):(∃QG,(w.freeze ⟨g,k,none⟩ 1).heap[g]?=some (.cells cur te QG))∧(w.freeze ⟨g,k,none⟩ 1).heap.size=w.heap.size∧(∀b,b≠g->(w.freeze ⟨g,k,none⟩ 1).heap[b]?=w.heap[b]?)∧(w.freeze ⟨g,k,none⟩ 1).os=w.os∧(w.freeze ⟨g,k,none⟩ 1).tape=w.tape∧(w.freeze ⟨g,k,none⟩ 1).output=w.output:=by
 unfold World.freeze
 rw [if_neg (by decide)]
 obtain ⟨lo,hi⟩:=fr
 refine ⟨⟨if lo == hi then (k,k+1) else (min lo k,max hi (k+1)),?_⟩,by simp,fun b hb=>?_,rfl,rfl,rfl⟩
 ·simp only [Array.getElem?_modify,if_true,hg,Option.map_some]
 ·simp only [Array.getElem?_modify]
  rw [if_neg (fun e=>hb e.symm)]
theorem run_mark {w:World} {t e:TypeId} {g l c:Nat} {cur:Array Value} {te:TypeId} {fr:Nat×Nat} (ht:P.underlying t=some (.slice e)) (he:P.underlying e=some (.int .u8)) (hg:w.heap[g]?=some (.cells cur te fr)) :
  (convert t t (.slice (some ⟨g,0,none⟩) l c)).run P w= .ok (.slice (some ⟨g,0,none⟩) l c) (w.freeze ⟨g,cur.size,none⟩ 1):=by
 have Kt:w.shape? g=some (te,cur.size):=by unfold World.shape?;rw [hg]
 simp [convert,run_underlying ht,run_underlying he,markStringish,Kt]
theorem Fl {src dst id:Nat} {x:Operand} (ho:o.op= .convert src dst x) (hx:bj s x= .ref id) (hr:Cf P n s o.dst src dst id=some q):lV P n s o q.1 q.2:=by
 intro hC S0 w0 a w Q ⟨φ,hs⟩
 unfold Cf at hr
 split at hr
 ·rename_i e f cells el lg hu
  split at hr
  ·rename_i he hb
   split at hr
   ·rename_i s' dL
    injection hr with hr;subst hr
    have Uj:=Nat.eq_of_beq_eq_true hb
    subst Uj
    have MI:0<cells.length:=hC.1
    have dx:=hs.bj x
    rw [hx] at dx
    generalize hv:a.eval x=v at dx
    cases dx with
    | rep bV=>cases bV
    | cw _ e' hi =>
     have nk:=bn (φ:=φ) lg
     rw [hi] at nk
     simp at nk
     omega
    | ref _ e' m g l c hi hm hc FP bU =>
     have nk:=bn (φ:=φ) lg
     rw [hi] at nk
     simp at nk
     obtain ⟨h1,h2,h3⟩:=nk
     subst h1 h2
     have bY:φ id=some g:=h3.symm
     have aK:=hs.rows id _ lg
     unfold bJ at aK
     rw [bY] at aK
     obtain ⟨cur,te,fr,hg,hf,hle,-,bq⟩:=aK
     obtain ⟨⟨QG,k1⟩,k2,k3,k4,k5,k6⟩:=xB hg cur.size
     have bZ:(execOp a.eval o).run P w= .ok (.value (.slice (some ⟨g,0,none⟩) l c)) (w.freeze ⟨g,cur.size,none⟩ 1):=by
      unfold execOp;simp only [ho,hv,Sem.run_bind,run_mark hu he hg,Result.andThen_ok];rfl
     refine cI bZ ⟨erase φ id,?_⟩
     have r1:=hs.jk id [g] (by rw [bY])
     have r2:=r1.vD (w':=w.freeze ⟨g,cur.size,none⟩ 1) (fun g' iW=>by simp at iW;rw [iW];exact (hs.cL id g bY).1.2) k4 k5 k6 ah (fun b _ hn=>k3 b (by simpa using hn))
     have r3:=r2.uA
     refine dB r3 (.rep ?_) dL
     have uo:aJ S0 (w.freeze ⟨g,cur.size,none⟩ 1) (erase φ id) [] g:=⟨by rw [k2];exact (hs.cL id g bY).2,by simp,fun i hi=>by
      unfold erase at hi
      split at hi
      ·cases hi
      ·rename_i cK;exact cK (hs.inj i id g hi bY),hs.new g (hs.cL id g bY).1.2⟩
     refine eH (r:=⟨e',true,f,cells⟩) k1 uo cells 0 (by simpa using hle) hm hc FP _ (fun _=>rfl) (fun j u y hu hy=>?_)
     have Tp:=bq j u y (by simpa using hu) hy
     unfold a_ at Tp
     refine cp.mono (fun b hb=>?_) Tp
     have cK:b≠g:=fun e=>hb.2.2.1 id (by rw [bY,e])
     refine ⟨⟨by rw [k2];exact hb.1,by simp,fun i hi=>?_,hb.2.2.2⟩,k3 b cK⟩
     unfold erase at hi
     split at hi
     ·cases hi
     ·exact hb.2.2.1 i hi
   ·cases hr
  ·cases hr
 ·cases hr
end
def AG (P:Program) (n:Nat) (s:AS) (o:Oper) (h:Hint):Option (AS×List Prop) :=
 match pQ P s o h with
 | some (x,C)=>(match fZ n s o.dst x with|some s'=>some (s',C)|none=>none)
 | none=>none
def AH (P:Program) (n:Nat) (s:AS) (o:Oper) (h:Hint):Option (AS×List Prop) :=
 match o.op with
 | .alloc t=>(match o.dst with|some d=>nO P n s d t h|none=>none)
 | .box t x=>(match o.dst with|some d=>Iy P n s d t (bj s x)|none=>none)
 | .buildSlice t len parts=>(match o.dst with|some d=>uJ P n s d t len parts.toList h|none=>none)
 | .makeSlice t l c=>(match bj s l,bj s c,o.dst with| .val (.int _ L),.val (.int _ C),some d=>Cg P n s d t L C h|_,_,_=>none)
 | .convert src dst x=>(match bj s x,P.underlying dst,o.dst with
  | .val (.string b),some (.slice _),some d=>xS P n s d src dst b
  | .ref id,some (.slice _),_=>Cf P n s o.dst src dst id
  | _,_,_=>AG P n s o h)
 | .store t x y=>(match o.dst with|none=>xE P s t x y h|some _=>none)
 | .call ⟨.builtin .append,⟨[x,y]⟩,⟨[t,xt]⟩⟩=>(match o.dst with|some d=>kK P n s d t xt (bj s x) (bj s y) h|none=>none)
 | .call ⟨.builtin .copy,⟨[x,y]⟩,⟨[t,xt]⟩⟩=>Cs P n s o.dst t xt (bj s x) (bj s y) h
 | .call ⟨.builtin _,_,_⟩=>AG P n s o h
 | .call ⟨c,xs,_⟩=>(match h.ln with| []=>(match callee s c with|some _=>q8 P n s o.dst c xs.toList h|none=>xR P n s o.dst c xs.toList h)|_=>nN P n s o.dst c xs.toList h)
 | .makeFunc (.func f) ⟨[]⟩ ⟨xs⟩=>(match o.dst with|some d=>Cj n s d f xs|none=>none)
 | _=>AG P n s o h
section
variable {P:Program} {n:Nat} {s:AS} {o:Oper} {h:Hint} {q:AS×List Prop}
theorem uI (hr:AG P n s o h=some q):lV P n s o q.1 q.2:=by
 unfold AG at hr
 split at hr
 ·rename_i x C hp
  split at hr
  ·rename_i s' bU
   cases hr
   exact GY (kJ hp) bU
  ·cases hr
 ·cases hr
theorem nM (hr:AH P n s o h=some q):lV P n s o q.1 q.2:=by
 unfold AH at hr
 split at hr
 ·rename_i ho
  split at hr
  ·rename_i hd;exact uO ho hd hr
  ·cases hr
 ·rename_i ho
  split at hr
  ·rename_i hd;exact Ix ho hd hr
  ·cases hr
 ·rename_i ho
  split at hr
  ·rename_i hd;exact AJ ho hd hr
  ·cases hr
 ·rename_i ho
  split at hr
  ·rename_i hl hc hd;exact Fm ho hl hc hd hr
  ·cases hr
 ·rename_i ho
  split at hr
  ·rename_i hx _ hd;exact Cv ho hx hd hr
  ·rename_i hx _;exact Fl ho hx hr
  ·exact uI hr
 ·rename_i ho
  split at hr
  ·rename_i hd;exact Ca ho hd hr
  ·cases hr
 ·rename_i ho
  split at hr
  ·rename_i hd;exact rU ho hd hr
  ·cases hr
 ·rename_i ho;exact Fu ho hr
 ·exact uI hr
 ·rename_i ho
  split at hr
  ·split at hr
   ·exact wB ho hr
   ·exact Cu ho hr
  ·exact uN ho hr
 ·rename_i ho
  split at hr
  ·rename_i hd;exact Fq ho hd hr
  ·cases hr
 ·exact uI hr
end
def Ss (P:Program) (n:Nat) (ops:List Oper) (s:AS) (o:Oper) (h:Hint):Option (AS×List Prop) :=
 match o.guard with
 | none=>AH P n s o h
 | some (j,want)=>(match ops[j]? with
  | some p=>(match p.dst with
   | some d=>(match jI s d with
    | .val (.bool b)=>(match h.g == want with
     | true=>(match AH P n s o h with|some (s',C)=>some (s',(b=h.g)::C)|none=>none)
     | false=>(match fZ n s o.dst (.val (.tuple #[])) with|some s'=>some (s',[b=h.g])|none=>none))
    | .val (.tuple _)=>(match fZ n s o.dst (.val (.tuple #[])) with|some s'=>some (s',[])|none=>none)
    | _=>none)
   | none=>none)
  | none=>none)
def gl (hs:List (Nat×Hint)) (i:Nat):Hint:=match look hs i with|some h=>h|none=>{}
def jS (P:Program) (n:Nat) (ops:List Oper) (hs:List (Nat×Hint)):List Oper->Nat->AS->Option (AS×List Prop)
 | [],_,s=>some (s,[])
 | o::l,i,s=>match Ss P n ops s o (gl hs i) with
  | some (s1,C)=>(match jS P n ops hs l (i+1) s1 with|some (s2,D)=>some (s2,C++D)|none=>none)
  | none=>none
section
variable {P:Program} {n:Nat} {ops:List Oper} {S0:bf} {w0:World} {Q:Exit->Act->World->Prop}
theorem pY {I:Info} {S:Nat->Prop} {w:World} {a:Act} {d:Nat} {b:Bool} (h:Den I S w (a.tmps.getD d undef) (.val (.bool b))):a.tmps[d]?=some (.bool b):=by
 have h':=bE h
 cases ht:a.tmps[d]? with
 | none=>simp [ht,undef] at h'
 | some u=>simp [ht] at h';rw [h']
theorem lX {a:Act} {j d:Nat} {p:Oper} {b:Bool} (hp:ops[j]?=some p) (hd:p.dst=some d) (ht:a.tmps[d]?=some (.bool b)):yielded ops.toArray a.tmps j=some b:=by
 unfold yielded
 simp [hp,hd,ht]
theorem lW {a:Act} {j d:Nat} {p:Oper} {arr:Array Value} (hp:ops[j]?=some p) (hd:p.dst=some d) (ht:a.tmps.getD d undef= .tuple arr):yielded ops.toArray a.tmps j=none:=by
 unfold yielded
 simp only [List.getElem?_toArray,hp,Option.bind_some,hd]
 rw [Array.getD_eq_getD_getElem?] at ht
 cases h:a.tmps[d]? with
 | none=>rfl
 | some u=>rw [h] at ht;simp at ht;rw [ht]
theorem Iw {s:AS} {o:Oper} {h:Hint} {q:AS×List Prop} (hr:Ss P n ops s o h=some q) (hC:bu q.2) {a:Act} {w:World} (hs:ib S0 w0 n s a w) (K:Act->World->Prop) (hK:∀a' w',ib S0 w0 n q.1 a' w'->K a' w') :
  if Region.wanted o (yielded ops.toArray a.tmps) then o.wp P a w K Q∨(o.asks P a w∧LetsOut Q) else K (a.put o.dst undef) w:=by
 unfold Ss at hr
 split at hr
 ·rename_i hg
  have hw:Region.wanted o (yielded ops.toArray a.tmps)=true:=by unfold Region.wanted;rw [hg]
  rw [if_pos hw]
  exact .inl (Oper.wp_mono hK (nM hr hC S0 w0 a w Q hs))
 ·rename_i j want hg
  split at hr
  ·rename_i p hp
   split at hr
   ·rename_i d hd
    split at hr
    ·rename_i b hb
     obtain ⟨φ,bU⟩:=hs
     have ht:=bU.get d
     rw [hb] at ht
     have hy:=lX (ops:=ops) hp hd (pY ht)
     split at hr
     ·rename_i jP
      split at hr
      ·rename_i s' C he
       cases hr
       obtain ⟨Aj,hC⟩:=hC
       have hw:Region.wanted o (yielded ops.toArray a.tmps)=true:=by
        unfold Region.wanted;rw [hg];simp only [hy,Aj]
        have:h.g=want:=by simpa using jP
        rw [this];simp
       rw [if_pos hw]
       exact .inl (Oper.wp_mono hK (nM he hC S0 w0 a w Q ⟨φ,bU⟩))
      ·cases hr
     ·rename_i jP
      split at hr
      ·rename_i s' DP
       cases hr
       obtain ⟨Aj,-⟩:=hC
       have hw:¬Region.wanted o (yielded ops.toArray a.tmps)=true:=by
        unfold Region.wanted;rw [hg];simp only [hy,Aj]
        have:¬h.g=want:=by simpa using jP
        simpa using this
       rw [if_neg hw]
       exact hK _ _ ⟨φ,dB bU (.rep (.val _)) DP⟩
      ·cases hr
    ·rename_i arr hb
     obtain ⟨φ,bU⟩:=hs
     have ht:=bU.get d
     rw [hb] at ht
     have hy:=lW (ops:=ops) hp hd (bE ht)
     split at hr
     ·rename_i s' DP
      cases hr
      have hw:¬Region.wanted o (yielded ops.toArray a.tmps)=true:=by
       unfold Region.wanted;rw [hg];simp [hy]
      rw [if_neg hw]
      exact hK _ _ ⟨φ,dB bU (.rep (.val _)) DP⟩
     ·cases hr
    ·cases hr
   ·cases hr
  ·cases hr
theorem jD {hs:List (Nat×Hint)}:∀(l:List Oper) (i:Nat) (s s':AS) (C:List Prop),jS P n ops hs l i s=some (s',C)->bu C-> ∀(a:Act) (w:World),ib S0 w0 n s a w->(∀a' w',ib S0 w0 n s' a' w'->Q .normal a' w')->wpList P ops.toArray Q l a w
 | [],i,s,s',C,he,hC,a,w,hs,hQ=>by cases he;exact hQ a w hs
 | o::l,i,s,s',C,he,hC,a,w,hs,hQ=>by
  simp only [jS] at he
  split at he
  ·rename_i s1 C1 h1
   split at he
   ·rename_i s2 D h2
    cases he
    obtain ⟨iz,hD⟩:=bM.1 hC
    have:=Iw (S0:=S0) (w0:=w0) (Q:=Q) h1 iz hs (wpList P ops.toArray Q l) (fun a' w' h'=>jD l (i+1) s1 s' D h2 hD a' w' h' hQ)
    unfold wpList
    exact this
   ·cases he
  ·cases he
end
def Ig:AV->AV
 | .own e row=>.sl e row
 | .box row=>.ptr row 0
 | x=>x
def Fg:AV->AV
 | .agg cs=>.agg (cs.map Ig)
 | x=>Ig x
def Oj:AV->AV
 | .br cs=>.br (cs.map Fg)
 | x=>Fg x
section
variable {S S':Nat->Prop} {w:World}
theorem xA (hS:∀b,S b->S' b) {v:Value} {x:AV} {O:List Nat} (hO:∀g∈O,S' g) (h:gS S w v x O):cp S' w v (Ig x):=by
 cases h with
 | rep h =>
  have:=h.mono fun b hb=>⟨hS b hb,rfl⟩
  cases h<;>exact this
 | nil e=>exact iD none 0 0 e (by simp) (by simp) (by simp)
 | own g l c e row cur te fr hg hf hl hc hm hs h =>
  exact eH (r:=⟨e,true,false,row⟩) hg (hO g (by simp)) row 0 (by rw [hl,hs,Nat.zero_add];exact Nat.mul_le_mul_left _ hc) hl hc hm _ (fun _=>rfl) (fun j u x hu hx=>(h j u x (by simpa using hu) hx).mono fun b hb=>⟨hS b hb,rfl⟩)
 | box g row cur te fr hg hf hs h =>
  exact oH (off:=0) hg (hO g (by simp)) row ah (fun j u x hu hx=>(h j u x hu hx).mono fun b hb=>⟨hS b hb,rfl⟩)
theorem D6 {R:Value->AV->List Nat->Prop} {f:AV->AV} (hR:∀v x O,(∀g∈O,S' g)->R v x O->cp S' w v (f x)) {vs:List Value} {xs:List AV} {O:List Nat} (h:kP R vs xs O):(∀g∈O,S' g)->vs.length=(xs.map f).length∧ ∀(j:Nat) v c,vs[j]?=some v->(xs.map f)[j]?=some c->cp S' w v c:=by
 induction h with
 | nil=>intro _;exact ⟨rfl,fun j v c hv=>by simp at hv⟩
 | cons h _ ih =>
  intro hO
  obtain ⟨h1,h2⟩:=ih fun g hg=>hO g (by simp [hg])
  refine ⟨by simpa using h1,fun j v c hv hc=>?_⟩
  cases j with
  | zero=>simp at hv hc;subst hv;subst hc;exact hR _ _ _ (fun g hg=>hO g (by simp [hg])) h
  | succ j=>exact h2 j v c (by simpa using hv) (by simpa using hc)
theorem xz (hS:∀b,S b->S' b) {v:Value} {x:AV} {O:List Nat} (hO:∀g∈O,S' g) (h:nB S w v x O):cp S' w v (Fg x):=by
 rcases h with h|⟨vs,cs,rfl,rfl,hL⟩
 ·by_cases hx:∃cs,x= .agg cs
  ·obtain ⟨cs,rfl⟩:=hx
   cases h with
   | rep h=>cases h with
    | agg vs _ hl h =>
     refine .agg vs _ (by simpa using hl) fun j v c hv hc=>?_
     rw [List.getElem?_map] at hc
     cases hj:cs[j]? with
     | none=>rw [hj] at hc;cases hc
     | some y=>rw [hj] at hc;injection hc with hc;subst hc;exact xA hS (O:=[]) (by simp) (.rep (h j v y hv hj))
  ·have:Fg x=Ig x:=by
    cases x with
    | agg cs=>exact absurd ⟨cs,rfl⟩ hx
    | _=>rfl
   rw [this];exact xA hS hO h
 ·obtain ⟨h1,h2⟩:=D6 (S':=S') (f:=Ig) (fun v x O hO h=>xA hS hO h) hL hO
  exact .agg vs _ h1 h2
theorem Ie (hS:∀b,S b->S' b) {v:Value} {x:AV} {O:List Nat} (hO:∀g∈O,S' g) (h:sq S w v x O):cp S' w v (Oj x):=by
 rcases h with h|⟨vs,cs,rfl,rfl,hL⟩
 ·by_cases hx:∃cs,x= .br cs
  ·obtain ⟨cs,rfl⟩:=hx
   rcases h with h|⟨vs,JA,h1,h2,h3⟩
   ·cases h with
    | rep h=>cases h with
     | br vs _ hl h =>
      refine .br vs _ (by simpa using hl) fun j v c hv hc=>?_
      rw [List.getElem?_map] at hc
      cases hj:cs[j]? with
      | none=>rw [hj] at hc;cases hc
      | some y=>rw [hj] at hc;injection hc with hc;subst hc;exact xz hS (O:=[]) (by simp) (.inl (.rep (h j v y hv hj)))
   ·cases h2
  ·have:Oj x=Fg x:=by
    cases x with
    | br cs=>exact absurd ⟨cs,rfl⟩ hx
    | _=>rfl
   rw [this];exact xz hS hO h
 ·obtain ⟨h1,h2⟩:=D6 (S':=S') (f:=Fg) (fun v x O hO h=>xz hS hO h) hL hO
  exact .br vs _ h1 h2
end
def q6 (P:Program) (s:AS) (o:Oper) (h:Hint):Option (AV×List Prop) :=
 match o.op with
 | .buildSlice t len parts=>(match P.underlying t with
  | some (.slice el)=>(match dN P el,(P.info? el).bind (·.zero) with
   | some (z+1),some zero=>(match fN s (z+1) 0 parts.toList,Nat.beq parts.toList.length len,Nat.ble (len*(z+1)) 16777216,Nat.beq zero.cells.size (z+1) with
    | some cells,true,true,true=>(match dD cells with
     | true=>some (.sl (z+1) (named h cells).1,(named h cells).2)
     | false=>none)
    | _,_,_,_=>none)
   | _,_=>none)
  | _=>none)
 | .makeSlice t l c=>(match bj s l,bj s c,P.underlying t with
  | .val (.int _ L),.val (.int _ C),some (.slice el)=>(match P.info? el with
   | some i=>(match i.zero,i.size with
    | some zero,z+1=>(match Nat.beq zero.cells.size (z+1) with
     | true=>some (.sl (z+1) (named h (sX (zero.cells.toList.map bx) h.k)).1,(named h (sX (zero.cells.toList.map bx) h.k)).2++ [L=(h.k:Int),C=(h.m:Int),h.k≤h.m,i.bytes*h.m≤281474976710656,h.m≤maxLen])
     | false=>none)
    | _,_=>none)
   | none=>none)
  | _,_,_=>none)
 | .call ⟨.builtin _,_,_⟩=>pQ P s o h
 | .call ⟨c,xs,_⟩=>(match callee s c,h.av with
  | some f,some r=>(match gU P f,h.b with
   | true,true=>(match jG s (xs.toList.map (bj s)),flat r with
    | some vs,some C=>some (Oj r,bK P f vs r::C)
    | _,_=>none)
   | true,false=>(match lb (xs.toList.map (bj s)) with
    | true=>some (Oj r,[bK P f (xs.toList.map (bj s)) r])
    | false=>none)
   | _,_=>none)
  | _,_=>none)
 | _=>pQ P s o h
def CY (P:Program) (s:AS) (o:Oper) (x:AV) (C:List Prop):Prop :=
 bu C-> ∀S0 w0 n a w φ Q (b:Act),aH S0 w0 n [] s a w φ->b.tmps=a.tmps->o.wp P b w (fun b' w'=>∃v,b'=b.put o.dst v∧Below w.heap.size w w'∧Den (az s.H φ) (aJ S0 w' φ []) w' v x) Q
theorem dV {a b:Act} (h:b.tmps=a.tmps):b.eval=a.eval:=by
 funext x
 cases x<;>simp [Act.eval,h]
section
variable {P:Program} {s:AS} {o:Oper} {h:Hint} {r:AV×List Prop}
theorem ur (hp:cS P s o r.1 r.2):CY P s o r.1 r.2:=by
 intro hC S0 w0 n a w φ Q b hs hb
 obtain ⟨v,bZ,dz⟩:=hp hC S0 w0 n [] a w φ hs
 rw [←dV hb] at bZ
 exact cI bZ ⟨v,rfl,Below.refl _ _,dz⟩
theorem lO {S0:bf} {w0 w w':World} {n:Nat} {a:Act} {φ:Nat->Option Nat} (hs:aH S0 w0 n [] s a w φ) (hb:Below w.heap.size w w') (b:Nat) (h:aJ S0 w φ [] b∨(w.heap.size≤b∧b<w'.heap.size)):aJ S0 w' φ [] b:=by
 rcases h with h|⟨h1,h2⟩
 ·exact ⟨by have:=h.1;have:=hb.size;omega,by simp,h.2.2⟩
 ·exact ⟨h2,by simp,fun i hi=>by have:=(hs.cL i b hi).2;omega,hs.new b (.inl (by have:=hs.cM.size;omega))⟩
theorem wi {c:Callee} {xs:Array Operand} {ts:Array TypeId} {f:FuncId} {args:List AV} {x:AV} {C:List Prop} (ho:o.op= .call ⟨c,xs,ts⟩) (hc:callee s c=some f) (hE:gU P f=true) (ni:bu C->bK P f args x) (hl:args.length=xs.toList.length)
  (hG:bu C-> ∀S0 w0 n a w φ,aH S0 w0 n [] s a w φ-> ∃S:Nat->Prop,(∀b,S b->b<w.heap.size)∧(∀(j:Nat) v y,(xs.toList.map a.eval)[j]?=some v->args[j]?=some y->cp S w v y)∧ ∀w' v O,sq (fun b=>S b∨(w.heap.size≤b∧b<w'.heap.size∧b ∉ O)) w' v x O->sq (fun b=>aJ S0 w φ [] b∨(w.heap.size≤b∧b<w'.heap.size∧b ∉ O)) w' v x O):CY P s o (Oj x) C:=by
 intro hC S0 w0 n a w φ Q b hs hb
 have bZ:=jd (P:=P) hs hc ho hE
 rw [←dV hb] at bZ
 obtain ⟨S,hS,iq,um⟩:=hG hC S0 w0 n a w φ hs
 unfold Oper.wp
 rw [bZ]
 have mE:=ni hC w S (xs.toList.map a.eval) hs.cM.mm hS (by simp [hl]) iq
 have e:(xs.toList.map a.eval).toArray=xs.map b.eval:=by rw [dV hb];apply Array.ext';simp
 rw [e] at mE
 refine mE.mono ?_
 rintro en w' ⟨v,O,rfl,pK,g_,mh,hg⟩
 refine ⟨v,rfl,pK,.rep (Ie (fun b hb=>?_) (fun g hg=>?_) (um w' v O hg))⟩
 ·exact lO hs pK b (hb.imp id fun h=>⟨h.1,h.2.1⟩)
 ·exact lO hs pK g (.inr (mh g hg))
theorem wA (hr:q6 P s o h=some r):CY P s o r.1 r.2:=by
 unfold q6 at hr
 split at hr
 ·rename_i t len parts ho
  split at hr
  ·rename_i el hu
   split at hr
   ·rename_i z zero hz hzero
    split at hr
    ·rename_i cells dn hlen Ai uf
     split at hr
     ·rename_i hp
      cases hr
      intro hC S0 w0 n a w φ Q b hs hb
      have hlen:=Nat.eq_of_beq_eq_true hlen
      have Ai:len*(z+1)≤16777216:=Nat.le_of_ble_eq_true Ai
      have hn:(named h cells).1=cells:=(gP (C:=[]) (by rw [List.append_nil];exact hC)).1
      obtain ⟨h1,us,h2,h3,-,h4⟩:=BM hs (z+1) parts.toList 0 cells ((Array.range (len*(z+1))).map (zero.cells[· %zero.cells.size]!)) dn hp (by simp [←hlen])
      have hm:len≤maxLen:=by
       have:len≤len*(z+1):=Nat.le_mul_of_pos_right _ ah
       unfold maxLen;omega
      have bZ:(execOp b.eval o).run P w= .ok (.value (.slice (some ⟨w.heap.size,0,none⟩) len len)) {w with heap:=w.heap.push (.cells us el (0,0))}:=by
       have z6:(sizeOf el).run P w= .ok (z+1) w:=run_sizeOf hz
       have pJ:(parts.map fun p=>(p.1,a.eval p.2)).toList=parts.toList.map fun p=>(p.1,a.eval p.2):=by simp
       rw [dV hb]
       unfold execOp
       simp only [ho,Instr.buildSlice,Sem.run_bind,run_underlying hu,Result.andThen_ok,z6,Sem.run_ite]
       rw [if_neg ah]
       by_cases h0:len*(z+1)=0
       ·rw [if_pos h0]
        simp only [Sem.run_pure,Result.andThen_ok]
        have:(Array.range (len*(z+1))).map (fun x=>(#[]:Array Value)[x%(#[]:Array Value).size]!)=(Array.range (len*(z+1))).map (fun x=>zero.cells[x%zero.cells.size]!):=by rw [h0,gX,gX]
        rw [this,pJ,h2]
        rfl
       ·rw [if_neg h0]
        simp only [iE hzero,Result.andThen_ok,Sem.run_pure]
        rw [pJ,h2]
        rfl
      have pK:Below w.heap.size w {w with heap:=w.heap.push (.cells us el (0,0))}:=⟨rfl,rfl,rfl,by simp,fun k hk=>cB w _ k hk⟩
      have gw:cells.length=(z+1)*len:=by rw [h1,hlen,Nat.mul_comm]
      refine cI bZ ⟨_,rfl,pK,?_⟩
      simp only [hn]
      refine .rep (eH (r:=⟨z+1,true,false,cells⟩) (dm w _) (lO hs pK _ (.inr ⟨Nat.le_refl _,by simp⟩)) cells 0 (by rw [h3,gw];simp [Nat.mul_comm]) gw (Nat.le_refl _) hm _ (fun _=>rfl) (fun j u x hu hx=>?_))
      exact (h4 j u x (by simpa using hu) hx).mono fun b hb=>⟨lO hs pK b (.inl hb),cB w _ b hb.1⟩
     ·cases hr
    ·cases hr
   ·cases hr
  ·cases hr
 ·rename_i t l c ho
  split at hr
  ·rename_i kl L kc C el hl hc hu
   split at hr
   ·rename_i i hi
    split at hr
    ·rename_i zero z hz dc
     split at hr
     ·rename_i hb
      cases hr
      have hb:=Nat.eq_of_beq_eq_true hb
      intro hC S0 w0 n a w φ Q b hs KG
      obtain ⟨Ku,hC⟩:=gP hC
      obtain ⟨h1,h2,h3,h4,h5,-⟩:=hC
      have LP:b.eval l= .int kl L:=by rw [dV KG];exact bE (hl ▸ hs.bj l)
      have ec:b.eval c= .int kc C:=by rw [dV KG];exact bE (hc ▸ hs.bj c)
      obtain ⟨cur,bZ,wm,bq⟩:=run_make ho LP ec hu hi hz dc hb h1 h2 h3 h4 h5 w
      have pK:Below w.heap.size w {w with heap:=w.heap.push (.cells cur el (0,0))}:=⟨rfl,rfl,rfl,by simp,fun k hk=>cB w _ k hk⟩
      have FO:(zero.cells.toList.map bx).length=z+1:=by simp [hb]
      have FR:=sW (zero.cells.toList.map bx) (z+1) FO h.k
      have hle:(z+1)*h.k≤(z+1)*h.m:=Nat.mul_le_mul_left _ h3
      refine cI bZ ⟨_,rfl,pK,?_⟩
      simp only [Ku]
      refine .rep (eH (r:=⟨z+1,true,false,sX (zero.cells.toList.map bx) h.k⟩) (dm w _) (lO hs pK _ (.inr ⟨Nat.le_refl _,by simp⟩)) _ 0 (by rw [FR,wm];omega) FR h3 h5 _ (fun _=>rfl) (fun j u x hu hx=>?_))
      have h6:=wL _ (z+1) FO ah _ _ _ hx
      have h7:=bq j u (by simpa using hu)
      rw [List.getElem?_map] at h6
      have h8:zero.cells.toList[j%(z+1)]?=some u:=by simpa using h7
      rw [h8] at h6;injection h6 with h6;subst h6;exact fE u
     ·cases hr
    ·cases hr
   ·cases hr
  ·cases hr
 ·exact ur (kJ hr)
 ·rename_i c xs ts _ ho
  split at hr
  ·rename_i f x hc _
   split at hr
   ·rename_i hE _
    split at hr
    ·rename_i vs C hv vo
     cases hr
     refine wi ho hc hE (fun hC=>hC.1) ?_ fun hC S0 w0 n a w φ hs=>?_
     ·have key:∀(l:List AV) (m:List AV),jG s l=some m->m.length=l.length:=by
       intro l
       induction l with
       | nil=>intro m h;cases h;rfl
       | cons y l ih =>
        intro m h
        simp only [jG] at h
        split at h
        ·rename_i y' m' _ hm
         cases h
         simp [ih m' hm]
        ·cases h
      rw [key _ _ hv];simp
     ·exact ⟨fun b=>b<w.heap.size,fun _ h=>h,(lA hs _ _ hv).2,fun w' v O hg=>sM vo hC.2 hg⟩
    ·cases hr
   ·rename_i hE _
    split at hr
    ·rename_i vl
     cases hr
     refine wi ho hc hE (fun hC=>hC.1) (by simp) fun hC S0 w0 n a w φ hs=>⟨aJ S0 w φ [],fun b hb=>hb.1,fun j v x hv hx=>?_,fun w' v O hg=>hg⟩
     have MG:=lG vl hx
     rw [List.getElem?_map] at hv hx
     cases hj:xs.toList[j]? with
     | none=>rw [hj] at hv;cases hv
     | some y =>
      rw [hj] at hv hx
      injection hv with hv;injection hx with hx;subst hv;subst hx
      exact nE (hs.bj y) MG
    ·cases hr
   ·cases hr
  ·cases hr
 ·exact ur (kJ hr)
end
def nc (ds:List Nat):List (Nat×AV)->List (Nat×AV)
 | []=>[]
 | (i,x)::l=>match ds.any (Nat.beq i) with|true=>nc ds l|false=>(i,x)::nc ds l
theorem fG (ds:List Nat):∀(l:List (Nat×AV)) (i:Nat) (x:AV),look (nc ds l) i=some x->look l i=some x∧i ∉ ds
 | [],i,x,h=>by cases h
 | (k,y)::l,i,x,h=>by
  simp only [nc] at h
  have ih:=fG ds l i x
  split at h
  ·rename_i hk
   obtain ⟨h1,h2⟩:=ih h
   rw [aB]
   have cK:k≠i:=fun e=>by
    subst e
    obtain ⟨j,hj,hb⟩:=List.any_eq_true.1 hk
    have:=Nat.eq_of_beq_eq_true hb
    subst this
    exact h2 hj
   rw [if_neg cK];exact ⟨h1,h2⟩
  ·rename_i hk
   rw [aB] at h ⊢
   by_cases sg:k=i
   ·rw [if_pos sg] at h ⊢
    refine ⟨h,fun hm=>?_⟩
    have:ds.any (Nat.beq k)=true:=List.any_eq_true.2 ⟨i,hm,by rw [sg];exact Nat.beq_refl i⟩
    rw [hk] at this;cases this
   ·rw [if_neg sg] at h ⊢
    exact ih h
def jc (ops:List Oper) (gD:List AV):List Nat->List (Nat×AV)
 | []=>[]
 | d::l=>match ops[d]?,gD[d]? with
  | some p,some x=>(match p.dst with|some i=>(i,x)::jc ops gD l|none=>jc ops gD l)
  | _,_=>jc ops gD l
theorem nH (ops:List Oper) (gD:List AV):∀(l:List Nat) (i:Nat) (x:AV),look (jc ops gD l) i=some x-> ∃d p,d∈l∧ops[d]?=some p∧p.dst=some i∧gD[d]?=some x
 | [],i,x,h=>by cases h
 | d::l,i,x,h=>by
  simp only [jc] at h
  have ih:=nH ops gD l i x
  have step:look (jc ops gD l) i=some x-> ∃d' p,d'∈d::l∧ops[d']?=some p∧p.dst=some i∧gD[d']?=some x:=fun h=>by
   obtain ⟨d',p,h1,h2⟩:=ih h
   exact ⟨d',p,by simp [h1],h2⟩
  split at h
  ·rename_i p y hp hy
   split at h
   ·rename_i k hk
    rw [aB] at h
    by_cases e:k=i
    ·rw [if_pos e] at h;injection h with h;subst h;subst e
     exact ⟨d,p,by simp,hp,hk,hy⟩
    ·rw [if_neg e] at h;exact step h
   ·exact step h
  ·exact step h
def vt (s:AS) (ds:List Nat) (ops:List Oper) (gD:List AV) (o:Oper):AS:=⟨jc ops gD (ba o)++nc ds s.F,s.H⟩
def sk (P:Program) (ops:List Oper) (s:AS) (o:Oper) (h:Hint):Option (AV×List Prop) :=
 match o.guard with
 | none=>q6 P s o h
 | some (j,want)=>(match ops[j]? with
  | some p=>(match p.dst with
   | some d=>(match jI s d with
    | .val (.bool b)=>(match h.g == want with
     | true=>(match q6 P s o h with|some (x,C)=>some (x,(b=h.g)::C)|none=>none)
     | false=>some (.val (.tuple #[]),[b=h.g]))
    | .val (.tuple _)=>some (.val (.tuple #[]),[])
    | _=>none)
   | none=>none)
  | none=>none)
def sO (P:Program) (s:AS) (ds:List Nat) (ops:List Oper) (hs:List (Nat×Hint)):List Oper->Nat->List AV->Option (List AV×List Prop)
 | [],_,gD=>some (gD,[])
 | o::l,i,gD=>match sk P ops (vt s ds ops gD o) o (gl hs i) with
  | some (x,C)=>(match sO P s ds ops hs l (i+1) (gD++ [x]) with|some (iU,D)=>some (iU,C++D)|none=>none)
  | none=>none
def iX:List Oper->List AV->List (Nat×AV)
 | o::l,x::m=>(match o.dst with|some d=>(d,x)::iX l m|none=>iX l m)
 | _,_=>[]
def Cr (P:Program) (n T:Nat) (ops:List Oper) (hs:List (Nat×Hint)) (s:AS):Option (AS×List Prop) :=
 match P.follows .mixedOrders,lk ops.toArray n,og ops.toArray T with
 | true,true,true=>(match sO P s ((ops.take T).filterMap (·.dst)) ops hs (ops.take T) 0 [] with
  | some (gD,C)=>(match jS P n ops hs (ops.drop T) T ⟨iX (ops.take T) gD++nc ((ops.take T).filterMap (·.dst)) s.F,s.H⟩ with|some (s',D)=>some (s',C++D)|none=>none)
  | none=>none)
 | _,_,_=>none
section
variable {P:Program} {ops:List Oper} {S0:bf} {w0:World} {Q:Exit->Act->World->Prop}
theorem Ea {s:AS} {o:Oper} {h:Hint} {r:AV×List Prop} (hr:sk P ops s o h=some r) (hC:bu r.2) {n:Nat} {a b:Act} {w:World} {φ:Nat->Option Nat} (hs:aH S0 w0 n [] s a w φ) (hb:b.tmps=a.tmps) :
  gE P ops.toArray Q o b w fun v w'=>w.heap.size≤w'.heap.size∧Den (az s.H φ) (aJ S0 w' φ []) w' v r.1:=by
 unfold sk at hr
 unfold gE
 split at hr
 ·rename_i hg
  have hw:Region.wanted o (yielded ops.toArray b.tmps)=true:=by unfold Region.wanted;rw [hg]
  rw [if_pos hw]
  exact Oper.wp_mono (fun b' w' ⟨v,h1,h2,h3⟩=>⟨v,h1,h2,h2.size,h3⟩) (wA hr hC S0 w0 n a w φ Q b hs hb)
 ·rename_i j want hg
  split at hr
  ·rename_i p hp
   split at hr
   ·rename_i d hd
    split at hr
    ·rename_i bb qR
     have ht:=hs.get d
     rw [qR] at ht
     have hy:=lX (ops:=ops) hp hd (pY ht)
     rw [←hb] at hy
     split at hr
     ·rename_i jP
      split at hr
      ·rename_i x C he
       cases hr
       obtain ⟨Aj,hC⟩:=hC
       have hw:Region.wanted o (yielded ops.toArray b.tmps)=true:=by
        unfold Region.wanted;rw [hg];simp only [hy,Aj]
        have:h.g=want:=by simpa using jP
        rw [this];simp
       rw [if_pos hw]
       exact Oper.wp_mono (fun b' w' ⟨v,h1,h2,h3⟩=>⟨v,h1,h2,h2.size,h3⟩) (wA he hC S0 w0 n a w φ Q b hs hb)
      ·cases hr
     ·rename_i jP
      cases hr
      obtain ⟨Aj,-⟩:=hC
      have hw:¬Region.wanted o (yielded ops.toArray b.tmps)=true:=by
       unfold Region.wanted;rw [hg];simp only [hy,Aj]
       have:¬h.g=want:=by simpa using jP
       simpa using this
      rw [if_neg hw]
      exact ⟨Nat.le_refl _,.rep (.val _)⟩
    ·rename_i arr qR
     have ht:=hs.get d
     rw [qR] at ht
     have hy:=lW (ops:=ops) hp hd (bE ht)
     rw [←hb] at hy
     cases hr
     have hw:¬Region.wanted o (yielded ops.toArray b.tmps)=true:=by
      unfold Region.wanted;rw [hg];simp [hy]
     rw [if_neg hw]
     exact ⟨Nat.le_refl _,.rep (.val _)⟩
    ·cases hr
   ·cases hr
  ·cases hr
theorem uK {s:AS} {ds:List Nat} {hs:List (Nat×Hint)}:∀(l:List Oper) (i:Nat) (gD iU:List AV) (C:List Prop),sO P s ds ops hs l i gD=some (iU,C)->bu C->gD.length=i ->
  iU.length=i+l.length∧iU.take i=gD∧ ∀(j:Nat) (o:Oper),l[j]?=some o-> ∃x D,iU[i+j]?=some x∧sk P ops (vt s ds ops (iU.take (i+j)) o) o (gl hs (i+j))=some (x,D)∧bu D
 | [],i,gD,iU,C,he,hC,hl=>by
  cases he
  exact ⟨by simp [hl],by rw [←hl,List.take_length],fun j o h=>by simp at h⟩
 | o::l,i,gD,iU,C,he,hC,hl=>by
  simp only [sO] at he
  split at he
  ·rename_i x C1 h1
   split at he
   ·rename_i SA D h2
    cases he
    obtain ⟨iz,hD⟩:=bM.1 hC
    obtain ⟨e1,e2,e3⟩:=uK l (i+1) (gD++ [x]) iU D h2 hD (by simp [hl])
    have e4:iU.take i=gD:=by
     have:=congrArg (List.take i) e2
     rw [List.take_take,Nat.min_eq_left ah,←hl,List.take_left] at this
     rw [←hl];exact this
    have e5:iU[i]?=some x:=by
     have h3:(iU.take (i+1))[i]?=some x:=by rw [e2,List.getElem?_append_right ah,hl];simp
     exact bT _ _ _ _ h3
    refine ⟨by rw [e1,List.length_cons];omega,e4,fun j p hp=>?_⟩
    cases j with
    | zero =>
     simp at hp;subst hp
     exact ⟨x,C1,by simpa using e5,by simp only [Nat.add_zero];rw [e4];exact h1,iz⟩
    | succ j =>
     obtain ⟨y,D',h5,h6,h7⟩:=e3 j p (by simpa using hp)
     rw [show i+1+j=i+(j+1) by omega] at h5 h6
     exact ⟨y,D',h5,h6,h7⟩
   ·cases he
  ·cases he
theorem kC:∀(l:List Oper) (m:List AV) (i:Nat) (x:AV),look (iX l m) i=some x-> ∃(k:Nat) (o:Oper),l[k]?=some o∧o.dst=some i∧m[k]?=some x
 | [],m,i,x,h=>by simp [iX,look] at h
 | o::l,[],i,x,h=>by simp [iX,look] at h
 | o::l,y::m,i,x,h=>by
  simp only [iX] at h
  have step:look (iX l m) i=some x-> ∃(k:Nat) (p:Oper),(o::l)[k]?=some p∧p.dst=some i∧(y::m)[k]?=some x:=fun h=>by
   obtain ⟨k,p,h1,h2,h3⟩:=kC l m i x h
   exact ⟨k+1,p,by simpa using h1,h2,by simpa using h3⟩
  split at h
  ·rename_i d hd
   rw [aB] at h
   by_cases e:d=i
   ·rw [if_pos e] at h;injection h with h;subst h;subst e
    exact ⟨0,o,rfl,hd,rfl⟩
   ·rw [if_neg e] at h;exact step h
  ·exact step h
theorem lJ (ops:List Oper) (T:Nat) (p:Oper×Nat):p∈ops.zipIdx.take T↔(p.2<T∧ops[p.2]?=some p.1):=by
 rw [List.mem_iff_getElem?]
 constructor
 ·rintro ⟨x,hx⟩
  rw [List.getElem?_take] at hx
  split at hx
  ·rename_i z7
   rw [List.getElem?_zipIdx] at hx
   cases ho:ops[x]? with
   | none=>rw [ho] at hx;simp at hx
   | some q=>rw [ho] at hx;simp at hx;subst hx;exact ⟨by simpa using z7,by simpa using ho⟩
  ·cases hx
 ·rintro ⟨h1,h2⟩
  refine ⟨p.2,?_⟩
  rw [List.getElem?_take,if_pos h1,List.getElem?_zipIdx,h2];simp
theorem kf (ops:List Oper) (T i:Nat):i ∉ (ops.take T).filterMap (·.dst)↔ ∀(j:Nat) (p:Oper),j<T->ops[j]?=some p->p.dst≠some i:=by
 constructor
 ·intro h j p hj hp hd
  refine h (List.mem_filterMap.2 ⟨p,?_,hd⟩)
  exact List.mem_of_getElem? (i:=j) (by rw [List.getElem?_take,if_pos hj];exact hp)
 ·intro h hm
  obtain ⟨p,hp,hd⟩:=List.mem_filterMap.1 hm
  obtain ⟨j,hj⟩:=List.getElem?_of_mem hp
  rw [List.getElem?_take] at hj
  split at hj
  ·rename_i Qy;exact h j p Qy hj hd
  ·cases hj
theorem Ft {n T:Nat} {hs:List (Nat×Hint)} {s s':AS} {C:List Prop} (he:Cr P n T ops hs s=some (s',C)) (hC:bu C) {a:Act} {w:World} (fS:ib S0 w0 n s a w) (hQ:∀a' w',ib S0 w0 n s' a' w'->Q .normal a' w'):P.follows .mixedOrders=true∧wpAny P .any ops.toArray Q ops.toArray.size (Array.replicate ops.toArray.size false) a {w with drawn:=w.drawn+1}:=by
 unfold Cr at he
 split at he
 ·rename_i hm hB hT
  split at he
  ·rename_i gD C1 B0
   split at he
   ·rename_i s2 D ot
    cases he
    obtain ⟨iz,hD⟩:=bM.1 hC
    obtain ⟨φ,lr⟩:=fS
    have gI:aH S0 w0 n [] s a w.drew φ:=lr.grow ((Below.refl _ _).drew)
    obtain ⟨hlen,-,ix⟩:=uK _ 0 [] gD C1 B0 iz rfl
    simp only [Nat.zero_add] at hlen ix
    obtain ⟨cW,g_,u9⟩:=fI hB
    unfold og at hT
    simp only [Bool.and_eq_true,decide_eq_true_eq] at hT
    obtain ⟨⟨⟨FX,KL⟩,KK⟩,KJ⟩:=hT
    have R5:T<ops.length:=by simpa using FX
    have R4:gD.length=T:=by rw [hlen,List.length_take];omega
    let F:Nat->Value->World->Prop:=fun k v w'=>w.heap.size≤w'.heap.size∧ ∀x,gD[k]?=some x->Den (az s.H φ) (aJ S0 w' φ []) w' v x
    have uk:∀k v w1 w2,Below w1.heap.size w1 w2->F k v w1->F k v w2:=by
     intro k v w1 w2 hb ⟨h1,h2⟩
     refine ⟨Nat.le_trans h1 hb.size,fun x hx=>(h2 x hx).mono (fun _ _ h=>h) (fun b hS=>⟨⟨by have:=hS.1;have:=hb.size;omega,hS.2⟩,hb.block b hS.1⟩) (fun id e m g hi=>?_)⟩
     obtain ⟨r,-,-,-,bY⟩:=aL hi
     have:=(lr.cL id g bY).2
     unfold aS;rw [hb.block g ah]
    refine ⟨hm,Bb FX KL KK KJ lr.jF hB F uk ?_ ?_ ops.toArray.size _ a _ ⟨(Below.refl _ _).drew,by simp,?_,rfl,rfl,?_,?_,fun _ _=>rfl⟩ (fun j _=>by simp only [List.size_toArray];exact getD_replicate_false _ _) (by simp)⟩
    ·
     intro k o vm ho a' w' hb iY fb
     have qN:ops[k]?=some o:=by simpa using ho
     obtain ⟨x,Dk,hx,dF,QE⟩:=ix k o (by rw [List.getElem?_take,if_pos vm];exact qN)
     have kE:Below w.heap.size w w':=hb
     have hg:=lr.grow kE
     have Jq:aH S0 w0 a'.tmps.size [] (vt s ((ops.take T).filterMap (·.dst)) ops (gD.take k) o) ⟨a'.tmps,S0.rV⟩ w' φ:=by
      refine ⟨rfl,rfl,hg.cM,fun i av hi=>?_,hg.rows,hg.only,hg.inj,hg.cL,hg.apart,hg.new⟩
      show Den (az s.H φ) _ _ _ _
      unfold vt at hi
      rw [bI] at hi
      cases H3:look (jc ops (gD.take k) (ba o)) i with
      | some y =>
       rw [H3] at hi
       simp at hi;subst hi
       obtain ⟨d,p,h1,h2,h3,h4⟩:=nH _ _ _ _ _ H3
       rcases iY d h1 with hF|⟨q,hq,hn⟩
       ·have jB:rA ops.toArray a' d=a'.tmps.getD i undef:=by
         unfold rA
         have:(ops.toArray[d]?).bind (·.dst)=some i:=by simp [h2,h3]
         rw [this]
        rw [jB] at hF
        exact hF.2 y (bT _ _ _ _ h4)
       ·have gB:ops[d]?=some q:=by simpa using hq
        rw [h2] at gB;injection gB with gB;subst gB
        rw [h3] at hn;cases hn
      | none =>
       rw [H3] at hi
       simp at hi
       obtain ⟨h1,h2⟩:=fG _ _ _ _ hi
       have hk:=fb i (fun j p hj hp=>(kf ops T i).1 h2 j p hj (by simpa using hp))
       have oP:a'.tmps.getD i undef=a.tmps.getD i undef:=hk
       show Den _ _ _ (a'.tmps.getD i undef) av
       rw [oP]
       exact hg.ct i av h1
     have:=Ea (Q:=Q) (ops:=ops) dF QE Jq (b:=a') rfl
     unfold gE at this ⊢
     split
     ·rename_i hw
      rw [if_pos hw] at this
      exact Oper.wp_mono (fun b' w2 ⟨v,h1,h2,h3,h4⟩=>⟨v,h1,h2,Nat.le_trans kE.size h3,fun y hy=>by rw [hx] at hy;injection hy with hy;subst hy;exact h4⟩) this
     ·rename_i hw
      rw [if_neg hw] at this
      exact ⟨kE.size,fun y hy=>by rw [hx] at hy;injection hy with hy;subst hy;exact this.2⟩
    ·
     intro vs w' hb xr
     have kE:Below w.heap.size w w':=hb
     have hg:=lr.grow kE
     have jC:=jx vs (ops.zipIdx.take T) a (by
      have h1:(ops.zipIdx.take T).filterMap (·.1.dst)=(ops.take T).filterMap (·.dst):=by
       conv=>rhs;rw [←List.zipIdx_map_fst 0 ops,←List.map_take]
       rw [List.filterMap_map];rfl
      rw [h1]
      exact List.Nodup.sublist ((List.take_sublist T ops).filterMap _) (by simpa using g_))
     show wpList P ops.toArray Q (ops.drop T) (dX (ops.zipIdx.take T) vs a) w'
     refine jD (S0:=S0) (w0:=w0) _ _ _ _ _ ot hD _ _ ⟨φ,?_⟩ hQ
     refine ⟨jC.1.trans lr.jF,jC.2.1.trans lr.jJ,hg.cM,fun i av hi=>?_,hg.rows,hg.only,hg.inj,hg.cL,hg.apart,hg.new⟩
     show Den (az s.H φ) _ _ _ _
     rw [bI] at hi
     cases hh:look (iX (ops.take T) gD) i with
     | some y =>
      rw [hh] at hi
      simp at hi;subst hi
      obtain ⟨k,o,h1,h2,h3⟩:=kC _ _ _ _ hh
      have vm:k<T:=by have:=(List.getElem?_eq_some_iff.1 h3).1;omega
      have ho:ops[k]?=some o:=bT _ _ _ _ h1
      have hv:=jC.2.2.1 (o,k) ((lJ ops T _).2 ⟨vm,ho⟩) i h2 (by rw [lr.jF];exact u9 k o i (by simpa using ho) h2)
      have:(dX (ops.zipIdx.take T) vs a).tmps.getD i undef=vs k:=by
       simp [hv]
      rw [this]
      exact (xr k vm).2 y h3
     | none =>
      rw [hh] at hi
      simp at hi
      obtain ⟨h1,h2⟩:=fG _ _ _ _ hi
      have hv:=jC.2.2.2 i (fun p hp hd=>(kf ops T i).1 h2 p.2 p.1 ((lJ ops T p).1 hp).1 ((lJ ops T p).1 hp).2 hd)
      have:(dX (ops.zipIdx.take T) vs a).tmps.getD i undef=a.tmps.getD i undef:=by
       simp [hv]
      rw [this]
      exact hg.ct i av h1
    ·intro k o hk;rw [getD_replicate_false] at hk;cases hk
    ·intro k o s hk;rw [getD_replicate_false] at hk;cases hk
    ·intro k o hk;rw [getD_replicate_false] at hk;cases hk
   ·cases he
  ·cases he
 ·cases he
end
def bN (s s':AS):Prop:=∀S0 w0 n a w,ib S0 w0 n s a w->ib S0 w0 n s' a w
def Bg (P:Program):Code->(Exit->Act->World->Prop)->Act->World->Prop
 | .skip,Q,a,w=>Q .normal a w
 | .region _ ops false,Q,a,w=>wpList P ops Q ops.toList a w
 | .region _ ops true,Q,a,w=>P.follows .mixedOrders=true∧wpAny P .any ops Q ops.size (Array.replicate ops.size false) a {w with drawn:=w.drawn+1}
 | .seq x y,Q,a,w=>Bg P x (Exit.then (Bg P y Q) Q) a w
 | .cond c x y,Q,a,w=>∃t:Bool,a.eval c= .bool t∧(t=true->Bg P x Q a w)∧(t=false->Bg P y Q a w)
 | .block id c,Q,a,w=>Bg P c (Exit.inBlock id Q) a w
 | .loop c,Q,a,w=>∃(J:Nat->Act->World->Prop) (k0:Nat),J k0 a w∧ ∀k a w,J k a w->Bg P c (Exit.then (fun a' w'=>∃k',k'<k∧J k' a' w') Q) a w
 | .exit id,Q,a,w=>Q (.exit id) a w
 | .ret,Q,a,w=>Q .ret a w
 | .rangeFunc g ps x b,Q,a,w=>(Code.rangeFunc g ps x b).wp P Q a w
 | _,_,_,_=>False
section
variable {P:Program} {Q Q':Exit->Act->World->Prop}
theorem me (hQ:∀e a w,Q e a w->Q' e a w) (h:LetsOut Q):LetsOut Q':=let ⟨a,w,h⟩:=h;⟨a,w,hQ _ _ _ h⟩
theorem vZ {o:Oper} {a:Act} {w:World} {K K':Act->World->Prop} (hK:∀a w,K a w->K' a w) (hQ:∀e a w,Q e a w->Q' e a w) (hh:o.wp P a w K Q):o.wp P a w K' Q':=by
 unfold Oper.wp at *
 generalize (execOp a.eval o).run P w=r at *
 cases r with
 | ok n w' =>
  cases n<;>simp only [Oper.upon] at hh ⊢ <;>
   first
    | exact hK _ _ hh
    | exact Calls.mono hh (fun e fa he=>by cases e<;>first|exact hK _ _ he|exact hQ _ _ _ he|exact me hQ he)
    | exact Rows.mono hh (fun _ _ he=>hK _ _ he)
 | halt x w'=>cases x<;>simp only [Oper.upon] at hh ⊢ <;>first|exact hQ _ _ _ hh|exact hh
theorem jU {ops:Array Oper} (hQ:∀e a w,Q e a w->Q' e a w):∀(l:List Oper) (a:Act) (w:World),wpList P ops Q l a w->wpList P ops Q' l a w
 | [],a,w,h=>hQ _ _ _ h
 | o::l,a,w,h=>by
  unfold wpList at h ⊢
  split at h
  ·rename_i hw
   rw [if_pos hw]
   exact h.imp (vZ (jU hQ l) hQ) fun ⟨h1,h2⟩=>⟨h1,me hQ h2⟩
  ·rename_i hw
   rw [if_neg hw]
   exact jU hQ l _ _ h
theorem Ba {ops:Array Oper} {i:Nat} {a:Act} {w:World} {K K':Act->World->Prop} (hK:∀a w,K a w->K' a w) (hQ:∀e a w,Q e a w->Q' e a w) (hh:wpOp P ops Q i K a w):wpOp P ops Q' i K' a w:=by
 unfold wpOp at *
 split
 ·exact hK _ _ (by simpa [*] using hh)
 ·rename_i o ho
  simp only [ho] at hh
  split
  ·rename_i hw;simp only [hw,if_true] at hh;exact hh.imp (vZ hK hQ) fun ⟨h1,h2⟩=>⟨h1,me hQ h2⟩
  ·rename_i hw;simp only [hw] at hh;exact hK _ _ hh
theorem rz {md:Region.Mode} {ops:Array Oper} (hQ:∀e a w,Q e a w->Q' e a w):∀(fuel:Nat) (listed:Array Bool) (a:Act) (w:World),wpAny P md ops Q fuel listed a w->wpAny P md ops Q' fuel listed a w
 | 0,_,_,_,h=>⟨h.1,hQ _ _ _ h.2⟩
 | fuel+1,listed,a,w,h=>⟨fun h0=>hQ _ _ _ (h.1 h0),fun i hi=>Ba (rz hQ fuel _) hQ (h.2 i hi)⟩
theorem lD {K K':Act->World->Prop} (hK:∀a w,K a w->K' a w) (hQ:∀e a w,Q e a w->Q' e a w) (e:Exit) (a:Act) (w:World) (h:Exit.then K Q e a w):Exit.then K' Q' e a w:=by
 cases e<;>first|exact hK _ _ h|exact hQ _ _ _ h
theorem xm {id:Nat} (hQ:∀e a w,Q e a w->Q' e a w) (e:Exit) (a:Act) (w:World) (h:Exit.inBlock id Q e a w):Exit.inBlock id Q' e a w:=by
 cases e with
 | exit i =>
  simp only [Exit.inBlock] at h ⊢
  split
  ·rename_i hi;rw [if_pos hi] at h;exact hQ _ _ _ h
  ·rename_i hi;rw [if_neg hi] at h;exact hQ _ _ _ h
 | _=>exact hQ _ _ _ h
theorem dH:∀(c:Code) (Q Q':Exit->Act->World->Prop),(∀e a w,Q e a w->Q' e a w)-> ∀(a:Act) (w:World),Bg P c Q a w->Bg P c Q' a w
 | .skip,_,_,hQ,a,w,h=>hQ _ _ _ h
 | .region _ ops false,_,_,hQ,a,w,h=>jU hQ _ _ _ h
 | .region _ ops true,_,_,hQ,a,w,h=>⟨h.1,rz hQ _ _ _ _ h.2⟩
 | .seq x y,_,_,hQ,a,w,h=>dH x _ _ (lD (dH y _ _ hQ) hQ) a w h
 | .cond c x y,_,_,hQ,a,w,⟨t,h1,h2,h3⟩=>⟨t,h1,fun e=>dH x _ _ hQ a w (h2 e),fun e=>dH y _ _ hQ a w (h3 e)⟩
 | .block id c,_,_,hQ,a,w,h=>dH c _ _ (xm hQ) a w h
 | .loop c,_,_,hQ,a,w,⟨J,k0,h0,h⟩=>⟨J,k0,h0,fun k a w hJ=>dH c _ _ (lD (fun _ _ h=>h) hQ) a w (h k a w hJ)⟩
 | .exit id,_,_,hQ,a,w,h=>hQ _ _ _ h
 | .ret,_,_,hQ,a,w,h=>hQ _ _ _ h
 | .rangeFunc g ps x b,_,_,hQ,a,w,h=>wp_mono h hQ
 | .scope _,_,_,_,_,_,h=>h.elim
 | .label _,_,_,_,_,_,h=>h.elim
 | .goto _,_,_,_,_,_,h=>h.elim
 | .refuse _,_,_,_,_,_,h=>h.elim
end
theorem DG {P:Program} {c:Code} {Q:Exit->Act->World->Prop} {a:Act} {w:World} (J:Nat->Act->World->Prop) (k0:Nat) (h0:J k0 a w)
  (round:∀k a w,J k a w->c.wp P (Exit.then (fun a' w'=>∃k',k'<k∧J k' a' w') Q) a w):(Code.loop c).wp P Q a w:=by
 intro b k cs
 have key:∀n a w,J n a w-> ∃e a' w',Q e a' w'∧Arrives P (lone (b.at a (.code c:: .inLoop c::k)) cs w) b k cs e a' w':=by
  intro n
  induction n using Nat.strongRecOn with
  | _ n ih =>
   intro a w hJ
   obtain ⟨e,FI,Eo,hq,sj⟩:=round n a w hJ b (.inLoop c::k) cs
   cases e with
   | normal =>
    obtain ⟨k',cW,M8⟩:=hq
    obtain ⟨Sr,Sz,QQ,Pb,KH⟩:=ih k' cW FI Eo M8
    exact ⟨Sr,Sz,QQ,Pb,.of_steps (Steps.trans sj (.one step_inLoop)) KH⟩
   | exit id=>exact ⟨_,FI,Eo,hq,.pass (x:=.inLoop c) rfl (fun _ _=>.inl (by simp)) sj⟩
   | goto l=>exact ⟨_,FI,Eo,hq,.pass (x:=.inLoop c) rfl (fun _ _=>.inl (by simp)) sj⟩
   | ret=>exact ⟨_,FI,Eo,hq,.pass (x:=.inLoop c) rfl (fun _ _=>.inl (by simp)) sj⟩
   | panic ch=>exact ⟨_,FI,Eo,hq,.pass (x:=.inLoop c) rfl (fun _ _=>.inl (by simp)) sj⟩
   | outgrown=>exact ⟨_,FI,Eo,hq,.pass (x:=.inLoop c) rfl (fun _ _=>.inl (by simp)) sj⟩
 obtain ⟨e,a',w',hq,sj⟩:=key k0 a w h0
 exact ⟨e,a',w',hq,.of_steps (.one step_loop) sj⟩
theorem kq {P:Program}:∀(c:Code) (Q:Exit->Act->World->Prop) (a:Act) (w:World),Bg P c Q a w->c.wp P Q a w
 | .skip,_,a,w,h=>wp_skip h
 | .region _ ops false,_,a,w,h=>wp_region_list h
 | .region _ ops true,_,a,w,h=>wp_region_any h.1 h.2
 | .seq x y,Q,a,w,h=>wp_seq (kq x _ a w (dH x _ _ (lD (kq y Q) fun _ _ _ h=>h) a w h))
 | .cond c x y,Q,a,w,⟨t,h1,h2,h3⟩=>wp_cond_split h1 (fun e=>kq x Q a w (h2 e)) (fun e=>kq y Q a w (h3 e))
 | .block id c,_,a,w,h=>wp_block (kq c _ a w h)
 | .loop c,_,a,w,⟨J,k0,h0,h⟩=>DG J k0 h0 fun k a w hJ=>kq c _ a w (h k a w hJ)
 | .exit id,_,a,w,h=>wp_exit h
 | .ret,_,a,w,h=>wp_ret h
 | .rangeFunc g ps x b,_,a,w,h=>h
 | .scope _,_,_,_,h=>h.elim
 | .label _,_,_,_,h=>h.elim
 | .goto _,_,_,_,h=>h.elim
 | .refuse _,_,_,_,h=>h.elim
def mark (r:Nat):Deferred:={target:=.collected r,args:= #[]}
structure kS (S0:bf) (w0:World) (S1:bf) (w1:World) (ms:List Nat):Prop where
 kept:Kept S0 w0 w1
 sub:∀b,S1.S b->S0.S b
 X:∀b,S1.X b->w0.heap.size≤b∨S0.X b
 fix:S1.fix=S0.fix
 rV:S1.rV=ms.map mark++S0.rV
 nodup:ms.Nodup
 marks:∀r∈ms,w0.heap.size≤r∧r<w1.heap.size∧w1.heap[r]?=some (.deferred (some []))∧ ¬S1.S r∧ ¬S1.X r
theorem kS.refl {S0:bf} {w0 w:World} (h:Kept S0 w0 w):kS S0 w0 S0 w0 []:=⟨⟨rfl,rfl,rfl,Nat.le_refl _,fun _ _ _=>rfl,h.g0,h.gx⟩,fun _ h=>h,fun _ h=>.inr h,rfl,rfl,List.nodup_nil,fun _ h=>by cases h⟩
theorem Kept.trans {S0 S1:bf} {w0 w1 w2:World} (h:Kept S0 w0 w1) (k:Kept S1 w1 w2) (hX:∀b,S1.X b->w0.heap.size≤b∨S0.X b):Kept S0 w0 w2 :=
 ⟨k.os.trans h.os,k.tape.trans h.tape,k.output.trans h.output,Nat.le_trans h.size k.size,fun b hb hx=>(k.block b (Nat.lt_of_lt_of_le hb h.size) fun Q_=>(hX b Q_).elim (fun h=>ah) hx).trans (h.block b hb hx),h.g0,h.gx⟩
theorem kS.trans {S0 S1 S2:bf} {w0 w1 w2:World} {ms Qd:List Nat} (h:kS S0 w0 S1 w1 ms) (k:kS S1 w1 S2 w2 Qd):kS S0 w0 S2 w2 (Qd++ms) where
 kept:=h.kept.trans k.kept h.X
 sub:=fun b hb=>h.sub b (k.sub b hb)
 X:=fun b hb=>(k.X b hb).elim (fun hb=>.inl (Nat.le_trans h.kept.size hb)) fun hb=>h.X b hb
 fix:=k.fix.trans h.fix
 rV:=by rw [k.rV,h.rV,List.map_append,List.append_assoc]
 nodup:=by
  rw [List.nodup_append]
  refine ⟨k.nodup,h.nodup,fun a ha b hb e=>?_⟩
  subst e
  have:=(k.marks a ha).1
  have:=(h.marks a hb).2.1
  omega
 marks:=fun r hr=>by
  rcases List.mem_append.1 hr with hr|hr
  ·obtain ⟨h1,h2⟩:=k.marks r hr
   exact ⟨Nat.le_trans h.kept.size h1,h2⟩
  ·obtain ⟨h1,h2,h3,h4,h5⟩:=h.marks r hr
   exact ⟨h1,Nat.lt_of_lt_of_le h2 k.kept.size,(k.kept.block r h2 h5).trans h3,fun hs=>h4 (k.sub r hs),fun hx=>(k.X r hx).elim (fun h=>ah) h5⟩
def mL (S0:bf) (w0:World) (n:Nat) (s:AS) (a:Act) (w:World):Prop:=∃S1 w1 ms,kS S0 w0 S1 w1 ms∧ib S1 w1 n s a w
theorem ib.one {S0:bf} {w0:World} {n:Nat} {s:AS} {a:Act} {w:World} (h:ib S0 w0 n s a w):mL S0 w0 n s a w:=⟨S0,w0,[],kS.refl h.choose_spec.cM,h⟩
theorem mL.after {S0 S1:bf} {w0 w1:World} {ms:List Nat} {n:Nat} {s:AS} {a:Act} {w:World} (he:kS S0 w0 S1 w1 ms) (h:mL S1 w1 n s a w):mL S0 w0 n s a w :=
 let ⟨S2,w2,_,h1,h2⟩:=h;⟨S2,w2,_,he.trans h1,h2⟩
def a7 (P:Program) (n:Nat) (c:Code) (Q:Exit->AS->Prop) (s:AS):Prop :=
 ∀S0 w0 a w,ib S0 w0 n s a w->Bg P c (fun e a' w'=>∃s',Q e s'∧mL S0 w0 n s' a' w') a w
theorem a7.TK {P:Program} {n:Nat} {c:Code} {Q:Exit->AS->Prop} {s:AS} (h:a7 P n c Q s) {S0:bf} {w0:World} {a:Act} {w:World} (hs:mL S0 w0 n s a w):Bg P c (fun e a' w'=>∃s',Q e s'∧mL S0 w0 n s' a' w') a w:=by
 obtain ⟨S1,w1,ms,h1,h2⟩:=hs
 exact dH _ _ _ (fun e a' w' ⟨s',hq,bU⟩=>⟨s',hq,bU.after h1⟩) _ _ (h S1 w1 a w h2)
def rv (K:AS->Prop) (Q:Exit->AS->Prop):Exit->AS->Prop
 | .normal,s=>K s
 | e,s=>Q e s
def NL (id:Nat) (Q:Exit->AS->Prop):Exit->AS->Prop
 | .exit oM,s=>if oM=id then Q .normal s else Q (.exit oM) s
 | e,s=>Q e s
def hU:Code->Code
 | .seq a _=>a
 | c=>c
def dk:Code->Code
 | .seq _ b=>b
 | c=>c
def oe:Code->Code
 | .cond _ a _=>a
 | c=>c
def ou:Code->Code
 | .cond _ _ b=>b
 | c=>c
def fc:Code->Code
 | .block _ b=>b
 | .loop b=>b
 | .scope b=>b
 | c=>c
def zY:Code->Bool
 | .seq _ _=>true
 | _=>false
def kX:Code->Option Operand
 | .cond x _ _=>some x
 | _=>none
def I8:Code->Option Nat
 | .block id _=>some id
 | _=>none
def Hu:Code->Bool
 | .loop _=>true
 | _=>false
def LO:Code->Option Nat
 | .exit id=>some id
 | _=>none
def Ht:Code->Bool
 | .ret=>true
 | _=>false
def BQ:Code->Bool
 | .skip=>true
 | _=>false
section
variable {P:Program} {n:Nat} {c:Code} {Q:Exit->AS->Prop} {s:AS}
theorem a7.seq (hc:zY c=true) (h:a7 P n (hU c) (rv (a7 P n (dk c) Q) Q) s):a7 P n c Q s:=by
 cases c with
 | seq x y =>
  intro S0 w0 a w hs
  refine dH x _ _ (fun e a' w' ⟨s',hq,bU⟩=>?_) a w (h S0 w0 a w hs)
  cases e with
  | normal=>exact a7.TK hq bU
  | _=>exact ⟨s',hq,bU⟩
 | _=>cases hc
theorem a7.cond {x:Operand} {b:Bool} (hc:kX c=some x) (hx:bj s x= .val (.bool b)) (ht:b=true->a7 P n (oe c) Q s) (hf:b=false->a7 P n (ou c) Q s):a7 P n c Q s:=by
 cases c with
 | cond y p q =>
  cases hc
  intro S0 w0 a w hs
  have hv:a.eval x= .bool b:=by
   obtain ⟨φ,bU⟩:=hs
   exact bE (hx ▸ bU.bj x)
  exact ⟨b,hv,fun e=>ht e S0 w0 a w hs,fun e=>hf e S0 w0 a w hs⟩
 | _=>cases hc
theorem a7.block {id:Nat} (hc:I8 c=some id) (h:a7 P n (fc c) (NL id Q) s):a7 P n c Q s:=by
 cases c with
 | block oM b =>
  cases hc
  intro S0 w0 a w hs
  refine dH b _ _ (fun e a' w' ⟨s',hq,bU⟩=>?_) a w (h S0 w0 a w hs)
  cases e with
  | exit i =>
   simp only [NL] at hq
   simp only [Exit.inBlock]
   split
   ·rename_i hi;rw [if_pos hi] at hq;exact ⟨s',hq,bU⟩
   ·rename_i hi;rw [if_neg hi] at hq;exact ⟨s',hq,bU⟩
  | _=>exact ⟨s',hq,bU⟩
 | _=>cases hc
theorem a7.exit {id:Nat} (hc:LO c=some id) (h:Q (.exit id) s):a7 P n c Q s:=by
 cases c with
 | exit i=>cases hc;intro S0 w0 a w hs;exact ⟨s,h,hs.one⟩
 | _=>cases hc
theorem a7.ret (hc:Ht c=true) (h:Q .ret s):a7 P n c Q s:=by
 cases c with
 | ret=>intro S0 w0 a w hs;exact ⟨s,h,hs.one⟩
 | _=>cases hc
theorem a7.skip (hc:BQ c=true) (h:Q .normal s):a7 P n c Q s:=by
 cases c with
 | skip=>intro S0 w0 a w hs;exact ⟨s,h,hs.one⟩
 | _=>cases hc
theorem a7.ow {s':AS} (hw:bN s s') (h:a7 P n c Q s'):a7 P n c Q s:=fun S0 w0 a w hs=>h S0 w0 a w (hw S0 w0 n a w hs)
theorem a7.mono {Q':Exit->AS->Prop} (h:a7 P n c Q s) (hq:∀e s,Q e s->Q' e s):a7 P n c Q' s:=fun S0 w0 a w hs=>dH c _ _ (fun e _ _ ⟨s',h1,h2⟩=>⟨s',hq e s' h1,h2⟩) a w (h S0 w0 a w hs)
def Round {ι:Type} (I:ι->AS) (Inv:ι->Prop) (m:ι->Nat) (Q:Exit->AS->Prop) (x:ι):Exit->AS->Prop:=rv (fun s'=>∃y,Inv y∧m y<m x∧bN s' (I y)) Q
theorem a7.loop {ι:Type} (I:ι->AS) (Inv:ι->Prop) (m:ι->Nat) (hc:Hu c=true) (x0:ι) (h0:Inv x0) (hw:bN s (I x0)) (h:∀x,Inv x->a7 P n (fc c) (Round I Inv m Q x) (I x)):a7 P n c Q s:=by
 cases c with
 | loop b =>
  intro S0 w0 a w hs
  refine ⟨fun k a w=>∃x,Inv x∧m x=k∧mL S0 w0 n (I x) a w,m x0,⟨x0,h0,rfl,(hw S0 w0 n a w hs).one⟩,?_⟩
  rintro k a w ⟨x,hx,rfl,hs⟩
  refine dH b _ _ (fun e a' w' ⟨s',hq,bU⟩=>?_) a w (a7.TK (h x hx) hs)
  cases e with
  | normal =>
   obtain ⟨y,hy,cW,T7⟩:=hq
   obtain ⟨S1,w1,ms,h1,h2⟩:=bU
   exact ⟨m y,cW,y,hy,rfl,S1,w1,ms,h1,T7 S1 w1 n a' w' h2⟩
  | _=>exact ⟨s',hq,bU⟩
 | _=>cases hc
end
structure oY where
 hs:List (Nat×Hint):=[]
 T:Nat:=0
def rS (P:Program) (n:Nat) (c:Code) (x:oY) (s:AS):Option (AS×List Prop) :=
 match c with
 | .region _ ⟨l⟩ false=>jS P n l x.hs l 0 s
 | .region _ ⟨l⟩ true=>Cr P n x.T l x.hs s
 | _=>none
def kI (P:Program) (n:Nat):List oY->Code->AS->Option (AS×List Prop)
 | [],_,s=>some (s,[])
 | x::l,c,s=>match zY c with
  | true=>(match rS P n (hU c) x s with
   | some (s1,C)=>(match kI P n l (dk c) s1 with|some (s2,D)=>some (s2,C++D)|none=>none)
   | none=>none)
  | false=>none
def pW:Nat->Code->Code
 | 0,c=>c
 | k+1,c=>pW k (dk c)
section
variable {P:Program} {n:Nat} {c:Code} {Q:Exit->AS->Prop} {s s':AS} {C:List Prop}
theorem AF {x:oY} (he:rS P n c x s=some (s',C)) (hC:bu C) (h:Q .normal s'):a7 P n c Q s:=by
 intro S0 w0 a w hs
 unfold rS at he
 split at he
 ·exact jD (S0:=S0) (w0:=w0) _ _ _ _ _ he hC a w hs fun a' w' bU=>⟨s',h,bU.one⟩
 ·exact Ft (S0:=S0) (w0:=w0) he hC hs fun a' w' bU=>⟨s',h,bU.one⟩
 ·cases he
theorem a7.Qb (x:oY) (he:rS P n c x s=some (s',C)) (hC:bu C) (h:Q .normal s'):a7 P n c Q s:=AF he hC h
theorem a7.OA:∀(l:List oY) {c:Code} {s s':AS} {C:List Prop},kI P n l c s=some (s',C)->bu C->a7 P n (pW l.length c) Q s'->a7 P n c Q s
 | [],c,s,s',C,he,hC,h=>by cases he;exact h
 | x::l,c,s,s',C,he,hC,h=>by
  simp only [kI] at he
  split at he
  ·rename_i Rn
   split at he
   ·rename_i s1 C1 h1
    split at he
    ·rename_i s2 D h2
     cases he
     obtain ⟨iz,hD⟩:=bM.1 hC
     exact a7.seq Rn (AF h1 iz (a7.OA l h2 hD h))
    ·cases he
   ·cases he
  ·cases he
end
def ky (a b:Nat):AV->AV
 | .ref i=>match Nat.beq i a with|true=>.ref b|false=>.ref i
 | .pre i n=>match Nat.beq i a with|true=>.pre b n|false=>.pre i n
 | .jg i o n=>match Nat.beq i a with|true=>.jg b o n|false=>.jg i o n
 | .addr i o=>match Nat.beq i a with|true=>.addr b o|false=>.addr i o
 | .agg _=>.dead
 | .br _=>.dead
 | x=>x
def EJ (a b:Nat):AV->AV
 | .agg cs=>.agg (cs.map (ky a b))
 | x=>ky a b x
def Mk (a b:Nat):AV->AV
 | .br cs=>.br (cs.map (EJ a b))
 | x=>EJ a b x
def eC (a b:Nat) (r:Row):Row:=match r.pure with|true=>r|false=>⟨r.e,false,r.full,r.cells.map (ky a b)⟩
def oF {α:Type} (a b:Nat):List (Nat×α)->List (Nat×α)
 | []=>[]
 | (k,x)::l=>match Nat.beq k a with|true=>(b,x)::oF a b l|false=>(k,x)::oF a b l
def rename (a b:Nat) (s:AS):AS:=⟨dE (Mk a b) s.F,dE (eC a b) (oF a b s.H)⟩
theorem m_ {α:Type} (a b:Nat):∀(l:List (Nat×α)),look l b=none-> ∀i,look (oF a b l) i=if i=b then look l a else if i=a then none else look l i
 | [],_,i=>by simp [oF,look]
 | (k,x)::l,hb,i=>by
  rw [aB] at hb
  have RI:k≠b:=fun e=>by rw [if_pos e] at hb;cases hb
  rw [if_neg RI] at hb
  have ih:=m_ a b l hb i
  rcases bD k a with ⟨h,e⟩|⟨h,e⟩
  ·simp only [oF,h,aB,ih]
   by_cases hi:i=b
   ·subst hi;simp [e]
   ·by_cases MO:i=a
    ·have Tv:b≠a:=fun e'=>hi (by rw [e',MO])
     simp [MO,Tv,Ne.symm Tv]
    ·have:k≠i:=fun e'=>MO (by rw [←e',e])
     simp [hi,MO,Ne.symm hi,this]
  ·simp only [oF,h,aB,ih]
   by_cases hi:i=b
   ·subst hi;simp [RI,e]
   ·by_cases MO:i=a
    ·subst MO;simp [hi,e]
    ·simp [hi,MO]
section
variable {S0:bf} {w0 w:World} {n:Nat} {s:AS} {a:Act} {φ:Nat->Option Nat}
theorem cA (x y:Nat) (r:Row):(eC x y r).e=r.e∧(eC x y r).cells.length=r.cells.length∧(eC x y r).pure=r.pure∧(eC x y r).full=r.full:=by
 unfold eC
 cases h:r.pure<;>simp [h]
theorem aH.JZ (h:aH S0 w0 n [] s a w φ) (x y:Nat) (OT:y<1000000000000) (cK:x≠y) (hy:look s.H y=none):∃ ck,aH S0 w0 n [] (rename x y s) a w ck:=by
 let ck:Nat->Option Nat:=fun i=>if i=y then φ x else if i=x then none else φ i
 have Q5:φ y=none:=h.only y hy
 have mi:∀i g,ck i=some g-> ∃j,φ j=some g∧(i=y->j=x)∧(i≠y->j=i):=by
  intro i g hi
  by_cases e:i=y
  ·have:φ x=some g:=by simpa [ck,e] using hi
   exact ⟨x,this,fun _=>rfl,fun h=>absurd e h⟩
  ·by_cases e2:i=x
   ·simp [ck,e2,cK] at hi
   ·have:φ i=some g:=by simpa [ck,e,e2] using hi
    exact ⟨i,this,fun h=>absurd h e,fun _=>rfl⟩
 have H5:∀b,aJ S0 w φ [] b->aJ S0 w ck [] b:=by
  intro b ⟨h1,h2,h3,h4⟩
  refine ⟨h1,h2,fun i hi=>?_,h4⟩
  obtain ⟨j,hj,-⟩:=mi i b hi
  exact h3 j hj
 have jQ:∀i,look (rename x y s).H i=(if i=y then look s.H x else if i=x then none else look s.H i).map (eC x y):=by
  intro i
  unfold rename
  rw [b7,m_ x y _ hy]
 have hI:∀i z,az s.H φ i=some z->az (rename x y s).H ck (if i=x then y else i)=some z:=by
  intro i z hi
  obtain ⟨e,m,b⟩:=z
  obtain ⟨r,hl,h1,h2,h3⟩:=aL hi
  by_cases e1:i=x
  ·subst e1
   rw [if_pos rfl,bn (r:=eC i y r) (by rw [jQ,if_pos rfl,hl];rfl),(cA i y r).1,(cA i y r).2.1,h1,h2]
   simp [ck,h3]
  ·have e2:i≠y:=fun e=>by subst e;rw [hy] at hl;cases hl
   rw [if_neg e1,bn (r:=eC x y r) (by rw [jQ,if_neg e2,if_neg e1,hl];rfl),(cA x y r).1,(cA x y r).2.1,h1,h2]
   simp [ck,e1,e2,h3]
 have qS:∀b,aJ S0 w φ [] b->aJ S0 w ck [] b∧w.heap[b]?=w.heap[b]?:=fun b h=>⟨H5 b h,rfl⟩
 have ok:jN (az s.H φ) (az (rename x y s).H ck) (aJ S0 w φ []) (aJ S0 w ck []) w (ky x y):=by
  refine ⟨fun v av hv h1 h2=>?_,fun _=>rfl,fun _=>rfl⟩
  have pick:∀i z,az s.H φ i=some z->(Nat.beq i x=true∧az (rename x y s).H ck y=some z)∨(Nat.beq i x=false∧az (rename x y s).H ck i=some z):=by
   intro i z hi
   have:=hI i z hi
   rcases bD i x with ⟨hb,e⟩|⟨hb,e⟩
   ·rw [if_pos e] at this;exact .inl ⟨hb,this⟩
   ·rw [if_neg e] at this;exact .inr ⟨hb,this⟩
  cases hv with
  | rep h=>cases h with
   | val v=>exact .rep (.val v)
   | nil=>exact .rep .nil
   | agg vs cs _ _=>exact absurd rfl (h1 cs)
   | br vs cs _ _=>exact absurd rfl (h2 cs)
   | arr vs cs hl h=>exact .rep ((cp.arr vs cs hl h).mono qS)
   | sl A n c e us row hl hn hc hm ha h=>exact .rep ((cp.sl A n c e us row hl hn hc hm ha h).mono qS)
   | o8 A n e us row hl hn hm ha h=>exact .rep ((cp.o8 A n e us row hl hn hm ha h).mono qS)
   | ptr ad us row off hl hs ha h=>exact .rep ((cp.ptr ad us row off hl hs ha h).mono qS)
   | lu f vs cs hl h=>exact .rep ((cp.lu f vs cs hl h).mono qS)
  | agg vs cs _ _=>exact absurd rfl (h1 cs)
  | br vs cs _ _=>exact absurd rfl (h2 cs)
  | ref i e m g l c hi hm hc hx hs=>rcases pick i _ hi with ⟨hb,i6⟩|⟨hb,i6⟩<;>simp only [ky,hb]<;>exact .ref _ e m g l c i6 hm hc hx hs
  | cw i e hi=>rcases pick i _ hi with ⟨hb,i6⟩|⟨hb,i6⟩<;>simp only [ky,hb]<;>exact .cw _ e i6
  | pre i k e m g l c hi hn hm hc hx hs=>rcases pick i _ hi with ⟨hb,i6⟩|⟨hb,i6⟩<;>simp only [ky,hb]<;>exact .pre _ k e m g l c i6 hn hm hc hx hs
  | df i e hi=>rcases pick i _ hi with ⟨hb,i6⟩|⟨hb,i6⟩<;>simp only [ky,hb]<;>exact .df _ e i6
  | jg i off k e m l c g A hi hn hm hc hx ha=>rcases pick i _ hi with ⟨hb,i6⟩|⟨hb,i6⟩<;>simp only [ky,hb]<;>exact .jg _ off k e m l c g A i6 hn hm hc hx ha
  | addr i off e m g hi=>rcases pick i _ hi with ⟨hb,i6⟩|⟨hb,i6⟩<;>simp only [ky,hb]<;>exact .addr _ off e m g i6
  | dead v=>exact .dead _
 have BG:∀z:AV,(∀cs,z≠ .agg cs)->EJ x y z=ky x y z:=by
  intro z hz
  cases z with
  | agg cs=>exact absurd rfl (hz cs)
  | _=>rfl
 have BF:∀z:AV,(∀cs,z≠ .br cs)->Mk x y z=EJ x y z:=by
  intro z hz
  cases z with
  | br cs=>exact absurd rfl (hz cs)
  | _=>rfl
 refine ⟨ck,h.jF,h.jJ,h.cM,fun i av hi=>?_,fun i r hr=>?_,fun i hi=>?_,fun i j g hi hj=>?_,fun i g hi=>?_,fun i g hi=>by simp,h.new⟩
 ·unfold rename at hi
  rw [b7] at hi
  cases hl:look s.F i with
  | none=>rw [hl] at hi;cases hi
  | some z =>
   rw [hl] at hi;injection hi with hi;subst hi
   exact ok.two (h.ct i z hl) (fun _=>rfl) BG (fun _=>rfl) BF
 ·rw [jQ] at hr
  have:∃j q,look s.H j=some q∧ck i=φ j∧r=eC x y q:=by
   by_cases e:i=y
   ·rw [if_pos e] at hr
    cases hl:look s.H x with
    | none=>rw [hl] at hr;cases hr
    | some q=>rw [hl] at hr;injection hr with hr;exact ⟨x,q,hl,by simp [ck,e],hr.symm⟩
   ·rw [if_neg e] at hr
    by_cases e2:i=x
    ·rw [if_pos e2] at hr;cases hr
    ·rw [if_neg e2] at hr
     cases hl:look s.H i with
     | none=>rw [hl] at hr;cases hr
     | some q=>rw [hl] at hr;injection hr with hr;exact ⟨i,q,hl,by simp [ck,e,e2],hr.symm⟩
  obtain ⟨j,q,hq,My,rfl⟩:=this
  have aK:=h.rows j q hq
  rw [My]
  unfold bJ at aK ⊢
  cases hb:φ j with
  | none =>
   rw [hb] at aK
   have:=(cA x y q).2.1
   simp only at aK ⊢
   rw [aK] at this;exact List.length_eq_zero_iff.1 this
  | some g =>
   rw [hb] at aK
   obtain ⟨cur,te,fr,hg,hf,hlen,mD,hc⟩:=aK
   refine ⟨cur,te,fr,hg,hf,by rw [(cA x y q).2.1];exact hlen,by rw [(cA x y q).2.1,(cA x y q).2.2.2];exact mD,fun j u z hu hz=>?_⟩
   rw [(cA x y q).2.2.1]
   unfold a_
   cases hp:q.pure with
   | true =>
    have:eC x y q=q:=by unfold eC;rw [hp]
    rw [this] at hz
    have:=hc j u z hu hz
    unfold a_ at this;rw [hp] at this
    exact this.mono qS
   | false =>
    have:(eC x y q).cells=q.cells.map (ky x y):=by unfold eC;rw [hp]
    rw [this,List.getElem?_map] at hz
    cases hj:q.cells[j]? with
    | none=>rw [hj] at hz;cases hz
    | some z' =>
     rw [hj] at hz;injection hz with hz;subst hz
     have:=hc j u z' hu hj
     unfold a_ at this;rw [hp] at this
     exact ok.all this
 ·rw [jQ] at hi
  by_cases e:i=y
  ·rw [if_pos e] at hi
   cases hl:look s.H x with
   | none=>simp [ck,e,h.only x hl]
   | some q=>rw [hl] at hi;cases hi
  ·rw [if_neg e] at hi
   by_cases e2:i=x
   ·simp [ck,e2,cK]
   ·rw [if_neg e2] at hi
    cases hl:look s.H i with
    | none=>simp [ck,e,e2,h.only i hl]
    | some q=>rw [hl] at hi;cases hi
 ·obtain ⟨i',h1,h2,h3⟩:=mi i g hi
  obtain ⟨j',h4,h5,h6⟩:=mi j g hj
  have e:=h.inj i' j' g h1 h4
  by_cases ei:i=y<;>by_cases ej:j=y
  ·rw [ei,ej]
  ·have:=h2 ei;have:=h6 ej
   have:j=x:=ah
   subst this
   simp [ck,cK] at hj
  ·have:=h3 ei;have:=h5 ej
   have:i=x:=ah
   subst this
   simp [ck,cK] at hi
  ·have:=h3 ei;have:=h6 ej;omega
 ·obtain ⟨j,h1,h2,h3⟩:=mi i g hi
  have:=h.cL j g h1
  refine ⟨⟨?_,this.1.2⟩,this.2⟩
  by_cases e:i=y
  ·exact .inl ah
  ·rw [←h3 e];exact this.1.1
end
inductive Wk where
 | iR (id:Nat)
 | vS (a b:Nat)
 | nil (slot id e:Nat)
 | aa (ct ids:List Nat)
 | loose (id:Nat)
def mB (s:AS):List Nat->List (Nat×AV)
 | []=>[]
 | i::l=>(i,jI s i)::mB s l
def rI (H:List (Nat×Row)):List Nat->List (Nat×Row)
 | []=>[]
 | i::l=>match look H i with|some r=>(i,r)::rI H l|none=>rI H l
def fR (ids:List Nat):List (Nat×Row)->List Nat
 | []=>[]
 | (k,_)::l=>match ids.any (Nat.beq k) with|true=>fR ids l|false=>k::fR ids l
def C8 (s:AS) (id:Nat):Option AS:=match look s.H id with|some r=>some ⟨s.F,(id,⟨r.e,r.pure,false,r.cells⟩)::cF s.H id⟩|none=>none
def L7 (s:AS):Wk->Option AS
 | .iR id=>(match look s.H id with|some r=>(match r.pure with|true=>some (iR id r s)|false=>none)|none=>none)
 | .vS x y=>(match Nat.beq x y,Nat.ble y 999999999999 with|false,true=>some (rename x y (bX y s))|_,_=>none)
 | .nil i id e=>(match jI s i with| .nil=>some (k9 ⟨(bX id s).F,(id,⟨e,true,false,[]⟩)::(bX id s).H⟩ i (.ref id))|_=>none)
 | .aa is ids=>some ⟨(aR ⟨mB s is,s.H⟩ (fR ids s.H)).F,rI (aR ⟨mB s is,s.H⟩ (fR ids s.H)).H ids⟩
 | .loose id=>C8 s id
def wk:List Wk->AS->Option AS
 | [],s=>some s
 | x::l,s=>match L7 s x with|some s1=>wk l s1|none=>none
theorem tZ (s:AS):∀(l:List Nat) (i:Nat) (x:AV),look (mB s l) i=some x->x=jI s i
 | [],i,x,h=>by cases h
 | k::l,i,x,h=>by
  simp only [mB,aB] at h
  by_cases e:k=i
  ·rw [if_pos e] at h;injection h with h;rw [←h,e]
  ·rw [if_neg e] at h;exact tZ s l i x h
theorem tY (H:List (Nat×Row)):∀(l:List Nat) (i:Nat),look (rI H l) i=if i∈l then look H i else none
 | [],i=>by simp [rI,look]
 | k::l,i=>by
  simp only [rI]
  have ih:=tY H l i
  cases hk:look H k with
  | none =>
   rw [ih]
   by_cases e:i=k
   ·subst e;simp [hk]
   ·simp [e]
  | some r =>
   simp only [aB,ih]
   by_cases e:k=i
   ·subst e;simp [hk]
   ·simp [e,Ne.symm e]
theorem m9 (ids:List Nat):∀(H:List (Nat×Row)) (i:Nat),i ∉ ids->look H i=none∨i∈fR ids H
 | [],i,_=>.inl rfl
 | (k,r)::H,i,hi=>by
  simp only [fR,aB]
  by_cases e:k=i
  ·subst e
   right
   have:ids.any (Nat.beq k)=false:=by
    cases hb:ids.any (Nat.beq k) with
    | false=>rfl
    | true =>
     obtain ⟨j,hj,Jt⟩:=List.any_eq_true.1 hb
     have:=Nat.eq_of_beq_eq_true Jt
     subst this;exact absurd hj hi
   rw [this];simp
  ·rw [if_neg e]
   rcases m9 ids H i hi with h|h
   ·exact .inl h
   ·right
    split
    ·exact h
    ·simp [h]
theorem sR {I:Info} {S:Nat->Prop} {w:World} {v:Value} (h:Den I S w v .nil):v= .slice none 0 0:=by
 cases h with|rep h=>cases h;rfl
theorem L6 {s s':AS} {x:Wk} (he:L7 s x=some s'):bN s s':=by
 intro S0 w0 n a w ⟨φ,hs⟩
 cases x with
 | iR id =>
  simp only [L7] at he
  split at he
  ·rename_i r hr
   split at he
   ·rename_i hp;cases he;exact ⟨_,hs.Lm hr hp⟩
   ·cases he
  ·cases he
 | vS x y =>
  simp only [L7] at he
  split at he
  ·rename_i hb cW
   cases he
   have cK:x≠y:=Nat.ne_of_beq_eq_false hb
   have cW:=Nat.le_of_ble_eq_true cW
   obtain ⟨ck,h⟩:=(hs.l3 y).JZ x y ah cK (cZ y)
   exact ⟨ck,h⟩
  ·cases he
 | nil i id e =>
  simp only [L7] at he
  split at he
  ·rename_i hn
   cases he
   have hv:=hs.get i
   rw [hn] at hv
   have HA:a.tmps.getD i undef= .slice none 0 0:=sR hv
   have h1:=hs.l3 id
   have h2:=h1.rr (id:=id) (r:=⟨e,true,false,[]⟩) (cZ id) rfl
   refine ⟨erase φ id,h2.jF,h2.jJ,h2.cM,fun j av hj=>?_,h2.rows,h2.only,h2.inj,h2.cL,h2.apart,h2.new⟩
   rw [qK] at hj
   by_cases e':i=j
   ·rw [if_pos e'] at hj;injection hj with hj;subst hj;subst e'
    rw [HA]
    exact .cw id e (by
     show az ((id,⟨e,true,false,[]⟩)::(bX id s).H) _ id=_
     rw [bn (r:=⟨e,true,false,[]⟩) (by rw [aB,if_pos rfl]),h1.only id (cZ id)];rfl)
   ·rw [if_neg e'] at hj;exact h2.ct j av hj
  ·cases he
 | aa is ids =>
  simp only [L7] at he
  cases he
  have h1:aH S0 w0 n [] ⟨mB s is,s.H⟩ a w φ:=by
   refine ⟨hs.jF,hs.jJ,hs.cM,fun i av hi=>?_,hs.rows,hs.only,hs.inj,hs.cL,hs.apart,hs.new⟩
   rw [tZ s is i av hi]
   exact hs.get i
  obtain ⟨ck,h2,-,h3⟩:=jX (fR ids s.H) ⟨mB s is,s.H⟩ φ [] h1
  have gu:∀i,i ∉ ids->look (aR ⟨mB s is,s.H⟩ (fR ids s.H)).H i=none:=fun i hi=>h3 i (m9 ids s.H i hi)
  have jQ:∀i,look (rI (aR ⟨mB s is,s.H⟩ (fR ids s.H)).H ids) i=look (aR ⟨mB s is,s.H⟩ (fR ids s.H)).H i:=by
   intro i
   rw [tY]
   by_cases hi:i∈ids
   ·rw [if_pos hi]
   ·rw [if_neg hi,gu i hi]
  have hI:az (rI (aR ⟨mB s is,s.H⟩ (fR ids s.H)).H ids) ck=az (aR ⟨mB s is,s.H⟩ (fR ids s.H)).H ck:=by
   funext i;unfold az;rw [jQ]
  refine ⟨ck,h2.jF,h2.jJ,h2.cM,fun i av hi=>?_,fun i r hr=>?_,fun i hi=>?_,h2.inj,h2.cL,h2.apart,h2.new⟩
  ·simp only [hI];exact h2.ct i av hi
  ·simp only [hI];simp only [jQ] at hr;exact h2.rows i r hr
  ·simp only [jQ] at hi;exact h2.only i hi
 | loose id =>
  simp only [L7,C8] at he
  split at he
  ·rename_i r hr
   cases he
   have lg:∀i,look ((id,(⟨r.e,r.pure,false,r.cells⟩:Row))::cF s.H id) i=if id=i then some ⟨r.e,r.pure,false,r.cells⟩ else look s.H i:=by
    intro i
    rw [aB,bC]
    by_cases e:id=i<;>simp [e]
   have hI:az ((id,(⟨r.e,r.pure,false,r.cells⟩:Row))::cF s.H id) φ=az s.H φ:=by
    funext i
    unfold az
    rw [lg]
    by_cases e:id=i
    ·subst e;rw [if_pos rfl,hr];rfl
    ·rw [if_neg e]
   refine ⟨φ,hs.jF,hs.jJ,hs.cM,fun i av hi=>?_,fun i q hq=>?_,fun i hi=>?_,hs.inj,hs.cL,hs.apart,hs.new⟩
   ·simp only [hI];exact hs.ct i av hi
   ·simp only [hI]
    simp only [lg] at hq
    by_cases e:id=i
    ·subst e
     rw [if_pos rfl] at hq;injection hq with hq;subst hq
     have aK:=hs.rows id r hr
     unfold bJ at aK ⊢
     cases bY:φ id with
     | none=>rw [bY] at aK;exact aK
     | some g =>
      rw [bY] at aK
      obtain ⟨cur,te,fr,hg,hf,hl,-,hc⟩:=aK
      exact ⟨cur,te,fr,hg,hf,hl,fun h=>(by cases h),hc⟩
    ·rw [if_neg e] at hq;exact hs.rows i q hq
   ·simp only [lg] at hi
    by_cases e:id=i
    ·rw [if_pos e] at hi;cases hi
    ·rw [if_neg e] at hi;exact hs.only i hi
  ·cases he
theorem vy:∀(l:List Wk) {s s':AS},wk l s=some s'->bN s s'
 | [],s,s',he=>by cases he;exact fun _ _ _ _ _ h=>h
 | x::l,s,s',he=>by
  simp only [wk] at he
  split at he
  ·rename_i s1 h1
   exact fun S0 w0 n a w h=>vy l he S0 w0 n a w (L6 h1 S0 w0 n a w h)
  ·cases he
theorem a7.wk {P:Program} {n:Nat} {c:Code} {Q:Exit->AS->Prop} {s s':AS} (l:List Wk) (he:wk l s=some s') (h:a7 P n c Q s'):a7 P n c Q s:=a7.ow (vy l he) h
def Aw (s:AS):AV->AV->Option (List Nat×List Prop)
 | .val u,.val v=>some ([],[u=v])
 | .nil,.nil=>some ([],[])
 | .nil,.own _ row=>some ([],[row= []])
 | .nil,.sl _ row=>some ([],[row= []])
 | .sl e row,.sl e' EE=>(match Nat.beq e e' with|true=>some ([],[row=EE])|false=>none)
 | .arr cs,.arr JA=>some ([],[cs=JA])
 | .ptr row off,.ptr EE BI=>some ([],[row=EE,off=BI])
 | .lu f cs,.lu f' JA=>(match Nat.beq f f' with|true=>some ([],[cs=JA])|false=>none)
 | .ref id,.own e row=>(match look s.H id with|some ⟨e',true,_,cells⟩=>(match Nat.beq e e' with|true=>some ([id],[cells=row])|false=>none)|_=>none)
 | .pre id k,.own e row=>(match look s.H id with|some ⟨e',true,_,cells⟩=>(match Nat.beq e e' with|true=>some ([id],[cells.take k=row])|false=>none)|_=>none)
 | .addr id off,.box row=>(match look s.H id,off with|some ⟨_,false,true,cells⟩,0=>(match dD cells with|true=>some ([id],[cells=row])|false=>none)|_,_=>none)
 | _,_=>none
def Ar (f:AV->AV->Option (List Nat×List Prop)):List AV->List AV->Option (List Nat×List Prop)
 | [],[]=>some ([],[])
 | x::xs,r::rs=>match f x r,Ar f xs rs with|some (a,C),some (b,D)=>some (a++b,C++D)|_,_=>none
 | _,_=>none
def Au (s:AS):AV->AV->Option (List Nat×List Prop)
 | .agg xs,.agg rs=>Ar (Aw s) xs rs
 | x,r=>Aw s x r
def kW (s:AS):AV->AV->Option (List Nat×List Prop)
 | .br xs,.br rs=>Ar (Au s) xs rs
 | x,r=>Au s x r
section
variable {S0:bf} {w0 w:World} {n:Nat} {s:AS} {a:Act} {φ:Nat->Option Nat}
def blocks (φ:Nat->Option Nat):List Nat->List Nat
 | []=>[]
 | i::l=>match φ i with|some g=>g::blocks φ l|none=>blocks φ l
theorem CT (φ:Nat->Option Nat) (l m:List Nat):blocks φ (l++m)=blocks φ l++blocks φ m:=by
 induction l with
 | nil=>rfl
 | cons i l ih =>
  simp only [List.cons_append,blocks]
  cases φ i<;>simp [ih]
theorem gW {φ:Nat->Option Nat} {g:Nat}:∀ {l:List Nat},g∈blocks φ l-> ∃i∈l,φ i=some g
 | [],h=>by cases h
 | i::l,h=>by
  simp only [blocks] at h
  split at h
  ·rename_i g' iW
   rcases List.mem_cons.1 h with rfl|h
   ·exact ⟨i,by simp,iW⟩
   ·obtain ⟨j,h1,h2⟩:=gW h
    exact ⟨j,by simp [h1],h2⟩
  ·obtain ⟨j,h1,h2⟩:=gW h
   exact ⟨j,by simp [h1],h2⟩
theorem jY (hs:aH S0 w0 n [] s a w φ):∀ {l:List Nat},l.Nodup->(blocks φ l).Nodup
 | [],_=>List.nodup_nil
 | i::l,h=>by
  rw [List.nodup_cons] at h
  simp only [blocks]
  split
  ·rename_i g hg
   rw [List.nodup_cons]
   refine ⟨fun hm=>?_,jY hs h.2⟩
   obtain ⟨j,h1,h2⟩:=gW hm
   have:=hs.inj i j g hg h2
   subst this;exact h.1 h1
  ·exact jY hs h.2
theorem Av (hs:aH S0 w0 n [] s a w φ) {v:Value} {x r:AV} {ids:List Nat} {C:List Prop} (hx:Den (az s.H φ) (aJ S0 w φ []) w v x) (hg:Aw s x r=some (ids,C)) (hC:bu C):gS (aJ S0 w φ []) w v r (blocks φ ids):=by
 have own:∀(id e l c g:Nat) (fu:Bool) (cells row:List AV),look s.H id=some ⟨e,true,fu,cells⟩->φ id=some g->row.length=e*l->l≤c->c≤maxLen->aS w g=e*c->(∀(j:Nat) x,row[j]?=some x->cells[j]?=some x)->gS (aJ S0 w φ []) w (.slice (some ⟨g,0,none⟩) l c) (.own e row) (blocks φ [id]):=by
  intro id e l c g fu cells row hr bY hl hc hm gw BT
  obtain ⟨cur,te,fr,hg,hf,hle,bq⟩:=ku hs hr rfl bY
  have:blocks φ [id]= [g]:=by simp [blocks,bY]
  rw [this]
  exact .own g l c e row cur te fr hg hf hl hc hm (by unfold aS at gw;rw [hg] at gw;exact gw) fun j u x hu hx=>bq j u x hu (BT j x hx)
 have G7:∀(id e:Nat),φ id=none->gS (aJ S0 w φ []) w (.slice none 0 0) (.own e []) (blocks φ [id]):=by
  intro id e bY
  have:blocks φ [id]= []:=by simp [blocks,bY]
  rw [this];exact .nil e
 unfold Aw at hg
 split at hg
 ·cases hg;have:=hC.1;subst this;exact .rep (by cases hx with|rep h=>exact h)
 ·cases hg;exact .rep (by cases hx with|rep h=>exact h)
 ·cases hg;have:=hC.1;subst this;rw [sR hx];exact .nil _
 ·cases hg;have:=hC.1;subst this;rw [sR hx];exact .rep (iD none 0 0 _ (by simp) (by simp) (by simp))
 ·split at hg
  ·rename_i hb
   cases hg
   have:=hC.1
   subst this
   rw [←Nat.eq_of_beq_eq_true hb]
   exact .rep (oS hx)
  ·cases hg
 ·cases hg;have:=hC.1;subst this;exact .rep (by cases hx with|rep h=>exact h)
 ·cases hg
  obtain ⟨h1,h2,-⟩:=hC
  subst h1;subst h2
  exact .rep (by cases hx with|rep h=>exact h)
 ·split at hg
  ·rename_i hb
   cases hg
   have:=hC.1
   subst this
   rw [←Nat.eq_of_beq_eq_true hb]
   exact .rep (by cases hx with|rep h=>exact h)
  ·cases hg
 ·rename_i id e row
  split at hg
  ·rename_i e' fu cells hr
   split at hg
   ·rename_i hb
    have hb:=Nat.eq_of_beq_eq_true hb
    cases hg
    have:=hC.1
    subst this
    subst hb
    cases hx with
    | rep h=>cases h
    | ref _ e2 m g l c hi hm hc hx bU =>
     obtain ⟨r',gZ,h1,h2,bY⟩:=aL hi
     rw [hr] at gZ;injection gZ with gZ;subst gZ
     simp only at h1 h2
     exact own id e l c g fu cells cells hr bY (by rw [h2,hm,h1]) hc hx (by rw [h1];exact bU) (fun _ _ h=>h)
    | cw _ e2 hi =>
     obtain ⟨r',gZ,h1,h2,bY⟩:=aL hi
     rw [hr] at gZ;injection gZ with gZ;subst gZ
     simp only at h2
     have:cells= []:=List.length_eq_zero_iff.1 h2
     subst this
     exact G7 id e bY
   ·cases hg
  ·cases hg
 ·rename_i id k e row
  split at hg
  ·rename_i e' fu cells hr
   split at hg
   ·rename_i hb
    have hb:=Nat.eq_of_beq_eq_true hb
    cases hg
    have:=hC.1
    subst this
    subst hb
    cases hx with
    | rep h=>cases h
    | pre _ _ e2 m g l c hi hn hm hc hx bU =>
     obtain ⟨r',gZ,h1,h2,bY⟩:=aL hi
     rw [hr] at gZ;injection gZ with gZ;subst gZ
     simp only at h1 h2
     exact own id e l c g fu cells (cells.take k) hr bY (by rw [List.length_take,h2,h1,←hn];omega) hc hx (by rw [h1];exact bU) (fun j x h=>bT _ _ _ _ h)
    | df _ e2 hi =>
     obtain ⟨r',gZ,h1,h2,bY⟩:=aL hi
     simp only [List.take_zero]
     exact G7 id e bY
   ·cases hg
  ·cases hg
 ·rename_i id off row
  split at hg
  ·rename_i e cells hr
   split at hg
   ·rename_i hp
    cases hg
    have:=hC.1
    subst this
    obtain ⟨e2,m,g,hi,hv⟩:=jE hx
    obtain ⟨r',gZ,h1,h2,bY⟩:=aL hi
    have aK:=hs.rows id _ hr
    rw [bY] at aK
    obtain ⟨cur,te,fr,u1,u2,u3,u4,u5⟩:=aK
    have:blocks φ [id]= [g]:=by simp [blocks,bY]
    rw [this,hv]
    refine .box g cells cur te fr u1 u2 (u4 rfl) fun j u x hu hx=>?_
    have hd:Den (az s.H φ) (aJ S0 w φ []) w u x:=u5 j u x hu hx
    exact (dY hd (ik hp hx)).1
   ·cases hg
  ·cases hg
 ·cases hg
theorem ux {f:AV->AV->Option (List Nat×List Prop)} {R:Value->AV->List Nat->Prop} (hf:∀v x r ids C,Den (az s.H φ) (aJ S0 w φ []) w v x->f x r=some (ids,C)->bu C->R v r (blocks φ ids)):∀(vs:List Value) (xs rs:List AV) (ids:List Nat) (C:List Prop),vs.length=xs.length->(∀(j:Nat) v c,vs[j]?=some v->xs[j]?=some c->Den (az s.H φ) (aJ S0 w φ []) w v c)->Ar f xs rs=some (ids,C)->bu C->kP R vs rs (blocks φ ids)
 | vs,[],rs,ids,C,hl,hd,hg,hC=>by
  cases vs with
  | cons=>simp at hl
  | nil =>
   cases rs with
   | nil=>cases hg;exact .nil
   | cons=>cases hg
 | vs,x::xs,[],ids,C,hl,hd,hg,hC=>by cases hg
 | [],x::xs,r::rs,ids,C,hl,hd,hg,hC=>by simp at hl
 | v::vs,x::xs,r::rs,ids,C,hl,hd,hg,hC=>by
  simp only [Ar] at hg
  split at hg
  ·rename_i a C1 b D h1 h2
   cases hg
   obtain ⟨iz,hD⟩:=bM.1 hC
   rw [CT]
   exact .cons (hf v x r a C1 (hd 0 v x rfl rfl) h1 iz) (ux hf vs xs rs b D (by simpa using hl) (fun j v c hv hc=>hd (j+1) v c (by simpa using hv) (by simpa using hc)) h2 hD)
  ·cases hg
theorem At (hs:aH S0 w0 n [] s a w φ) {v:Value} {x r:AV} {ids:List Nat} {C:List Prop} (hx:Den (az s.H φ) (aJ S0 w φ []) w v x) (hg:Au s x r=some (ids,C)) (hC:bu C):nB (aJ S0 w φ []) w v r (blocks φ ids):=by
 unfold Au at hg
 split at hg
 ·obtain ⟨vs,rfl,hl,hd⟩:=j8 hx
  exact .inr ⟨vs,_,rfl,rfl,ux (f:=Aw s) (R:=gS (aJ S0 w φ []) w) (fun v x r ids C h1 h2 h3=>Av hs h1 h2 h3) vs _ _ ids C hl hd hg hC⟩
 ·exact .inl (Av hs hx hg hC)
theorem pL (hs:aH S0 w0 n [] s a w φ) {v:Value} {x r:AV} {ids:List Nat} {C:List Prop} (hx:Den (az s.H φ) (aJ S0 w φ []) w v x) (hg:kW s x r=some (ids,C)) (hC:bu C):sq (aJ S0 w φ []) w v r (blocks φ ids):=by
 unfold kW at hg
 split at hg
 ·obtain ⟨vs,rfl,hl,hd⟩:=xX hx
  exact .inr ⟨vs,_,rfl,rfl,ux (f:=Au s) (R:=nB (aJ S0 w φ []) w) (fun v x r ids C h1 h2 h3=>At hs h1 h2 h3) vs _ _ ids C hl hd hg hC⟩
 ·exact .inl (At hs hx hg hC)
end
def GF (P:Program) (s:AS):ResultVar->Option (AV×List Prop)
 | .tmp t=>some (jI s t,[])
 | .cell x t=>(match jI s x with
  | .addr id off=>(match look s.H id with
   | some r=>(match Hv P t,r.pure,off with
    | true,true,0=>(match dN P t with|some z=>some (.arr r.cells,[r.cells.length=z])|none=>none)
    | _,_,_=>oQ P t r.pure r.cells off {})
   | none=>none)
  | _=>none)
def EF (P:Program) (s:AS):List ResultVar->Option (List AV×List Prop)
 | []=>some ([],[])
 | x::l=>match GF P s x,EF P s l with|some (y,C),some (m,D)=>some (y::m,C++D)|_,_=>none
def nt (P:Program) (s:AS) (rs:List ResultVar) (r:AV):Option (List Prop) :=
 match EF P s rs with
 | some (xs,C)=>(match (match xs with| [x]=>kW s x r|xs=>kW s (.br xs) r) with
  | some (ids,D)=>(match nodupB ids with|true=>some (C++D)|false=>none)
  | none=>none)
 | none=>none
section
variable {P:Program} {S0:bf} {w0 w:World} {n:Nat} {s:AS} {a:Act} {φ:Nat->Option Nat}
def mV (a:Act):ResultVar->Sem Value
 | .tmp t=>pure (a.tmps.getD t undef)
 | .cell b t=>do loadVar t (←asAddr (a.tmps.getD b undef))
theorem GD (hs:aH S0 w0 n [] s a w φ) {x:ResultVar} {y:AV} {C:List Prop} (he:GF P s x=some (y,C)) (hC:bu C) :
  ∃v,(mV a x).run P w= .ok v w∧Den (az s.H φ) (aJ S0 w φ []) w v y:=by
 cases x with
 | tmp t=>cases he;exact ⟨_,rfl,hs.get t⟩
 | cell b t =>
  simp only [GF] at he
  split at he
  ·rename_i id off hb
   split at he
   ·rename_i r hr
    have hx:=hs.get b
    rw [hb] at hx
    obtain ⟨e,m,g,hi,hv⟩:=jE hx
    obtain ⟨r',gZ,-,-,bY⟩:=aL hi
    obtain ⟨cur,te,fr,hg,hf,hle,hc⟩:=Bt hs hr bY
    have rd:∀(z:AV×List Prop) (h:Hint),oQ P t r.pure r.cells off h=some z->bu z.2-> ∃v,(mV a (.cell b t)).run P w= .ok v w∧Den (az s.H φ) (aJ S0 w φ []) w v z.1:=by
     intro z h hz Vk
     obtain ⟨v,h1,h2⟩:=qY (I:=az s.H φ) (S:=aJ S0 w φ []) hz Vk ⟨g,off,none⟩ cur.toList hle (fun j u hu=>by rw [lU,cell_of_row w g _ cur te fr hg];simpa using hu) (fun j u x hu hx=>hc j u x (by simpa using hu) hx)
     exact ⟨v,by simp only [mV];rw [hv];simp [asAddr,h1],h2⟩
    split at he
    ·rename_i sj hp
     split at he
     ·rename_i z hz
      cases he
      have hlen:=hC.1
      unfold Hv at sj
      split at sj
      ·rename_i k el hu
       refine rd (.arr r.cells,[(r.cells.drop 0).take z=r.cells,r.cells.length=z]) {av:=some (.arr r.cells)} ?_ ⟨by rw [List.drop_zero,List.take_of_length_le ah],hlen,trivial⟩
       unfold oQ
       rw [hz,hu,hp]
      ·cases sj
     ·cases he
    ·exact rd _ _ he hC
   ·cases he
  ·cases he
theorem wV (hs:aH S0 w0 n [] s a w φ):∀(l:List ResultVar) (ys:List AV) (C:List Prop),EF P s l=some (ys,C)->bu C ->
  ∃vs:List Value,(l.mapM (mV a)).run P w= .ok vs w∧vs.length=ys.length∧ ∀(j:Nat) v c,vs[j]?=some v->ys[j]?=some c->Den (az s.H φ) (aJ S0 w φ []) w v c
 | [],ys,C,he,hC=>by cases he;exact ⟨[],rfl,rfl,fun j v c hv=>by simp at hv⟩
 | x::l,ys,C,he,hC=>by
  simp only [EF] at he
  split at he
  ·rename_i y C1 m D h1 h2
   cases he
   obtain ⟨iz,hD⟩:=bM.1 hC
   obtain ⟨v,MC,MB⟩:=GD hs h1 iz
   obtain ⟨vs,h3,h4,h5⟩:=wV hs l m D h2 hD
   refine ⟨v::vs,?_,by simp [h4],fun j u c hu hc=>?_⟩
   ·rw [List.mapM_cons,Sem.run_bind,MC]
    simp only [Result.andThen_ok]
    rw [Sem.run_bind,h3]
    rfl
   ·cases j with
    | zero=>simp at hu hc;subst hu;subst hc;exact MB
    | succ j=>exact h5 j u c (by simpa using hu) (by simpa using hc)
  ·cases he
theorem Im (hs:aH S0 w0 n [] s a w φ) {fn:Func} {r:AV} {C:List Prop} (he:nt P s fn.results.toList r=some C) (hC:bu C) :
  ∃v O,(results fn a.tmps).run P w= .ok v w∧O.Nodup∧(∀g∈O,∃i,φ i=some g)∧sq (aJ S0 w φ []) w v r O:=by
 unfold nt at he
 split at he
 ·rename_i xs C1 hr
  split at he
  ·rename_i ids D hg
   split at he
   ·rename_i hn
    cases he
    obtain ⟨iz,hD⟩:=bM.1 hC
    obtain ⟨vs,bZ,hl,hd⟩:=wV hs _ _ _ hr iz
    have hm:(fn.results.mapM (mV a)).run P w= .ok vs.toArray w:=by
     rw [Array.mapM_eq_mapM_toList,Sem.run_map,bZ];rfl
    have HH:(results fn a.tmps).run P w= .ok (if h:vs.toArray.size=1 then vs.toArray[0] else .tuple vs.toArray) w:=by
     have he:results fn a.tmps=(do let vs ←fn.results.mapM (mV a);pure (if h:vs.size=1 then vs[0] else .tuple vs):Sem Value):=by
      unfold results
      congr 1
     rw [he,Sem.run_bind,hm]
     rfl
    refine ⟨_,blocks φ ids,HH,jY hs (im hn),fun g hg=>(gW hg).imp fun i h=>h.2,?_⟩
    split at hg
    ·rename_i x
     cases vs with
     | nil=>simp at hl
     | cons v vs =>
      have:vs= []:=by simpa using hl
      subst this
      exact pL hs (hd 0 v x rfl rfl) hg hD
    ·rename_i cK
     have dc:¬vs.toArray.size=1:=by
      intro h1
      have h2:xs.length=1:=by rw [←hl];simpa using h1
      obtain ⟨x,rfl⟩:=List.length_eq_one_iff.1 h2
      exact cK x rfl
     rw [dif_neg dc]
     exact pL hs (.br vs xs hl hd) hg hD
   ·cases he
  ·cases he
 ·cases he
end
def kO:Nat->List AV->List (Nat×AV)
 | _,[]=>[]
 | i,x::l=>(i,x)::kO (i+1) l
theorem mb:∀(l:List AV) (i j:Nat) (x:AV),look (kO i l) j=some x-> ∃k,j=i+k∧l[k]?=some x
 | [],i,j,x,h=>by cases h
 | y::l,i,j,x,h=>by
  simp only [kO,aB] at h
  by_cases e:i=j
  ·rw [if_pos e] at h;exact ⟨0,ah,by simpa using h⟩
  ·rw [if_neg e] at h
   obtain ⟨k,h1,h2⟩:=mb l (i+1) j x h
   exact ⟨k+1,ah,by simpa using h2⟩
def vw (P:Program) (rs:List ResultVar) (r:AV):Exit->AS->Prop
 | .normal,s=>∃C,nt P s rs r=some C∧bu C
 | .ret,s=>∃C,nt P s rs r=some C∧bu C
 | _,_=>False
theorem mf {P:Program} {fn:Func} {tmps:Array Value} {R:Ending->World->Prop}:∀(ms:List Nat) (w:World),ms.Nodup->(∀r∈ms,w.heap[r]?=some (.deferred (some []))) ->
  (∀w',w'.os=w.os->w'.tape=w.tape->w'.output=w.output->w'.heap.size=w.heap.size->(∀b,b ∉ ms->w'.heap[b]?=w.heap[b]?)-> ∃v,(results fn tmps).run P w'= .ok v w'∧R (.returned v) w') ->
  LeavesInM Fence.wide 0 P fn tmps R (ms.map mark) .returning w
 | [],w,_,_,h=>h w rfl rfl rfl rfl fun _ _=>rfl
 | r::ms,w,nd,hm,h=>by
  rw [List.nodup_cons] at nd
  refine ⟨by simp,.inl ⟨r,w.putObj r (.deferred none),rfl,run_takeDeferred (hm r (by simp)),?_⟩⟩
  refine mf ms _ nd.2 (fun r' gZ=>?_) (fun w' h1 h2 h3 h4 h5=>h w' h1 h2 h3 (by rw [h4];exact World.putObj_size) fun b hb=>?_)
  ·rw [World.putObj_heap_other fun e=>nd.1 (by rw [←e];exact gZ)];exact hm r' (by simp [gZ])
  ·simp only [List.mem_cons,not_or] at hb
   rw [h5 b hb.2,World.putObj_heap_other hb.1]
theorem mL.close {Z:bf} {w w' fa:World} {n:Nat} {s:AS} {a:Act} (hd:Z.rV= []) (lL:∀b,(w.heap.size≤b∨Z.X b)->Z.S b) {S1:bf} {w1:World} {ms:List Nat} (hE:kS Z w S1 w1 ms) {φ:Nat->Option Nat} (hs:aH S1 w1 n [] s a w' φ)
  (h1:fa.os=w'.os) (h2:fa.tape=w'.tape) (h3:fa.output=w'.output) (h4:fa.heap.size=w'.heap.size) (h5:∀b,b ∉ ms->fa.heap[b]?=w'.heap[b]?):aH Z w n [] s ⟨a.tmps,[]⟩ fa φ:=by
 have hS:∀b,S1.S b->fa.heap[b]?=w'.heap[b]?:=fun b hb=>h5 b fun hm=>(hE.marks b hm).2.2.2.1 hb
 have hF:∀b,aJ S1 w' φ [] b->aJ Z fa φ [] b∧fa.heap[b]?=w'.heap[b]?:=fun b hb=>⟨⟨by rw [h4];exact hb.1,hb.2.1,hb.2.2.1,hE.sub b hb.2.2.2⟩,hS b hb.2.2.2⟩
 have bY:∀id g,φ id=some g->fa.heap[g]?=w'.heap[g]?:=fun id g hg=>hS g (hs.new g (hs.cL id g hg).1.2)
 have hL:∀id e m g,az s.H φ id=some (e,m,some g)->aS fa g=aS w' g:=fun id e m g hi=>by
  obtain ⟨_,-,-,-,hg⟩:=aL hi
  unfold aS;rw [bY id g hg]
 refine ⟨hs.jF,hd.symm,?_,fun i av hi=>(hs.ct i av hi).mono (fun _ _ h=>h) hF hL,fun id r hr=>?_,hs.only,hs.inj,fun id g hg=>⟨⟨?_,?_⟩,by rw [h4];exact (hs.cL id g hg).2⟩,fun _ _ _ h=>(by cases h),lL⟩
 ·have k:=hE.kept.trans hs.cM hE.X
  exact ⟨h1.trans k.os,h2.trans k.tape,h3.trans k.output,by rw [h4];exact k.size,fun b hb hx=>(h5 b fun hm=>by have:=(hE.marks b hm).1;omega).trans (k.block b hb hx),k.g0,k.gx⟩
 ·have aK:=hs.rows id r hr
  unfold bJ at aK ⊢
  cases hg:φ id with
  | none=>rw [hg] at aK;exact aK
  | some g =>
   rw [hg] at aK
   obtain ⟨cur,te,fr,u1,u2,u3,u4,u5⟩:=aK
   refine ⟨cur,te,fr,(bY id g hg).trans u1,u2,u3,u4,fun j u x hu hx=>?_⟩
   have:=u5 j u x hu hx
   unfold a_ at this ⊢
   cases hp:r.pure with
   | true=>rw [hp] at this;exact this.mono hF
   | false=>rw [hp] at this;exact this.mono (fun _ _ h=>h) hF hL
 ·exact (hs.cL id g hg).1.1.imp (fun h=>h) fun h=>by rw [←hE.fix];exact h
 ·rcases (hs.cL id g hg).1.2 with h|h
  ·exact .inl (Nat.le_trans hE.kept.size h)
  ·exact hE.X g h
theorem qb {P:Program} {f:FuncId} {fn:Func} {c:Code} {args:Array Value} {w:World} {R:Ending->World->Prop} (hf:P.funcs[f]?=some fn) (hb:fn.body=some c) {Z:bf} {n:Nat} (hd:Z.rV= []) (lL:∀b,(w.heap.size≤b∨Z.X b)->Z.S b) {Q:Exit->AS->Prop} (hQ:∀e s,Q e s->e= .normal∨e= .ret)
  (h:Bg P c (fun e a' w'=>∃s',Q e s'∧mL Z w n s' a' w') {tmps:=args++Array.replicate (fn.ntmps-args.size) undef,defers:=[]} w)
  (lh:∀e s' (a':Act) w',Q e s'->a'.defers= []->ib Z w n s' a' w'-> ∃v,(results fn a'.tmps).run P w'= .ok v w'∧R (.returned v) w'):Calls P f args w R:=by
 refine callsIn_wide.1 (callsIn_of_wp_marks (F:=Fence.wide) (n:=0) hf hb trivial ?_)
 refine wpIn_wide.2 (wp_mono (kq _ _ _ _ h) fun e a' w' ⟨s',hq,S1,w1,ms,hE,φ,hs⟩=>?_)
 have fin:LeavesInM Fence.wide 0 P fn a'.tmps R a'.defers .returning w':=by
  have M0:a'.defers=ms.map mark:=by rw [hs.jJ,hE.rV,hd,List.append_nil]
  rw [M0]
  refine mf ms w' hE.nodup (fun r hr=>?_) (fun fa h1 h2 h3 h4 h5=>lh e s' ⟨a'.tmps,[]⟩ fa hq rfl ⟨φ,mL.close hd lL hE hs h1 h2 h3 h4 h5⟩)
  obtain ⟨-,k2,k3,-,k5⟩:=hE.marks r hr
  exact (hs.cM.block r k2 k5).trans k3
 rcases hQ e s' hq with rfl|rfl
 ·exact fin
 ·exact fin
theorem bK.pv {P:Program} {f:FuncId} {fn:Func} {c:Code} {args:List AV} {r:AV} (hf:P.funcs[f]?=some fn) (hb:fn.body=some c) (n:Nat) (hn:fn.ntmps=n) (iq:args.length≤n) (h:a7 P n c (vw P fn.results.toList r) ⟨kO 0 args,[]⟩):bK P f args r:=by
 intro w S vs jR hS hl bV
 let Z:bf:=⟨fun b=>S b∨w.heap.size≤b,fun _=>False,fun _=>none,[]⟩
 have Jv:aH Z w n [] ⟨kO 0 args,[]⟩ {tmps:=vs.toArray++Array.replicate (fn.ntmps-vs.toArray.size) undef,defers:=[]} w (fun _=>none):=by
  refine ⟨by simp;omega,rfl,⟨rfl,rfl,rfl,Nat.le_refl _,fun _ _ _=>rfl,jR,fun _ _ h=>h⟩,fun i av hi=>?_,fun id r hr=>(by cases hr),fun _ _=>rfl,fun _ _ _ h=>(by cases h),fun _ _ h=>(by cases h),fun _ _ h=>(by cases h),fun b hb=>Or.inr (hb.elim id fun h=>h.elim)⟩
  obtain ⟨k,rfl,hk⟩:=mb args 0 i av hi
  have iw:k<vs.length:=by have:=(List.getElem?_eq_some_iff.1 hk).1;omega
  have hv:vs[k]?=some vs[k]:=List.getElem?_eq_getElem iw
  have e:(vs.toArray++Array.replicate (fn.ntmps-vs.toArray.size) undef).getD (0+k) undef=vs[k]:=by
   rw [Nat.zero_add,Array.getD_eq_getD_getElem?,Array.getElem?_append_left (by simpa using iw)]
   simp [iw]
  simp only [e]
  exact .rep ((bV k vs[k] av hv hk).mono fun b hb=>⟨⟨hS b hb,by simp,fun _ h=>(by cases h),Or.inl hb⟩,rfl⟩)
 refine qb hf hb (Z:=Z) rfl (fun b hb=>Or.inr (hb.elim id fun h=>h.elim)) (Q:=vw P fn.results.toList r) (fun e s hq=>by cases e<;>first|exact .inl rfl|exact .inr rfl|exact hq.elim) (h Z w _ w ⟨_,Jv⟩) fun e s' a' w' hq hd ⟨φ,bU⟩=>?_
 have hq:∃C,nt P s' fn.results.toList r=some C∧bu C:=by cases e<;>first|exact hq|exact hq.elim
 obtain ⟨C,he,hC⟩:=hq
 obtain ⟨v,O,bZ,g_,hO,hg⟩:=Im bU he hC
 refine ⟨v,bZ,v,O,rfl,bU.cM.below (fun _ h=>h),g_,fun g hg=>?_,hg.mono fun b hb=>?_⟩
 ·obtain ⟨i,hi⟩:=hO g hg
  exact ⟨(bU.cL i g hi).1.2.elim id fun h=>h.elim,(bU.cL i g hi).2⟩
 ·rcases hb.2.2.2 with h1|h1
  ·exact .inl h1
  ·exact .inr ⟨h1,hb.1,fun hm=>by obtain ⟨i,hi⟩:=hO b hm;exact hb.2.2.1 i hi⟩
def db (fn:Func):Code:=match fn.body with|some c=>c|none=>.skip
theorem bK.G3 {P:Program} {f:FuncId} {fn:Func} {args:List AV} {r:AV} (hf:P.funcs[f]?=some fn) (hb:fn.body.isSome=true) (n:Nat) (hn:fn.ntmps=n) (iq:Nat.ble args.length n=true) (h:a7 P n (db fn) (vw P fn.results.toList r) ⟨kO 0 args,[]⟩):bK P f args r:=by
 cases uv:fn.body with
 | none=>rw [uv] at hb;cases hb
 | some c =>
  have:db fn=c:=by unfold db;rw [uv]
  rw [this] at h
  exact bK.pv hf uv n hn (Nat.le_of_ble_eq_true iq) h
theorem a7.mW {P:Program} {n:Nat} {c:Code} {Q:Exit->AS->Prop} {s s':AS} {C:List Prop} (k:Nat) (l:List oY) (hk:Nat.beq l.length k=true) (he:kI P n l c s=some (s',C)) (hC:bu C) (h:a7 P n (pW k c) Q s'):a7 P n c Q s:=by
 rw [←Nat.eq_of_beq_eq_true hk] at h
 exact a7.OA l he hC h
theorem vw.JW {P:Program} {rs:List ResultVar} {r:AV} {s:AS} {C:List Prop} (he:nt P s rs r=some C) (hC:bu C):vw P rs r .ret s:=⟨C,he,hC⟩
section
variable {P:Program} {n:Nat} {c:Code} {Q:Exit->AS->Prop} {K:AS->Prop} {s s1 s2:AS}
theorem a7.IY {x:Operand} {b:Bool} (hc:kX c=some x) (hx:bj s x= .val (.bool b)) (hb:b=true) (h:a7 P n (oe c) Q s):a7 P n c Q s:=a7.cond hc hx (fun _=>h) (fun e=>by rw [hb] at e;cases e)
theorem a7.IZ {x:Operand} {b:Bool} (hc:kX c=some x) (hx:bj s x= .val (.bool b)) (hb:b=false) (h:a7 P n (ou c) Q s):a7 P n c Q s:=a7.cond hc hx (fun e=>by rw [hb] at e;cases e) (fun _=>h)
theorem a7.PV {x:Operand} {p:Prop} [Decidable p] (hc:kX c=some x) (hx:bj s x= .val (.bool (decide p))) (ht:p->a7 P n (oe c) Q s) (hf:¬p->a7 P n (ou c) Q s):a7 P n c Q s:=a7.cond hc hx (fun e=>ht (of_decide_eq_true e)) (fun e=>hf (of_decide_eq_false e))
theorem a7.I0 {α:Type} [BEq α] [LawfulBEq α] {x:Operand} {u v:α} (hc:kX c=some x) (hx:bj s x= .val (.bool (u == v))) (ht:u=v->a7 P n (oe c) Q s) (hf:u≠v->a7 P n (ou c) Q s):a7 P n c Q s:=a7.cond hc hx (fun e=>ht (eq_of_beq e)) (fun e=>hf (by simpa using e))
theorem a7.PU {α:Type} [BEq α] [LawfulBEq α] {x:Operand} {u v:α} (hc:kX c=some x) (hx:bj s x= .val (.bool (u != v))) (ht:u≠v->a7 P n (oe c) Q s) (hf:u=v->a7 P n (ou c) Q s):a7 P n c Q s:=a7.cond hc hx (fun e=>ht (by simpa using e)) (fun e=>hf (by simpa using e))
theorem a7.join (J:AS) (hc:zY c=true) (h1:a7 P n (hU c) (rv (fun s'=>bN s' J) Q) s) (h2:a7 P n (dk c) Q J):a7 P n c Q s:=by
 refine a7.seq hc (h1.mono fun e s' hq=>?_)
 cases e with
 | normal=>exact a7.ow hq h2
 | _=>exact hq
theorem a7.pE {ι:Type} (J:ι->AS) (Inv:ι->Prop) (hc:zY c=true) (h1:a7 P n (hU c) (rv (fun s'=>∃x,Inv x∧bN s' (J x)) Q) s) (h2:∀x,Inv x->a7 P n (dk c) Q (J x)):a7 P n c Q s :=
 a7.seq hc (a7.mono h1 fun e s' h=>by
  cases e with
  | normal=>obtain ⟨x,hx,hw⟩:=h;exact a7.ow hw (h2 x hx)
  | exit _=>exact h
  | ret=>exact h
  | _=>exact h)
theorem ak (h:K s):rv K Q .normal s:=h
theorem aY {id:Nat} (h:Q (.exit id) s):rv K Q (.exit id) s:=h
theorem aW (h:Q .ret s):rv K Q .ret s:=h
theorem aM {id:Nat} (h:Q .normal s):NL id Q .normal s:=h
theorem bl {id:Nat} (h:Q .ret s):NL id Q .ret s:=h
theorem bm {id:Nat} (h:Q .normal s):NL id Q (.exit id) s:=by show (if _ then _ else _);rw [if_pos rfl];exact h
theorem OP {id i:Nat} (hi:Nat.beq i id=false) (h:Q (.exit i) s):NL id Q (.exit i) s:=by show (if _ then _ else _);rw [if_neg (Nat.ne_of_beq_eq_false hi)];exact h
theorem bN.of (l:List Wk) (he:wk l s=some s1) (e:s1=s2):bN s s2:=e ▸ vy l he
theorem aI {ι:Type} {I:ι->AS} {Inv:ι->Prop} {m:ι->Nat} {x:ι} (y:ι) (h1:Inv y) (h2:m y<m x) (h3:bN s (I y)):Round I Inv m Q x .normal s:=⟨y,h1,h2,h3⟩
theorem aN {ι:Type} {I:ι->AS} {Inv:ι->Prop} {m:ι->Nat} {x:ι} {id:Nat} (h:Q (.exit id) s):Round I Inv m Q x (.exit id) s:=h
theorem fD {ι:Type} {I:ι->AS} {Inv:ι->Prop} {m:ι->Nat} {x:ι} (h:Q .ret s):Round I Inv m Q x .ret s:=h
end
def u64 (n:Int):UInt64:=UInt64.ofInt n
def u8 (n:Int):UInt8:=UInt8.ofInt n
theorem yn (n:Int):IntKind.u64.wrap n=wv (u64 n):=by
 unfold wv u64;rw [IntKind.wrap_u64]
 simp [UInt64.ofInt]
 omega
theorem I6 (n:Int):IntKind.u8.wrap n=bv (u8 n):=by
 unfold bv u8;rw [IntKind.wrap_u8]
 simp [UInt8.ofInt]
 omega
abbrev aw (x:UInt64):AV:=.val (.int .u64 (wv x))
abbrev ab (x:UInt8):AV:=.val (.int .u8 (bv x))
abbrev ai (n:Int):AV:=.val (.int .i64 n)
abbrev ao (b:Bool):AV:=.val (.bool b)
abbrev dw (s:List UInt8):AV:=.val (.string ⟨s.toArray⟩)
theorem eZ {n:Int} (h1: -9223372036854775808≤n) (h2:n≤9223372036854775807):AV.val (.int .i64 (IntKind.i64.wrap n))= .val (.int .i64 n):=by
 rw [show IntKind.i64.wrap n=n by rw [IntKind.wrap_i64];omega]
theorem a6 (n:Int):AV.val (.int .u64 (IntKind.u64.wrap n))=aw (u64 n):=by rw [yn]
theorem iO (n:Int):AV.val (.int .u8 (IntKind.u8.wrap n))=ab (u8 n):=by rw [I6]
theorem CV (c:UInt8):AV.val (.int .u64 (IntKind.u64.wrap (bv c)))=aw c.toUInt64:=by
 rw [PX,show IntKind.u64.wrap (wv c.toUInt64)=wv c.toUInt64 by have:=Ot c.toUInt64;have:=Lj c.toUInt64;rw [IntKind.wrap_u64];omega]
theorem iN (x y:UInt64):AV.val (.int .u64 (IntKind.u64.wrap ((BitVec.ofInt IntKind.u64.bits (wv x)&&&BitVec.ofInt IntKind.u64.bits (wv y)).toNat:Nat)))=aw (x&&&y):=congrArg (fun n=>AV.val (.int .u64 n)) (L4 x y)
theorem rk (x y:UInt64):AV.val (.int .u64 (IntKind.u64.wrap ((BitVec.ofInt IntKind.u64.bits (wv x)|||BitVec.ofInt IntKind.u64.bits (wv y)).toNat:Nat)))=aw (x|||y):=congrArg (fun n=>AV.val (.int .u64 n)) (Oq x y)
theorem cD (x y:UInt64):AV.val (.int .u64 (IntKind.u64.wrap ((BitVec.ofInt IntKind.u64.bits (wv x)^^^BitVec.ofInt IntKind.u64.bits (wv y)).toNat:Nat)))=aw (x^^^y):=congrArg (fun n=>AV.val (.int .u64 n)) (LX x y)
theorem Ld (x y:UInt8):AV.val (.int .u8 (IntKind.u8.wrap ((BitVec.ofInt IntKind.u8.bits (bv x)&&&BitVec.ofInt IntKind.u8.bits (bv y)).toNat:Nat)))=ab (x&&&y):=congrArg (fun n=>AV.val (.int .u8 n)) (bv_and x y)
theorem Eh (x y:UInt8):AV.val (.int .u8 (IntKind.u8.wrap ((BitVec.ofInt IntKind.u8.bits (bv x)^^^BitVec.ofInt IntKind.u8.bits (bv y)).toNat:Nat)))=ab (x^^^y):=congrArg (fun n=>AV.val (.int .u8 n)) (NA x y)
theorem fK (x:UInt64) (n:Int) (h0:0≤n) (h1:n<64):AV.val (.int .u64 ((wv x).fdiv (2^min n.toNat IntKind.u64.bits)))=aw (x>>>UInt64.ofNat n.toNat):=by
 rw [show min n.toNat IntKind.u64.bits=n.toNat from Nat.min_eq_left (by show n.toNat≤64;omega),Int.fdiv_eq_ediv_of_nonneg _ (Int.pow_nonneg (by decide)),LY x n.toNat ah]
theorem jq (x:UInt64) (n:Int) (h0:0≤n) (h1:n<64):AV.val (.int .u64 (IntKind.u64.wrap (wv x*2^min n.toNat IntKind.u64.bits)))=aw (x<<<UInt64.ofNat n.toNat):=by
 rw [show min n.toNat IntKind.u64.bits=n.toNat from Nat.min_eq_left (by show n.toNat≤64;omega),LZ x n.toNat ah]
theorem NB (x:UInt8) (k:Nat) (hk:k<8):bv x/2^k=bv (x>>>UInt8.ofNat k):=by
 unfold bv
 rw [UInt8.toNat_shiftRight,UInt8.toNat_ofNat_of_lt' (by show k<2^8;omega),Nat.mod_eq_of_lt hk,Nat.shiftRight_eq_div_pow]
 simp [Int.natCast_ediv,Int.natCast_pow]
theorem NC (x:UInt8) (k:Nat) (hk:k<8):IntKind.u8.wrap (bv x*2^k)=bv (x<<<UInt8.ofNat k):=by
 unfold bv
 rw [IntKind.wrap_u8,UInt8.toNat_shiftLeft,UInt8.toNat_ofNat_of_lt' (by show k<2^8;omega),Nat.mod_eq_of_lt hk,Nat.shiftLeft_eq]
 simp [Int.natCast_emod,Int.natCast_mul,Int.natCast_pow]
theorem Lb (x:UInt8) (n:Int) (h0:0≤n) (h1:n<8):AV.val (.int .u8 ((bv x).fdiv (2^min n.toNat IntKind.u8.bits)))=ab (x>>>UInt8.ofNat n.toNat):=by
 rw [show min n.toNat IntKind.u8.bits=n.toNat from Nat.min_eq_left (by show n.toNat≤8;omega),Int.fdiv_eq_ediv_of_nonneg _ (Int.pow_nonneg (by decide)),NB x n.toNat ah]
theorem Lc (x:UInt8) (n:Int) (h0:0≤n) (h1:n<8):AV.val (.int .u8 (IntKind.u8.wrap (bv x*2^min n.toNat IntKind.u8.bits)))=ab (x<<<UInt8.ofNat n.toNat):=by
 rw [show min n.toNat IntKind.u8.bits=n.toNat from Nat.min_eq_left (by show n.toNat≤8;omega),NC x n.toNat ah]
theorem fV (x y:UInt64):AV.val (.bool (wv x == wv y))=ao (x == y):=by rw [F8]
theorem cU (x y:UInt64):AV.val (.bool (wv x != wv y))=ao (x != y):=by rw [L3]
theorem NG (x y:UInt8):AV.val (.bool (bv x == bv y))=ao (x == y):=by rw [bv_beq]
theorem x8 {a b:Int} (h:0≤a) (h1:a≤9223372036854775807) (hb:1≤b):AV.val (.int .i64 (IntKind.i64.wrap (a.tdiv b)))=ai (a/b):=by
 rw [Int.tdiv_eq_ediv_of_nonneg h]
 exact eZ (by have:=Int.ediv_nonneg h (by omega:0≤b);omega) (by have:=Int.ediv_le_self b h;omega)
theorem fg (a b:List UInt8):AV.val (.bool ((⟨a.toArray⟩:ByteArray).toList == (⟨b.toArray⟩:ByteArray).toList))=ao (a == b):=by simp
theorem Md (a b:List UInt8):AV.val (.bool (!((⟨a.toArray⟩:ByteArray).toList == (⟨b.toArray⟩:ByteArray).toList)))=ao (a != b):=by
 have:=fg a b
 injection this with this;injection this with this
 rw [this];rfl
theorem nS {l:List UInt8} {k:Nat} (h:k<l.length):(ag l)[k]?=some (ab (l.getD k 0)):=by simp [ag,h]
theorem eG {l:List UInt64} {k:Nat} (h:k<l.length):(aj l)[k]?=some (aw (l.getD k 0)):=by simp [aj,h]
theorem nf {l:List Int} {k:Nat} (h:k<l.length):(ax l)[k]?=some (ai (l.getD k 0)):=by simp [ax,h]
theorem cQ (a b:List UInt8):ag a++ag b=ag (a++b):=by simp [ag]
theorem kn (a b:List UInt64):aj a++aj b=aj (a++b):=by simp [aj]
theorem E0 (a b:List Int):ax a++ax b=ax (a++b):=by simp [ax]
theorem km (a:List UInt64) (k:Nat) (c:UInt64):(aj a).set k (aw c)=aj (a.set k c):=by simp [aj,List.map_set]
theorem EZ (a:List Int) (k:Nat) (c:Int):(ax a).set k (ai c)=ax (a.set k c):=by simp [ax,List.map_set]
theorem rZ (a:List UInt8) (k:Nat):(ag a).take k=ag (a.take k):=by simp [ag,List.map_take]
theorem r5 (a:List UInt8) (k:Nat):(ag a).drop k=ag (a.drop k):=by simp [ag,List.map_drop]
theorem s_ (n:Nat):List.replicate n (AV.val (.int .u64 0))=aj (List.replicate n 0):=by simp [aj,wv]
theorem rm {n:Int} (h1:0≤n) (h2:n<18446744073709551616):AV.val (.int .u64 (IntKind.u64.wrap n))= .val (.int .u64 n):=by
 rw [show IntKind.u64.wrap n=n by rw [IntKind.wrap_u64];omega]
def af {T:Type} (f:T->List AV) (l:List T):List AV:=l.flatMap f
section
variable {T:Type} {f:T->List AV} {e:Nat}
theorem jb (x:T) (l:List T):af f (x::l)=f x++af f l:=rfl
theorem fO (a b:List T):af f a++af f b=af f (a++b):=by simp [af]
theorem IF (x:T):af f [x]=f x:=by simp [af]
theorem aG (he:∀x,(f x).length=e) (l:List T):(af f l).length=l.length*e:=by
 induction l with
 | nil=>simp [af]
 | cons x l ih=>rw [jb,List.length_append,ih,he,List.length_cons,Nat.succ_mul];omega
theorem q_ (he:∀x,(f x).length=e) (l:List T) (k:Nat):(af f l).drop (k*e)=af f (l.drop k):=by
 induction k generalizing l with
 | zero=>simp
 | succ k ih =>
  cases l with
  | nil=>simp [af]
  | cons x l =>
   rw [jb,List.drop_succ_cons,←ih l,Nat.succ_mul,Nat.add_comm,←List.drop_drop,List.drop_append_of_le_length (by rw [he];omega),show List.drop e (f x)= [] from List.drop_eq_nil_of_le (by rw [he];omega),List.nil_append]
theorem q9 (he:∀x,(f x).length=e) (l:List T) (k:Nat):(af f l).take (k*e)=af f (l.take k):=by
 induction k generalizing l with
 | zero=>simp [af]
 | succ k ih =>
  cases l with
  | nil=>simp [af]
  | cons x l =>
   rw [jb,List.take_succ_cons,jb,←ih l,Nat.succ_mul,Nat.add_comm,List.take_append,he,show e+k*e-e=k*e by omega,List.take_of_length_le (by rw [he];omega)]
theorem kj [Inhabited T] (he:∀x,(f x).length=e) {l:List T} {k:Nat} (hk:k<l.length):((af f l).drop (k*e)).take e=f (l.getD k default):=by
 rw [q_ he,List.drop_eq_getElem_cons hk,jb,List.take_append_of_le_length (by rw [he];omega),List.take_of_length_le (by rw [he];omega)]
 simp [hk]
theorem nP [Inhabited T] (he:∀x,(f x).length=e) {l:List T} {k j:Nat} {c:AV} (hk:k<l.length) (hj:(f (l.getD k default))[j]?=some c):(af f l)[k*e+j]?=some c:=by
 have h1:j<e:=by
  have:=(List.getElem?_eq_some_iff.1 hj).1
  rw [he] at this;exact this
 rw [←kj he hk,List.getElem?_take_of_lt h1,List.getElem?_drop] at hj
 exact hj
theorem IE [Inhabited T] (he:∀x,(f x).length=e) {l:List T} {k j z:Nat} {cs:List AV} (hk:k<l.length) (hz:j+z≤e) (hj:((f (l.getD k default)).drop j).take z=cs):((af f l).drop (k*e+j)).take z=cs:=by
 rw [←hj,←kj he hk,List.drop_take,List.take_take,Nat.min_eq_left ah,List.drop_drop]
theorem hY (hf:∀x,dh (f x)) (l:List T):dh (af f l):=by
 intro x hx
 simp only [af,List.mem_flatMap] at hx
 obtain ⟨y,_,h⟩:=hx
 exact hf y x h
end
theorem bK.len {P:Program} {f:FuncId} {args:List AV} {r:AV} (i:Nat) {e:Nat} {row:List AV} (hi:args[i]?=some (.sl e row)) (h:row.length≤e*9223372036854775807->bK P f args r):bK P f args r:=by
 intro w S vs jR hS hl hr
 have cW:i<vs.length:=by rw [hl];exact (List.getElem?_eq_some_iff.1 hi).1
 have bV:=hr i vs[i] _ (List.getElem?_eq_getElem cW) hi
 refine h ?_ w S vs jR hS hl hr
 generalize vs[i]=v at bV
 cases bV with
 | sl A n c e us row hl hn hc hm ha h =>
  rw [hn]
  refine Nat.mul_le_mul_left e ?_
  simp only [maxLen] at hm
  omega
theorem tJ {α:Type} (g:Nat->α) (j:Nat):(List.range j).map g++ [g j]=(List.range (j+1)).map g:=by rw [List.range_succ,List.map_append];rfl
theorem ja {T:Type} {f:T->List AV} (l:List T) (x:T):af f l++f x=af f (l++ [x]):=by rw [←fO,IF]
theorem Fx {T:Type} {f:T->List AV} (g:Nat->T) (j:Nat):af f ((List.range j).map g)++f (g j)=af f ((List.range (j+1)).map g):=by rw [ja,tJ]
end Go.Proofs.YtjgbhhnghedgdaaGreatDoor
namespace Go.Proofs.YtjgbhhnghedgdaaGreatDoor
open Go.RowKit Go.ChangeShapes Go.WideShapes Go.ChangeAt
def ov (P:Program) (t:TypeId) {T:Type} (f:T->List AV) (ok:T->Prop):Prop :=
 ∀(H:Type) (enc:TypeId×Value->H) (w:World) (fuel:Nat) (cs:List Value) (x:DataW H×List MemPlace),DataW.trod enc P w 0 (fun _=>true) true fuel t cs=some x ->
  ∃a,ok a∧(f a).length=cs.length∧ ∀(j:Nat) u y,cs[j]?=some u->(f a)[j]?=some y->cp (fun b=>b<w.heap.size) w u y
def P4 (P:Program) (t:TypeId) {T:Type} (g:T->AV) (ok:T->Prop):Prop :=
 ∀(H:Type) (enc:TypeId×Value->H) (w:World) (base:Nat) (v:Value) (d:DataW H) (ps:List MemPlace),Value.okWide P w .any base t v->DataW.Trod enc P w 0 (fun _=>true) true t v d ps ->
  ∃a,ok a∧cp (fun b=>b<w.heap.size) w v (g a)
section
variable {P:Program} {t:TypeId} {T T':Type} {f:T->List AV} {ok:T->Prop}
theorem ov.map (h:ov P t f ok) (g:T->T') {f':T'->List AV} {SP:T'->Prop} (hf:∀a,ok a->f' (g a)=f a) (ho:∀a,ok a->SP (g a)):ov P t f' SP:=by
 intro H enc w fuel cs x hx
 obtain ⟨a,h1,h2,h3⟩:=h H enc w fuel cs x hx
 exact ⟨g a,ho a h1,by rw [hf a h1];exact h2,by rw [hf a h1];exact h3⟩
theorem oE {S:Nat->Prop} {w:World} {v:Value} {x:AV} (h:cp S w v x) (j:Nat) (u:Value) (y:AV) (hu:[v][j]?=some u) (hy:[x][j]?=some y):cp S w u y:=by
 cases j with
 | zero=>simp at hu hy;subst hu hy;exact h
 | succ j=>simp at hu
abbrev Hx (n:Int):Prop:= -9223372036854775808≤n∧n≤9223372036854775807
theorem GQ (ht:P.underlying t=some (.int .i64)):ov P t (fun c:Int=>[ai c]) Hx:=by
 intro H enc w fuel cs x hx
 obtain ⟨n,rfl,_,hw⟩:=DataW.trod_int ht hx
 refine ⟨n,?_,rfl,oE (.val _)⟩
 simpa [Lit.wf,IntKind.min,IntKind.max,IntKind.signed,IntKind.bits] using hw
theorem He {α β:Type} {g:α->Option β}:∀ {l:List α} {m:List β},l.mapM g=some m->m.length=l.length∧ ∀(i:Nat) (a:α),l[i]?=some a->g a=m[i]?:=by
 intro l
 induction l with
 | nil=>intro m h;simp at h;subst h;simp
 | cons a l ih =>
  intro m h
  simp only [List.mapM_cons,Option.bind_eq_bind,Option.bind_eq_some_iff,Option.pure_def,Option.some.injEq] at h
  obtain ⟨b,hb,m',hm,rfl⟩:=h
  obtain ⟨h1,h2⟩:=ih hm
  refine ⟨by simp [h1],fun i x hx=>?_⟩
  cases i with
  | zero=>simp at hx;subst hx;simpa using hb
  | succ i=>simpa using h2 i x (by simpa using hx)
theorem I5 {w:World} {ad:Addr} {n:Nat} {cs:List Value} (h:w.cells? 0 ad n=some cs):cs.length=n∧ ∀j,j<n->w.cell? (ad.add j)=cs[j]?:=by
 simp only [World.cells?,Nat.zero_le,if_true] at h
 obtain ⟨h1,h2⟩:=He h
 exact ⟨by simpa using h1,fun j hj=>h2 j j (by simp [hj])⟩
theorem CE {H:Type} {enc:TypeId×Value->H} {w:World} {fuel e:Nat} (hC:ov P t f ok) (ad:Addr):∀(n:Nat) (elems:List (DataW H×List MemPlace)),n≤elems.length ->
  (∀i,i<n->(w.cells? 0 (ad.add (i*e)) e).bind (DataW.trod enc P w 0 (fun _=>true) true fuel t)=elems[i]?) ->
  ∃(l:List T) (us:List Value),l.length=n∧(∀a∈l,ok a)∧us.length=n*e∧(af f l).length=n*e∧(∀(j:Nat) u,us[j]?=some u->w.cell? (ad.add j)=some u)∧ ∀(j:Nat) u y,us[j]?=some u->(af f l)[j]?=some y->cp (fun b=>b<w.heap.size) w u y:=by
 intro n
 induction n with
 | zero=>intro elems _ _;exact ⟨[],[],rfl,by simp,by simp,by simp [af],by simp,by simp⟩
 | succ n ih =>
  intro elems hn MU
  obtain ⟨l,us,h1,h2,h3,h4,h5,h6⟩:=ih elems ah (fun i hi=>MU i ah)
  have hx:=MU n ah
  rw [List.getElem?_eq_getElem ah] at hx
  rw [Option.bind_eq_some_iff] at hx
  obtain ⟨cs,wm,Ue⟩:=hx
  obtain ⟨gw,U2⟩:=I5 wm
  obtain ⟨a,ha,vo,gv⟩:=hC H enc w fuel cs _ Ue
  refine ⟨l++ [a],us++cs,by simp [h1],?_,?_,?_,?_,?_⟩
  ·intro b hb
   rcases List.mem_append.1 hb with hb|hb
   ·exact h2 b hb
   ·simp at hb;subst hb;exact ha
  ·rw [List.length_append,h3,gw,Nat.add_mul];omega
  ·rw [←ja,List.length_append,h4,vo,gw,Nat.add_mul];omega
  ·intro j u hu
   by_cases hj:j<us.length
   ·rw [List.getElem?_append_left hj] at hu;exact h5 j u hu
   ·rw [List.getElem?_append_right ah] at hu
    have cW:j-us.length<e:=by
     have:=(List.getElem?_eq_some_iff.1 hu).1;omega
    have:=U2 (j-us.length) cW
    rw [hu,Addr.add_add] at this
    rw [←this];congr 2;omega
  ·intro j u y hu hy
   rw [←ja] at hy
   by_cases hj:j<us.length
   ·rw [List.getElem?_append_left hj] at hu
    rw [List.getElem?_append_left ah] at hy
    exact h6 j u y hu hy
   ·rw [List.getElem?_append_right ah] at hu
    rw [List.getElem?_append_right ah,h4,←h3] at hy
    exact gv _ u y hu hy
theorem Bz {te:TypeId} {e:Nat} (ht:P.underlying t=some (.slice te)) (he:P.cellsOf te=e) (hC:ov P te f ok):ov P t (fun l:List T=>[.sl e (af f l)]) (fun l=>∀a∈l,ok a):=by
 intro H enc w fuel cs x hx
 rcases DataW.trod_slice ht hx with ⟨rfl,_⟩|⟨a,len,cap,elems,rest,n,_,rfl,NT,_,E7,sL,MU,ix,_,_⟩
 ·exact ⟨[],by simp,rfl,oE (iD none 0 0 e (by simp) (Nat.le_refl _) (by simp))⟩
 ·rw [he] at ix
  obtain ⟨l,us,h1,h2,h3,h4,h5,h6⟩:=CE hC a len elems ah ix
  refine ⟨l,h2,rfl,oE (.sl _ _ _ _ us _ (h3.trans h4.symm) (by rw [h4,Nat.mul_comm]) E7 sL (fun h0=>⟨a,rfl,?_,h5⟩) h6)⟩
  have hu:0<us.length:=ah
  have:=h5 0 us[0] (List.getElem?_eq_getElem hu)
  have hb:w.heap[(a.add 0).block]?≠none:=by
   intro hn
   rw [World.cell?,hn] at this
   cases this
  rw [gA] at hb
  exact Nat.lt_of_not_le fun hle=>hb (Array.getElem?_eq_none hle)
def OI (P:Program) (t:TypeId):Bool:=match P.underlying t with|some (.int _)|some .string|some .bool|some (.slice _)=>true|_=>false
theorem ov.one {g:T->AV} (h:ov P t (fun a=>[g a]) ok) (ht:OI P t=true):P4 P t g ok:=by
 intro H enc w base v d ps hv hd
 obtain ⟨fuel,hd⟩:=hd
 have hc:v.cells= #[v]:=by
  simp only [OI] at ht
  split at ht
  ·rename_i hu;obtain ⟨n,rfl⟩:=okWide_int hu hv;rfl
  ·rename_i hu
   simp only [Value.okWide,hu,Cell.okWide] at hv
   cases v<;>simp_all [Cell.ok]
   rfl
  ·rename_i hu
   simp only [Value.okWide,hu,Cell.okWide] at hv
   cases v<;>simp_all [Cell.ok]
   rfl
  ·rename_i hu;obtain ⟨_,_,_,rfl⟩:=okWide_slice hu hv;rfl
  ·cases ht
 rw [hc] at hd
 obtain ⟨a,h1,h2,h3⟩:=h H enc w fuel _ _ hd
 exact ⟨a,h1,h3 0 _ _ rfl rfl⟩
theorem FA (l:List Int):af (fun c:Int=>[ai c]) l=ax l:=by
 induction l with
 | nil=>rfl
 | cons c l ih=>rw [jb,ih];rfl
theorem EK {te:TypeId} (ht:P.underlying t=some (.slice te)) (he:P.underlying te=some (.int .i64)) (hc:P.cellsOf te=1):ov P t (fun l:List Int=>[.sl 1 (ax l)]) (fun l=>∀n∈l,Hx n) :=
 (Bz ht hc (GQ he)).map id (fun l _=>by rw [FA];rfl) (fun _ h=>h)
end
theorem bK.law {P:Program} {f:FuncId} {args:List AV} (h:bK P f args (ao true)) (w:World) (jR:Good w) (vs:List Value) (hl:vs.length=args.length) (hr:∀(j:Nat) v x,vs[j]?=some v->args[j]?=some x->cp (fun b=>b<w.heap.size) w v x) :
  Calls P f vs.toArray w fun e w'=>e= .returned (.bool true)∧Below w.heap.size w w':=by
 refine (h w (fun b=>b<w.heap.size) vs jR (fun _ h=>h) hl hr).mono fun e w' ⟨v,O,he,hb,_,_,hg⟩=>⟨?_,hb⟩
 subst he
 rcases hg with hg|⟨_,_,_,hx,_⟩
 ·rcases hg with hg|⟨_,_,_,hx,_⟩
  ·cases hg with
   | rep bV=>cases bV;rfl
  ·cases hx
 ·cases hx
theorem JY (S:Nat->Prop) (w:World) (j:Nat) (v:Value) (x:AV) (h:([]:List Value)[j]?=some v) (_:([]:List AV)[j]?=some x):cp S w v x:=by simp at h
theorem GH {S:Nat->Prop} {w:World} {v:Value} {x:AV} {vs:List Value} {xs:List AV} (h:cp S w v x) (h2:∀(j:Nat) v x,vs[j]?=some v->xs[j]?=some x->cp S w v x) (j:Nat) (u:Value) (y:AV) (hu:(v::vs)[j]?=some u) (hy:(x::xs)[j]?=some y):cp S w u y:=by
 cases j with
 | zero=>simp at hu hy;subst hu hy;exact h
 | succ j=>exact h2 j u y (by simpa using hu) (by simpa using hy)
theorem Below.Gg {H:Type} {enc:TypeId×Value->H} {P:Program} (hl:laidOutB P=true) {W W':World} (hb:Below W.heap.size W W'):∀(ts:List TypeId) (vs:List Value) (ds:List (DataW H)) (ps:List MemPlace),(ts.all fun t=>P.readableRec t && decide (t<P.types.size))=true ->
  DataW.TrodAll enc P W 0 (fun _=>true) true ts vs ds ps->DataW.TrodAll enc P W' 0 (fun b=>decide (b<W.heap.size)) true ts vs ds ps:=by
 intro ts
 induction ts with
 | nil=>intro vs ds ps _ h;cases vs<;>cases ds<;>simp_all [DataW.TrodAll]
 | cons t ts ih =>
  intro vs ds ps hr h
  rw [List.all_cons,Bool.and_eq_true,Bool.and_eq_true] at hr
  obtain ⟨v,VM,d,Wf,p,q,rfl,rfl,rfl,h1,h2⟩:=trodAll_cons h
  have lt:∀x∈p,x.block<W.heap.size:=by obtain ⟨m,hm⟩:=h1;exact DataW.trod_lt m _ _ _ hm
  exact ⟨p,q,Below.trod hl hr.1.1 (of_decide_eq_true hr.1.2) h1 hb lt,ih _ _ _ hr.2 h2,rfl⟩
end Go.Proofs.YtjgbhhnghedgdaaGreatDoor
