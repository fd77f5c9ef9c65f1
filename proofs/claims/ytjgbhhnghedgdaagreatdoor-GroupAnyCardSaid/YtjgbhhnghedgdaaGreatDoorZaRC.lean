import Derived.Test.YtjgbhhnghedgdaaGreatDoorZaRL
import Derived.Orders
import Derived.Tactics
import Derived.WalkKit
import Derived.ProofKit
import Derived.OpenShut
import Derived.ShutString
import Derived.ChangeOld
import Derived.Below
import Derived.RangeFuncRecord
set_option linter.all false
namespace Go.Proofs.YtjgbhhnghedgdaaGreatDoor
open Go.RowKit
def CR (P:Program) (n:Nat) (s:AS) (d:Option Nat) (src dst id:Nat):Option (AS×List Prop) :=
 match look s.H id,P.underlying src with
 | some ⟨e,true,_,cells⟩,some (.slice el)=>(match P.underlying el,Nat.beq src dst with
  | some (.int .u8),true=>(match gE n (ck id s) d (.sl e cells) with|some s'=>some (s',[0<cells.length])|none=>none)
  | _,_=>none)
 | _,_=>none
section
variable {P:Program} {n:Nat} {s:AS} {o:Oper} {h:Hint} {q:AS×List Prop}
theorem ya {w:World} {g:Nat} {cur:Array Value} {te:TypeId} {fr:Nat×Nat} (hg:w.heap[g]?=some (.cells cur te fr)) (k:Nat):(∃Q0,(w.freeze ⟨g,k,none⟩ 1).heap[g]?=some (.cells cur te Q0))∧(w.freeze ⟨g,k,none⟩ 1).heap.size=w.heap.size∧(∀b,b≠g->(w.freeze ⟨g,k,none⟩ 1).heap[b]?=w.heap[b]?)∧(w.freeze ⟨g,k,none⟩ 1).os=w.os∧(w.freeze ⟨g,k,none⟩ 1).tape=w.tape∧(w.freeze ⟨g,k,none⟩ 1).output=w.output:=by
 unfold World.freeze
 rw [if_neg (by decide)]
 obtain ⟨lo,hi⟩:=fr
 refine ⟨⟨if lo == hi then (k,k+1) else (min lo k,max hi (k+1)),?_⟩,by simp,fun b hb=>?_,rfl,rfl,rfl⟩
 ·simp only [Array.getElem?_modify,if_true,hg,Option.map_some]
 ·simp only [Array.getElem?_modify]
  rw [if_neg (fun e=>hb e.symm)]
theorem run_mark {w:World} {t e:TypeId} {g l c:Nat} {cur:Array Value} {te:TypeId} {fr:Nat×Nat} (ht:P.underlying t=some (.slice e)) (he:P.underlying e=some (.int .u8)) (hg:w.heap[g]?=some (.cells cur te fr)) :
  (convert t t (.slice (some ⟨g,0,none⟩) l c)).run P w= .ok (.slice (some ⟨g,0,none⟩) l c) (w.freeze ⟨g,cur.size,none⟩ 1):=by
 have Cu:w.shape? g=some (te,cur.size):=by unfold World.shape?;rw [hg]
 simp [convert,run_underlying ht,run_underlying he,markStringish,Cu]
theorem F1 {src dst id:Nat} {x:Operand} (ho:o.op= .convert src dst x) (hx:bp s x= .ref id) (hr:CR P n s o.dst src dst id=some q):ma P n s o q.1 q.2:=by
 intro hC S0 w0 a w Q ⟨φ,hs⟩
 unfold CR at hr
 split at hr
 ·rename_i e f cells el lB hu
  split at hr
  ·rename_i he hb
   split at hr
   ·rename_i s' eW
    injection hr with hr;subst hr
    have Uz:=Nat.eq_of_beq_eq_true hb
    subst Uz
    have PF:0<cells.length:=hC.1
    have dx:=hs.bp x
    rw [hx] at dx
    generalize hv:a.eval x=v at dx
    cases dx with
    | rep bZ=>cases bZ
    | cD _ e' hi =>
     have nE:=br (φ:=φ) lB
     rw [hi] at nE
     simp at nE
     omega
    | ref _ e' m g l c hi hm hc Er bY =>
     have nE:=br (φ:=φ) lB
     rw [hi] at nE
     simp at nE
     obtain ⟨h1,h2,h3⟩:=nE
     subst h1 h2
     have cm:φ id=some g:=h3.symm
     have aP:=hs.rows id _ lB
     unfold bN at aP
     rw [cm] at aP
     obtain ⟨cur,te,fr,hg,hf,hle,-,bu⟩:=aP
     obtain ⟨⟨Q0,k1⟩,k2,k3,k4,k5,k6⟩:=ya hg cur.size
     have cp:(execOp a.eval o).run P w= .ok (.value (.slice (some ⟨g,0,none⟩) l c)) (w.freeze ⟨g,cur.size,none⟩ 1):=by
      unfold execOp;simp only [ho,hv,Sem.run_bind,run_mark hu he hg,Result.andThen_ok];rfl
     refine cT cp ⟨erase φ id,?_⟩
     have r1:=hs.jw id [g] (by rw [cm])
     have r2:=r1.vX (w':=w.freeze ⟨g,cur.size,none⟩ 1) (fun g' ja=>by simp at ja;rw [ja];exact (hs.cW id g cm).1.2) k4 k5 k6 ah (fun b _ hn=>k3 b (by simpa using hn))
     have r3:=r2.uS
     refine dW r3 (.rep ?_) eW
     have uH:aN S0 (w.freeze ⟨g,cur.size,none⟩ 1) (erase φ id) [] g:=⟨by rw [k2];exact (hs.cW id g cm).2,by simp,fun i hi=>by
      unfold erase at hi
      split at hi
      ·cases hi
      ·rename_i cV;exact cV (hs.inj i id g hi cm),hs.new g (hs.cW id g cm).1.2⟩
     refine e9 (r:=⟨e',true,f,cells⟩) k1 uH cells 0 (by simpa using hle) hm hc Er _ (fun _=>rfl) (fun j u y hu hy=>?_)
     have TJ:=bu j u y (by simpa using hu) hy
     unfold bg at TJ
     refine cz.mono (fun b hb=>?_) TJ
     have cV:b≠g:=fun e=>hb.2.2.1 id (by rw [cm,e])
     refine ⟨⟨by rw [k2];exact hb.1,by simp,fun i hi=>?_,hb.2.2.2⟩,k3 b cV⟩
     unfold erase at hi
     split at hi
     ·cases hi
     ·exact hb.2.2.1 i hi
   ·cases hr
  ·cases hr
 ·cases hr
end
def Bh (P:Program) (n:Nat) (s:AS) (o:Oper) (h:Hint):Option (AS×List Prop) :=
 match qh P s o h with
 | some (x,C)=>(match gE n s o.dst x with|some s'=>some (s',C)|none=>none)
 | none=>none
def Bi (P:Program) (n:Nat) (s:AS) (o:Oper) (h:Hint):Option (AS×List Prop) :=
 match o.op with
 | .alloc t=>(match o.dst with|some d=>og P n s d t h|none=>none)
 | .box t x=>(match o.dst with|some d=>Jb P n s d t (bp s x)|none=>none)
 | .buildSlice t len parts=>(match o.dst with|some d=>uZ P n s d t len parts.toList h|none=>none)
 | .makeSlice t l c=>(match bp s l,bp s c,o.dst with| .val (.int _ L),.val (.int _ C),some d=>CS P n s d t L C h|_,_,_=>none)
 | .convert src dst x=>(match bp s x,P.underlying dst,o.dst with
  | .val (.string b),some (.slice _),some d=>yy P n s d src dst b
  | .ref id,some (.slice _),_=>CR P n s o.dst src dst id
  | _,_,_=>Bh P n s o h)
 | .store t x y=>(match o.dst with|none=>yh P s t x y h|some _=>none)
 | .call ⟨.builtin .append,⟨[x,y]⟩,⟨[t,xt]⟩⟩=>(match o.dst with|some d=>kR P n s d t xt (bp s x) (bp s y) h|none=>none)
 | .call ⟨.builtin .copy,⟨[x,y]⟩,⟨[t,xt]⟩⟩=>C7 P n s o.dst t xt (bp s x) (bp s y) h
 | .call ⟨.builtin _,_,_⟩=>Bh P n s o h
 | .call ⟨c,xs,_⟩=>(match h.ln with| []=>(match callee s c with|some _=>rA P n s o.dst c xs.toList h|none=>yx P n s o.dst c xs.toList h)|_=>oe P n s o.dst c xs.toList h)
 | .makeFunc (.func f) ⟨[]⟩ ⟨xs⟩=>(match o.dst with|some d=>CV n s d f xs|none=>none)
 | _=>Bh P n s o h
section
variable {P:Program} {n:Nat} {s:AS} {o:Oper} {h:Hint} {q:AS×List Prop}
theorem uY (hr:Bh P n s o h=some q):ma P n s o q.1 q.2:=by
 unfold Bh at hr
 split at hr
 ·rename_i x C hp
  split at hr
  ·rename_i s' bY
   cases hr
   exact Hz (kQ hp) bY
  ·cases hr
 ·cases hr
theorem oc (hr:Bi P n s o h=some q):ma P n s o q.1 q.2:=by
 unfold Bi at hr
 split at hr
 ·rename_i ho
  split at hr
  ·rename_i hd;exact u_ ho hd hr
  ·cases hr
 ·rename_i ho
  split at hr
  ·rename_i hd;exact Ja ho hd hr
  ·cases hr
 ·rename_i ho
  split at hr
  ·rename_i hd;exact Bj ho hd hr
  ·cases hr
 ·rename_i ho
  split at hr
  ·rename_i hl hc hd;exact F6 ho hl hc hd hr
  ·cases hr
 ·rename_i ho
  split at hr
  ·rename_i hx _ hd;exact C_ ho hx hd hr
  ·rename_i hx _;exact F1 ho hx hr
  ·exact uY hr
 ·rename_i ho
  split at hr
  ·rename_i hd;exact CO ho hd hr
  ·cases hr
 ·rename_i ho
  split at hr
  ·rename_i hd;exact sg ho hd hr
  ·cases hr
 ·rename_i ho;exact Ga ho hr
 ·exact uY hr
 ·rename_i ho
  split at hr
  ·split at hr
   ·exact wU ho hr
   ·exact C9 ho hr
  ·exact u9 ho hr
 ·rename_i ho
  split at hr
  ·rename_i hd;exact F9 ho hd hr
  ·cases hr
 ·exact uY hr
end
def SK (P:Program) (n:Nat) (ops:List Oper) (s:AS) (o:Oper) (h:Hint):Option (AS×List Prop) :=
 match o.guard with
 | none=>Bi P n s o h
 | some (j,want)=>(match ops[j]? with
  | some p=>(match p.dst with
   | some d=>(match jR s d with
    | .val (.bool b)=>(match h.g == want with
     | true=>(match Bi P n s o h with|some (s',C)=>some (s',(b=h.g)::C)|none=>none)
     | false=>(match gE n s o.dst (.val (.tuple #[])) with|some s'=>some (s',[b=h.g])|none=>none))
    | .val (.tuple _)=>(match gE n s o.dst (.val (.tuple #[])) with|some s'=>some (s',[])|none=>none)
    | _=>none)
   | none=>none)
  | none=>none)
def gv (hs:List (Nat×Hint)) (i:Nat):Hint:=match look hs i with|some h=>h|none=>{}
def j0 (P:Program) (n:Nat) (ops:List Oper) (hs:List (Nat×Hint)):List Oper->Nat->AS->Option (AS×List Prop)
 | [],_,s=>some (s,[])
 | o::l,i,s=>match SK P n ops s o (gv hs i) with
  | some (s1,C)=>(match j0 P n ops hs l (i+1) s1 with|some (s2,D)=>some (s2,C++D)|none=>none)
  | none=>none
section
variable {P:Program} {n:Nat} {ops:List Oper} {S0:bm} {w0:World} {Q:Exit->Act->World->Prop}
theorem qo {I:Info} {S:Nat->Prop} {w:World} {a:Act} {d:Nat} {b:Bool} (h:Den I S w (a.tmps.getD d undef) (.val (.bool b))):a.tmps[d]?=some (.bool b):=by
 have h':=bL h
 cases ht:a.tmps[d]? with
 | none=>simp [ht,undef] at h'
 | some u=>simp [ht] at h';rw [h']
theorem me {a:Act} {j d:Nat} {p:Oper} {b:Bool} (hp:ops[j]?=some p) (hd:p.dst=some d) (ht:a.tmps[d]?=some (.bool b)):yielded ops.toArray a.tmps j=some b:=by
 unfold yielded
 simp [hp,hd,ht]
theorem mc {a:Act} {j d:Nat} {p:Oper} {arr:Array Value} (hp:ops[j]?=some p) (hd:p.dst=some d) (ht:a.tmps.getD d undef= .tuple arr):yielded ops.toArray a.tmps j=none:=by
 unfold yielded
 simp only [List.getElem?_toArray,hp,Option.bind_some,hd]
 rw [Array.getD_eq_getD_getElem?] at ht
 cases h:a.tmps[d]? with
 | none=>rfl
 | some u=>rw [h] at ht;simp at ht;rw [ht]
theorem I_ {s:AS} {o:Oper} {h:Hint} {q:AS×List Prop} (hr:SK P n ops s o h=some q) (hC:bx q.2) {a:Act} {w:World} (hs:iu S0 w0 n s a w) (K:Act->World->Prop) (hK:∀a' w',iu S0 w0 n q.1 a' w'->K a' w') :
  if Region.wanted o (yielded ops.toArray a.tmps) then o.wp P a w K Q∨(o.asks P a w∧LetsOut Q) else K (a.put o.dst undef) w:=by
 unfold SK at hr
 split at hr
 ·rename_i hg
  have hw:Region.wanted o (yielded ops.toArray a.tmps)=true:=by unfold Region.wanted;rw [hg]
  rw [if_pos hw]
  exact .inl (Oper.wp_mono hK (oc hr hC S0 w0 a w Q hs))
 ·rename_i j want hg
  split at hr
  ·rename_i p hp
   split at hr
   ·rename_i d hd
    split at hr
    ·rename_i b hb
     obtain ⟨φ,bY⟩:=hs
     have ht:=bY.get d
     rw [hb] at ht
     have hy:=me (ops:=ops) hp hd (qo ht)
     split at hr
     ·rename_i jX
      split at hr
      ·rename_i s' C he
       cases hr
       obtain ⟨FP,hC⟩:=hC
       have hw:Region.wanted o (yielded ops.toArray a.tmps)=true:=by
        unfold Region.wanted;rw [hg];simp only [hy,FP]
        have:h.g=want:=by simpa using jX
        rw [this];simp
       rw [if_pos hw]
       exact .inl (Oper.wp_mono hK (oc he hC S0 w0 a w Q ⟨φ,bY⟩))
      ·cases hr
     ·rename_i jX
      split at hr
      ·rename_i s' Ew
       cases hr
       obtain ⟨FP,-⟩:=hC
       have hw:¬Region.wanted o (yielded ops.toArray a.tmps)=true:=by
        unfold Region.wanted;rw [hg];simp only [hy,FP]
        have:¬h.g=want:=by simpa using jX
        simpa using this
       rw [if_neg hw]
       exact hK _ _ ⟨φ,dW bY (.rep (.val _)) Ew⟩
      ·cases hr
    ·rename_i arr hb
     obtain ⟨φ,bY⟩:=hs
     have ht:=bY.get d
     rw [hb] at ht
     have hy:=mc (ops:=ops) hp hd (bL ht)
     split at hr
     ·rename_i s' Ew
      cases hr
      have hw:¬Region.wanted o (yielded ops.toArray a.tmps)=true:=by
       unfold Region.wanted;rw [hg];simp [hy]
      rw [if_neg hw]
      exact hK _ _ ⟨φ,dW bY (.rep (.val _)) Ew⟩
     ·cases hr
    ·cases hr
   ·cases hr
  ·cases hr
theorem jN {hs:List (Nat×Hint)}:∀(l:List Oper) (i:Nat) (s s':AS) (C:List Prop),j0 P n ops hs l i s=some (s',C)->bx C-> ∀(a:Act) (w:World),iu S0 w0 n s a w->(∀a' w',iu S0 w0 n s' a' w'->Q .normal a' w')->wpList P ops.toArray Q l a w
 | [],i,s,s',C,he,hC,a,w,hs,hQ=>by cases he;exact hQ a w hs
 | o::l,i,s,s',C,he,hC,a,w,hs,hQ=>by
  simp only [j0] at he
  split at he
  ·rename_i s1 C1 h1
   split at he
   ·rename_i s2 D h2
    cases he
    obtain ⟨iI,hD⟩:=bQ.1 hC
    have:=I_ (S0:=S0) (w0:=w0) (Q:=Q) h1 iI hs (wpList P ops.toArray Q l) (fun a' w' h'=>jN l (i+1) s1 s' D h2 hD a' w' h' hQ)
    unfold wpList
    exact this
   ·cases he
  ·cases he
end
def IU:AV->AV
 | .own e row=>.sl e row
 | .box row=>.ptr row 0
 | x=>x
def FV:AV->AV
 | .agg cs=>.agg (cs.map IU)
 | x=>IU x
def OH:AV->AV
 | .bq cs=>.bq (cs.map FV)
 | x=>FV x
section
variable {S S':Nat->Prop} {w:World}
theorem x_ (hS:∀b,S b->S' b) {v:Value} {x:AV} {O:List Nat} (hO:∀g∈O,S' g) (h:h_ S w v x O):cz S' w v (IU x):=by
 cases h with
 | rep h =>
  have:=h.mono fun b hb=>⟨hS b hb,rfl⟩
  cases h<;>exact this
 | nil e=>exact iN none 0 0 e (by simp) (by simp) (by simp)
 | own g l c e row cur te fr hg hf hl hc hm hs h =>
  exact e9 (r:=⟨e,true,false,row⟩) hg (hO g (by simp)) row 0 (by rw [hl,hs,Nat.zero_add];exact Nat.mul_le_mul_left _ hc) hl hc hm _ (fun _=>rfl) (fun j u x hu hx=>(h j u x (by simpa using hu) hx).mono fun b hb=>⟨hS b hb,rfl⟩)
 | box g row cur te fr hg hf hs h =>
  exact o9 (off:=0) hg (hO g (by simp)) row ah (fun j u x hu hx=>(h j u x hu hx).mono fun b hb=>⟨hS b hb,rfl⟩)
theorem EH {R:Value->AV->List Nat->Prop} {f:AV->AV} (hR:∀v x O,(∀g∈O,S' g)->R v x O->cz S' w v (f x)) {vs:List Value} {xs:List AV} {O:List Nat} (h:kW R vs xs O):(∀g∈O,S' g)->vs.length=(xs.map f).length∧ ∀(j:Nat) v c,vs[j]?=some v->(xs.map f)[j]?=some c->cz S' w v c:=by
 induction h with
 | nil=>intro _;exact ⟨rfl,fun j v c hv=>by simp at hv⟩
 | cons h _ ih =>
  intro hO
  obtain ⟨h1,h2⟩:=ih fun g hg=>hO g (by simp [hg])
  refine ⟨by simpa using h1,fun j v c hv hc=>?_⟩
  cases j with
  | zero=>simp at hv hc;subst hv;subst hc;exact hR _ _ _ (fun g hg=>hO g (by simp [hg])) h
  | succ j=>exact h2 j v c (by simpa using hv) (by simpa using hc)
theorem x9 (hS:∀b,S b->S' b) {v:Value} {x:AV} {O:List Nat} (hO:∀g∈O,S' g) (h:nU S w v x O):cz S' w v (FV x):=by
 rcases h with h|⟨vs,cs,rfl,rfl,hL⟩
 ·by_cases hx:∃cs,x= .agg cs
  ·obtain ⟨cs,rfl⟩:=hx
   cases h with
   | rep h=>cases h with
    | agg vs _ hl h =>
     refine .agg vs _ (by simpa using hl) fun j v c hv hc=>?_
     rw [List.getElem?_map] at hc
     cases hj:cs[j]? with
     | none=>rw [hj] at hc;cases hc
     | some y=>rw [hj] at hc;injection hc with hc;subst hc;exact x_ hS (O:=[]) (by simp) (.rep (h j v y hv hj))
  ·have:FV x=IU x:=by
    cases x with
    | agg cs=>exact absurd ⟨cs,rfl⟩ hx
    | _=>rfl
   rw [this];exact x_ hS hO h
 ·obtain ⟨h1,h2⟩:=EH (S':=S') (f:=IU) (fun v x O hO h=>x_ hS hO h) hL hO
  exact .agg vs _ h1 h2
theorem IQ (hS:∀b,S b->S' b) {v:Value} {x:AV} {O:List Nat} (hO:∀g∈O,S' g) (h:sP S w v x O):cz S' w v (OH x):=by
 rcases h with h|⟨vs,cs,rfl,rfl,hL⟩
 ·by_cases hx:∃cs,x= .bq cs
  ·obtain ⟨cs,rfl⟩:=hx
   rcases h with h|⟨vs,J8,h1,h2,h3⟩
   ·cases h with
    | rep h=>cases h with
     | bq vs _ hl h =>
      refine .bq vs _ (by simpa using hl) fun j v c hv hc=>?_
      rw [List.getElem?_map] at hc
      cases hj:cs[j]? with
      | none=>rw [hj] at hc;cases hc
      | some y=>rw [hj] at hc;injection hc with hc;subst hc;exact x9 hS (O:=[]) (by simp) (.inl (.rep (h j v y hv hj)))
   ·cases h2
  ·have:OH x=FV x:=by
    cases x with
    | bq cs=>exact absurd ⟨cs,rfl⟩ hx
    | _=>rfl
   rw [this];exact x9 hS hO h
 ·obtain ⟨h1,h2⟩:=EH (S':=S') (f:=FV) (fun v x O hO h=>x9 hS hO h) hL hO
  exact .bq vs _ h1 h2
end
def ry (P:Program) (s:AS) (o:Oper) (h:Hint):Option (AV×List Prop) :=
 match o.op with
 | .buildSlice t len parts=>(match P.underlying t with
  | some (.slice el)=>(match eh P el,(P.info? el).bind (·.zero) with
   | some (z+1),some zero=>(match fT s (z+1) 0 parts.toList,Nat.beq parts.toList.length len,Nat.ble (len*(z+1)) 16777216,Nat.beq zero.cells.size (z+1) with
    | some cells,true,true,true=>(match dY cells with
     | true=>some (.sl (z+1) (named h cells).1,(named h cells).2)
     | false=>none)
    | _,_,_,_=>none)
   | _,_=>none)
  | _=>none)
 | .makeSlice t l c=>(match bp s l,bp s c,P.underlying t with
  | .val (.int _ L),.val (.int _ C),some (.slice el)=>(match P.info? el with
   | some i=>(match i.zero,i.size with
    | some zero,z+1=>(match Nat.beq zero.cells.size (z+1) with
     | true=>some (.sl (z+1) (named h (tn (zero.cells.toList.map bC) h.k)).1,(named h (tn (zero.cells.toList.map bC) h.k)).2++ [L=(h.k:Int),C=(h.m:Int),h.k≤h.m,i.bytes*h.m≤281474976710656,h.m≤maxLen])
     | false=>none)
    | _,_=>none)
   | none=>none)
  | _,_,_=>none)
 | .call ⟨.builtin _,_,_⟩=>qh P s o h
 | .call ⟨c,xs,_⟩=>(match callee s c,h.av with
  | some f,some r=>(match ib P f,h.b with
   | true,true=>(match jQ s (xs.toList.map (bp s)),flat r with
    | some vs,some C=>some (OH r,bK P f vs r::C)
    | _,_=>none)
   | true,false=>(match ly (xs.toList.map (bp s)) with
    | true=>some (OH r,[bK P f (xs.toList.map (bp s)) r])
    | false=>none)
   | _,_=>none)
  | _,_=>none)
 | _=>qh P s o h
def DG (P:Program) (s:AS) (o:Oper) (x:AV) (C:List Prop):Prop :=
 bx C-> ∀S0 w0 n a w φ Q (b:Act),aL S0 w0 n [] s a w φ->b.tmps=a.tmps->o.wp P b w (fun b' w'=>∃v,b'=b.put o.dst v∧Below w.heap.size w w'∧Den (az s.H φ) (aN S0 w' φ []) w' v x) Q
theorem eE {a b:Act} (h:b.tmps=a.tmps):b.eval=a.eval:=by
 funext x
 cases x<;>simp [Act.eval,h]
section
variable {P:Program} {s:AS} {o:Oper} {h:Hint} {r:AV×List Prop}
theorem uJ (hp:dc P s o r.1 r.2):DG P s o r.1 r.2:=by
 intro hC S0 w0 n a w φ Q b hs hb
 obtain ⟨v,cp,dU⟩:=hp hC S0 w0 n [] a w φ hs
 rw [←eE hb] at cp
 exact cT cp ⟨v,rfl,Below.refl _ _,dU⟩
theorem l3 {S0:bm} {w0 w w':World} {n:Nat} {a:Act} {φ:Nat->Option Nat} (hs:aL S0 w0 n [] s a w φ) (hb:Below w.heap.size w w') (b:Nat) (h:aN S0 w φ [] b∨(w.heap.size≤b∧b<w'.heap.size)):aN S0 w' φ [] b:=by
 rcases h with h|⟨h1,h2⟩
 ·exact ⟨by have:=h.1;have:=hb.size;omega,by simp,h.2.2⟩
 ·exact ⟨h2,by simp,fun i hi=>by have:=(hs.cW i b hi).2;omega,hs.new b (.inl (by have:=hs.cX.size;omega))⟩
theorem wL {c:Callee} {xs:Array Operand} {ts:Array TypeId} {f:FuncId} {args:List AV} {x:AV} {C:List Prop} (ho:o.op= .call ⟨c,xs,ts⟩) (hc:callee s c=some f) (hE:ib P f=true) (nD:bx C->bK P f args x) (hl:args.length=xs.toList.length)
  (hG:bx C-> ∀S0 w0 n a w φ,aL S0 w0 n [] s a w φ-> ∃S:Nat->Prop,(∀b,S b->b<w.heap.size)∧(∀(j:Nat) v y,(xs.toList.map a.eval)[j]?=some v->args[j]?=some y->cz S w v y)∧ ∀w' v O,sP (fun b=>S b∨(w.heap.size≤b∧b<w'.heap.size∧b ∉ O)) w' v x O->sP (fun b=>aN S0 w φ [] b∨(w.heap.size≤b∧b<w'.heap.size∧b ∉ O)) w' v x O):DG P s o (OH x) C:=by
 intro hC S0 w0 n a w φ Q b hs hb
 have cp:=jq (P:=P) hs hc ho hE
 rw [←eE hb] at cp
 obtain ⟨S,hS,iC,uF⟩:=hG hC S0 w0 n a w φ hs
 unfold Oper.wp
 rw [cp]
 have mT:=nD hC w S (xs.toList.map a.eval) hs.cX.mG hS (by simp [hl]) iC
 have e:(xs.toList.map a.eval).toArray=xs.map b.eval:=by rw [eE hb];apply Array.ext';simp
 rw [e] at mT
 refine mT.mono ?_
 rintro en w' ⟨v,O,rfl,pD,ik,mC,hg⟩
 refine ⟨v,rfl,pD,.rep (IQ (fun b hb=>?_) (fun g hg=>?_) (uF w' v O hg))⟩
 ·exact l3 hs pD b (hb.imp id fun h=>⟨h.1,h.2.1⟩)
 ·exact l3 hs pD g (.inr (mC g hg))
theorem wT (hr:ry P s o h=some r):DG P s o r.1 r.2:=by
 unfold ry at hr
 split at hr
 ·rename_i t len parts ho
  split at hr
  ·rename_i el hu
   split at hr
   ·rename_i z zero hz hzero
    split at hr
    ·rename_i cells dM hlen AX uz
     split at hr
     ·rename_i hp
      cases hr
      intro hC S0 w0 n a w φ Q b hs hb
      have hlen:=Nat.eq_of_beq_eq_true hlen
      have AX:len*(z+1)≤16777216:=Nat.le_of_ble_eq_true AX
      have hn:(named h cells).1=cells:=(g_ (C:=[]) (by rw [List.append_nil];exact hC)).1
      obtain ⟨h1,us,h2,h3,-,h4⟩:=Cm hs (z+1) parts.toList 0 cells ((Array.range (len*(z+1))).map (zero.cells[· %zero.cells.size]!)) dM hp (by simp [←hlen])
      have hm:len≤maxLen:=by
       have:len≤len*(z+1):=Nat.le_mul_of_pos_right _ ah
       unfold maxLen;omega
      have cp:(execOp b.eval o).run P w= .ok (.value (.slice (some ⟨w.heap.size,0,none⟩) len len)) {w with heap:=w.heap.push (.cells us el (0,0))}:=by
       have AH:(sizeOf el).run P w= .ok (z+1) w:=run_sizeOf hz
       have oP:(parts.map fun p=>(p.1,a.eval p.2)).toList=parts.toList.map fun p=>(p.1,a.eval p.2):=by simp
       rw [eE hb]
       unfold execOp
       simp only [ho,Instr.buildSlice,Sem.run_bind,run_underlying hu,Result.andThen_ok,AH,Sem.run_ite]
       rw [if_neg ah]
       by_cases h0:len*(z+1)=0
       ·rw [if_pos h0]
        simp only [Sem.run_pure,Result.andThen_ok]
        have:(Array.range (len*(z+1))).map (fun x=>(#[]:Array Value)[x%(#[]:Array Value).size]!)=(Array.range (len*(z+1))).map (fun x=>zero.cells[x%zero.cells.size]!):=by rw [h0,ig,ig]
        rw [this,oP,h2]
        rfl
       ·rw [if_neg h0]
        simp only [iO hzero,Result.andThen_ok,Sem.run_pure]
        rw [oP,h2]
        rfl
      have pD:Below w.heap.size w {w with heap:=w.heap.push (.cells us el (0,0))}:=⟨rfl,rfl,rfl,by simp,fun k hk=>cK w _ k hk⟩
      have gl:cells.length=(z+1)*len:=by rw [h1,hlen,Nat.mul_comm]
      refine cT cp ⟨_,rfl,pD,?_⟩
      simp only [hn]
      refine .rep (e9 (r:=⟨z+1,true,false,cells⟩) (dL w _) (l3 hs pD _ (.inr ⟨Nat.le_refl _,by simp⟩)) cells 0 (by rw [h3,gl];simp [Nat.mul_comm]) gl (Nat.le_refl _) hm _ (fun _=>rfl) (fun j u x hu hx=>?_))
      exact (h4 j u x (by simpa using hu) hx).mono fun b hb=>⟨l3 hs pD b (.inl hb),cK w _ b hb.1⟩
     ·cases hr
    ·cases hr
   ·cases hr
  ·cases hr
 ·rename_i t l c ho
  split at hr
  ·rename_i kl L kc C el hl hc hu
   split at hr
   ·rename_i i hi
    split at hr
    ·rename_i zero z hz dw
     split at hr
     ·rename_i hb
      cases hr
      have hb:=Nat.eq_of_beq_eq_true hb
      intro hC S0 w0 n a w φ Q b hs GF
      obtain ⟨KY,hC⟩:=g_ hC
      obtain ⟨h1,h2,h3,h4,h5,-⟩:=hC
      have Mg:b.eval l= .int kl L:=by rw [eE GF];exact bL (hl ▸ hs.bp l)
      have ec:b.eval c= .int kc C:=by rw [eE GF];exact bL (hc ▸ hs.bp c)
      obtain ⟨cur,cp,wM,bu⟩:=run_make ho Mg ec hu hi hz dw hb h1 h2 h3 h4 h5 w
      have pD:Below w.heap.size w {w with heap:=w.heap.push (.cells cur el (0,0))}:=⟨rfl,rfl,rfl,by simp,fun k hk=>cK w _ k hk⟩
      have Gw:(zero.cells.toList.map bC).length=z+1:=by simp [hb]
      have Gy:=tl (zero.cells.toList.map bC) (z+1) Gw h.k
      have hle:(z+1)*h.k≤(z+1)*h.m:=Nat.mul_le_mul_left _ h3
      refine cT cp ⟨_,rfl,pD,?_⟩
      simp only [KY]
      refine .rep (e9 (r:=⟨z+1,true,false,tn (zero.cells.toList.map bC) h.k⟩) (dL w _) (l3 hs pD _ (.inr ⟨Nat.le_refl _,by simp⟩)) _ 0 (by rw [Gy,wM];omega) Gy h3 h5 _ (fun _=>rfl) (fun j u x hu hx=>?_))
      have h6:=w_ _ (z+1) Gw ah _ _ _ hx
      have h7:=bu j u (by simpa using hu)
      rw [List.getElem?_map] at h6
      have h8:zero.cells.toList[j%(z+1)]?=some u:=by simpa using h7
      rw [h8] at h6;injection h6 with h6;subst h6;exact fN u
     ·cases hr
    ·cases hr
   ·cases hr
  ·cases hr
 ·exact uJ (kQ hr)
 ·rename_i c xs ts _ ho
  split at hr
  ·rename_i f x hc _
   split at hr
   ·rename_i hE _
    split at hr
    ·rename_i vs C hv sH
     cases hr
     refine wL ho hc hE (fun hC=>hC.1) ?_ fun hC S0 w0 n a w φ hs=>?_
     ·have key:∀(l:List AV) (m:List AV),jQ s l=some m->m.length=l.length:=by
       intro l
       induction l with
       | nil=>intro m h;cases h;rfl
       | cons y l ih =>
        intro m h
        simp only [jQ] at h
        split at h
        ·rename_i y' m' _ hm
         cases h
         simp [ih m' hm]
        ·cases h
      rw [key _ _ hv];simp
     ·exact ⟨fun b=>b<w.heap.size,fun _ h=>h,(lM hs _ _ hv).2,fun w' v O hg=>s_ sH hC.2 hg⟩
    ·cases hr
   ·rename_i hE _
    split at hr
    ·rename_i xS
     cases hr
     refine wL ho hc hE (fun hC=>hC.1) (by simp) fun hC S0 w0 n a w φ hs=>⟨aN S0 w φ [],fun b hb=>hb.1,fun j v x hv hx=>?_,fun w' v O hg=>hg⟩
     have M4:=lS xS hx
     rw [List.getElem?_map] at hv hx
     cases hj:xs.toList[j]? with
     | none=>rw [hj] at hv;cases hv
     | some y =>
      rw [hj] at hv hx
      injection hv with hv;injection hx with hx;subst hv;subst hx
      exact nW (hs.bp y) M4
    ·cases hr
   ·cases hr
  ·cases hr
 ·exact uJ (kQ hr)
end
def nA (ds:List Nat):List (Nat×AV)->List (Nat×AV)
 | []=>[]
 | (i,x)::l=>match ds.any (Nat.beq i) with|true=>nA ds l|false=>(i,x)::nA ds l
theorem fP (ds:List Nat):∀(l:List (Nat×AV)) (i:Nat) (x:AV),look (nA ds l) i=some x->look l i=some x∧i ∉ ds
 | [],i,x,h=>by cases h
 | (k,y)::l,i,x,h=>by
  simp only [nA] at h
  have ih:=fP ds l i x
  split at h
  ·rename_i hk
   obtain ⟨h1,h2⟩:=ih h
   rw [aE]
   have cV:k≠i:=fun e=>by
    subst e
    obtain ⟨j,hj,hb⟩:=List.any_eq_true.1 hk
    have:=Nat.eq_of_beq_eq_true hb
    subst this
    exact h2 hj
   rw [if_neg cV];exact ⟨h1,h2⟩
  ·rename_i hk
   rw [aE] at h ⊢
   by_cases sG:k=i
   ·rw [if_pos sG] at h ⊢
    refine ⟨h,fun hm=>?_⟩
    have:ds.any (Nat.beq k)=true:=List.any_eq_true.2 ⟨i,hm,by rw [sG];exact Nat.beq_refl i⟩
    rw [hk] at this;cases this
   ·rw [if_neg sG] at h ⊢
    exact ih h
def jo (ops:List Oper) (gM:List AV):List Nat->List (Nat×AV)
 | []=>[]
 | d::l=>match ops[d]?,gM[d]? with
  | some p,some x=>(match p.dst with|some i=>(i,x)::jo ops gM l|none=>jo ops gM l)
  | _,_=>jo ops gM l
theorem nZ (ops:List Oper) (gM:List AV):∀(l:List Nat) (i:Nat) (x:AV),look (jo ops gM l) i=some x-> ∃d p,d∈l∧ops[d]?=some p∧p.dst=some i∧gM[d]?=some x
 | [],i,x,h=>by cases h
 | d::l,i,x,h=>by
  simp only [jo] at h
  have ih:=nZ ops gM l i x
  have step:look (jo ops gM l) i=some x-> ∃d' p,d'∈d::l∧ops[d']?=some p∧p.dst=some i∧gM[d']?=some x:=fun h=>by
   obtain ⟨d',p,h1,h2⟩:=ih h
   exact ⟨d',p,by simp [h1],h2⟩
  split at h
  ·rename_i p y hp hy
   split at h
   ·rename_i k hk
    rw [aE] at h
    by_cases e:k=i
    ·rw [if_pos e] at h;injection h with h;subst h;subst e
     exact ⟨d,p,by simp,hp,hk,hy⟩
    ·rw [if_neg e] at h;exact step h
   ·exact step h
  ·exact step h
def vL (s:AS) (ds:List Nat) (ops:List Oper) (gM:List AV) (o:Oper):AS:=⟨jo ops gM (bk o)++nA ds s.F,s.H⟩
def sL (P:Program) (ops:List Oper) (s:AS) (o:Oper) (h:Hint):Option (AV×List Prop) :=
 match o.guard with
 | none=>ry P s o h
 | some (j,want)=>(match ops[j]? with
  | some p=>(match p.dst with
   | some d=>(match jR s d with
    | .val (.bool b)=>(match h.g == want with
     | true=>(match ry P s o h with|some (x,C)=>some (x,(b=h.g)::C)|none=>none)
     | false=>some (.val (.tuple #[]),[b=h.g]))
    | .val (.tuple _)=>some (.val (.tuple #[]),[])
    | _=>none)
   | none=>none)
  | none=>none)
def ta (P:Program) (s:AS) (ds:List Nat) (ops:List Oper) (hs:List (Nat×Hint)):List Oper->Nat->List AV->Option (List AV×List Prop)
 | [],_,gM=>some (gM,[])
 | o::l,i,gM=>match sL P ops (vL s ds ops gM o) o (gv hs i) with
  | some (x,C)=>(match ta P s ds ops hs l (i+1) (gM++ [x]) with|some (i7,D)=>some (i7,C++D)|none=>none)
  | none=>none
def jb:List Oper->List AV->List (Nat×AV)
 | o::l,x::m=>(match o.dst with|some d=>(d,x)::jb l m|none=>jb l m)
 | _,_=>[]
def C6 (P:Program) (n T:Nat) (ops:List Oper) (hs:List (Nat×Hint)) (s:AS):Option (AS×List Prop) :=
 match P.follows .mixedOrders,lD ops.toArray n,oG ops.toArray T with
 | true,true,true=>(match ta P s ((ops.take T).filterMap (·.dst)) ops hs (ops.take T) 0 [] with
  | some (gM,C)=>(match j0 P n ops hs (ops.drop T) T ⟨jb (ops.take T) gM++nA ((ops.take T).filterMap (·.dst)) s.F,s.H⟩ with|some (s',D)=>some (s',C++D)|none=>none)
  | none=>none)
 | _,_,_=>none
section
variable {P:Program} {ops:List Oper} {S0:bm} {w0:World} {Q:Exit->Act->World->Prop}
theorem EM {s:AS} {o:Oper} {h:Hint} {r:AV×List Prop} (hr:sL P ops s o h=some r) (hC:bx r.2) {n:Nat} {a b:Act} {w:World} {φ:Nat->Option Nat} (hs:aL S0 w0 n [] s a w φ) (hb:b.tmps=a.tmps) :
  gQ P ops.toArray Q o b w fun v w'=>w.heap.size≤w'.heap.size∧Den (az s.H φ) (aN S0 w' φ []) w' v r.1:=by
 unfold sL at hr
 unfold gQ
 split at hr
 ·rename_i hg
  have hw:Region.wanted o (yielded ops.toArray b.tmps)=true:=by unfold Region.wanted;rw [hg]
  rw [if_pos hw]
  exact Oper.wp_mono (fun b' w' ⟨v,h1,h2,h3⟩=>⟨v,h1,h2,h2.size,h3⟩) (wT hr hC S0 w0 n a w φ Q b hs hb)
 ·rename_i j want hg
  split at hr
  ·rename_i p hp
   split at hr
   ·rename_i d hd
    split at hr
    ·rename_i bb uM
     have ht:=hs.get d
     rw [uM] at ht
     have hy:=me (ops:=ops) hp hd (qo ht)
     rw [←hb] at hy
     split at hr
     ·rename_i jX
      split at hr
      ·rename_i x C he
       cases hr
       obtain ⟨FP,hC⟩:=hC
       have hw:Region.wanted o (yielded ops.toArray b.tmps)=true:=by
        unfold Region.wanted;rw [hg];simp only [hy,FP]
        have:h.g=want:=by simpa using jX
        rw [this];simp
       rw [if_pos hw]
       exact Oper.wp_mono (fun b' w' ⟨v,h1,h2,h3⟩=>⟨v,h1,h2,h2.size,h3⟩) (wT he hC S0 w0 n a w φ Q b hs hb)
      ·cases hr
     ·rename_i jX
      cases hr
      obtain ⟨FP,-⟩:=hC
      have hw:¬Region.wanted o (yielded ops.toArray b.tmps)=true:=by
       unfold Region.wanted;rw [hg];simp only [hy,FP]
       have:¬h.g=want:=by simpa using jX
       simpa using this
      rw [if_neg hw]
      exact ⟨Nat.le_refl _,.rep (.val _)⟩
    ·rename_i arr uM
     have ht:=hs.get d
     rw [uM] at ht
     have hy:=mc (ops:=ops) hp hd (bL ht)
     rw [←hb] at hy
     cases hr
     have hw:¬Region.wanted o (yielded ops.toArray b.tmps)=true:=by
      unfold Region.wanted;rw [hg];simp [hy]
     rw [if_neg hw]
     exact ⟨Nat.le_refl _,.rep (.val _)⟩
    ·cases hr
   ·cases hr
  ·cases hr
theorem u0 {s:AS} {ds:List Nat} {hs:List (Nat×Hint)}:∀(l:List Oper) (i:Nat) (gM i7:List AV) (C:List Prop),ta P s ds ops hs l i gM=some (i7,C)->bx C->gM.length=i ->
  i7.length=i+l.length∧i7.take i=gM∧ ∀(j:Nat) (o:Oper),l[j]?=some o-> ∃x D,i7[i+j]?=some x∧sL P ops (vL s ds ops (i7.take (i+j)) o) o (gv hs (i+j))=some (x,D)∧bx D
 | [],i,gM,i7,C,he,hC,hl=>by
  cases he
  exact ⟨by simp [hl],by rw [←hl,List.take_length],fun j o h=>by simp at h⟩
 | o::l,i,gM,i7,C,he,hC,hl=>by
  simp only [ta] at he
  split at he
  ·rename_i x C1 h1
   split at he
   ·rename_i SU D h2
    cases he
    obtain ⟨iI,hD⟩:=bQ.1 hC
    obtain ⟨e1,e2,e3⟩:=u0 l (i+1) (gM++ [x]) i7 D h2 hD (by simp [hl])
    have e4:i7.take i=gM:=by
     have:=congrArg (List.take i) e2
     rw [List.take_take,Nat.min_eq_left ah,←hl,List.take_left] at this
     rw [←hl];exact this
    have e5:i7[i]?=some x:=by
     have h3:(i7.take (i+1))[i]?=some x:=by rw [e2,List.getElem?_append_right ah,hl];simp
     exact bX _ _ _ _ h3
    refine ⟨by rw [e1,List.length_cons];omega,e4,fun j p hp=>?_⟩
    cases j with
    | zero =>
     simp at hp;subst hp
     exact ⟨x,C1,by simpa using e5,by simp only [Nat.add_zero];rw [e4];exact h1,iI⟩
    | succ j =>
     obtain ⟨y,D',h5,h6,h7⟩:=e3 j p (by simpa using hp)
     rw [show i+1+j=i+(j+1) by omega] at h5 h6
     exact ⟨y,D',h5,h6,h7⟩
   ·cases he
  ·cases he
theorem kJ:∀(l:List Oper) (m:List AV) (i:Nat) (x:AV),look (jb l m) i=some x-> ∃(k:Nat) (o:Oper),l[k]?=some o∧o.dst=some i∧m[k]?=some x
 | [],m,i,x,h=>by simp [jb,look] at h
 | o::l,[],i,x,h=>by simp [jb,look] at h
 | o::l,y::m,i,x,h=>by
  simp only [jb] at h
  have step:look (jb l m) i=some x-> ∃(k:Nat) (p:Oper),(o::l)[k]?=some p∧p.dst=some i∧(y::m)[k]?=some x:=fun h=>by
   obtain ⟨k,p,h1,h2,h3⟩:=kJ l m i x h
   exact ⟨k+1,p,by simpa using h1,h2,by simpa using h3⟩
  split at h
  ·rename_i d hd
   rw [aE] at h
   by_cases e:d=i
   ·rw [if_pos e] at h;injection h with h;subst h;subst e
    exact ⟨0,o,rfl,hd,rfl⟩
   ·rw [if_neg e] at h;exact step h
  ·exact step h
theorem lV (ops:List Oper) (T:Nat) (p:Oper×Nat):p∈ops.zipIdx.take T↔(p.2<T∧ops[p.2]?=some p.1):=by
 rw [List.mem_iff_getElem?]
 constructor
 ·rintro ⟨x,hx⟩
  rw [List.getElem?_take] at hx
  split at hx
  ·rename_i AJ
   rw [List.getElem?_zipIdx] at hx
   cases ho:ops[x]? with
   | none=>rw [ho] at hx;simp at hx
   | some q=>rw [ho] at hx;simp at hx;subst hx;exact ⟨by simpa using AJ,by simpa using ho⟩
  ·cases hx
 ·rintro ⟨h1,h2⟩
  refine ⟨p.2,?_⟩
  rw [List.getElem?_take,if_pos h1,List.getElem?_zipIdx,h2];simp
theorem ko (ops:List Oper) (T i:Nat):i ∉ (ops.take T).filterMap (·.dst)↔ ∀(j:Nat) (p:Oper),j<T->ops[j]?=some p->p.dst≠some i:=by
 constructor
 ·intro h j p hj hp hd
  refine h (List.mem_filterMap.2 ⟨p,?_,hd⟩)
  exact List.mem_of_getElem? (i:=j) (by rw [List.getElem?_take,if_pos hj];exact hp)
 ·intro h hm
  obtain ⟨p,hp,hd⟩:=List.mem_filterMap.1 hm
  obtain ⟨j,hj⟩:=List.getElem?_of_mem hp
  rw [List.getElem?_take] at hj
  split at hj
  ·rename_i QS;exact h j p QS hj hd
  ·cases hj
theorem F_ {n T:Nat} {hs:List (Nat×Hint)} {s s':AS} {C:List Prop} (he:C6 P n T ops hs s=some (s',C)) (hC:bx C) {a:Act} {w:World} (fZ:iu S0 w0 n s a w) (hQ:∀a' w',iu S0 w0 n s' a' w'->Q .normal a' w'):P.follows .mixedOrders=true∧wpAny P .any ops.toArray Q ops.toArray.size (Array.replicate ops.toArray.size false) a {w with drawn:=w.drawn+1}:=by
 unfold C6 at he
 split at he
 ·rename_i hm hB hT
  split at he
  ·rename_i gM C1 CA
   split at he
   ·rename_i s2 D oO
    cases he
    obtain ⟨iI,hD⟩:=bQ.1 hC
    obtain ⟨φ,lH⟩:=fZ
    have gU:aL S0 w0 n [] s a w.drew φ:=lH.grow ((Below.refl _ _).drew)
    obtain ⟨hlen,-,gh⟩:=u0 _ 0 [] gM C1 CA iI rfl
    simp only [Nat.zero_add] at hlen gh
    obtain ⟨dh,ik,vq⟩:=fR hB
    unfold oG at hT
    simp only [Bool.and_eq_true,decide_eq_true_eq] at hT
    obtain ⟨⟨⟨GG,Ld⟩,Lc⟩,Lb⟩:=hT
    have Sm:T<ops.length:=by simpa using GG
    have Sl:gM.length=T:=by rw [hlen,List.length_take];omega
    let F:Nat->Value->World->Prop:=fun k v w'=>w.heap.size≤w'.heap.size∧ ∀x,gM[k]?=some x->Den (az s.H φ) (aN S0 w' φ []) w' v x
    have uE:∀k v w1 w2,Below w1.heap.size w1 w2->F k v w1->F k v w2:=by
     intro k v w1 w2 hb ⟨h1,h2⟩
     refine ⟨Nat.le_trans h1 hb.size,fun x hx=>(h2 x hx).mono (fun _ _ h=>h) (fun b hS=>⟨⟨by have:=hS.1;have:=hb.size;omega,hS.2⟩,hb.block b hS.1⟩) (fun id e m g hi=>?_)⟩
     obtain ⟨r,-,-,-,cm⟩:=aQ hi
     have:=(lH.cW id g cm).2
     unfold aV;rw [hb.block g ah]
    refine ⟨hm,BH GG Ld Lc Lb lH.jP hB F uE ?_ ?_ ops.toArray.size _ a _ ⟨(Below.refl _ _).drew,by simp,?_,rfl,rfl,?_,?_,fun _ _=>rfl⟩ (fun j _=>by simp only [List.size_toArray];exact getD_replicate_false _ _) (by simp)⟩
    ·
     intro k o vG ho a' w' hb jc fq
     have ra:ops[k]?=some o:=by simpa using ho
     obtain ⟨x,Dk,hx,dZ,QY⟩:=gh k o (by rw [List.getElem?_take,if_pos vG];exact ra)
     have kL:Below w.heap.size w w':=hb
     have hg:=lH.grow kL
     have J2:aL S0 w0 a'.tmps.size [] (vL s ((ops.take T).filterMap (·.dst)) ops (gM.take k) o) ⟨a'.tmps,S0.si⟩ w' φ:=by
      refine ⟨rfl,rfl,hg.cX,fun i av hi=>?_,hg.rows,hg.only,hg.inj,hg.cW,hg.apart,hg.new⟩
      show Den (az s.H φ) _ _ _ _
      unfold vL at hi
      rw [bM] at hi
      cases IC:look (jo ops (gM.take k) (bk o)) i with
      | some y =>
       rw [IC] at hi
       simp at hi;subst hi
       obtain ⟨d,p,h1,h2,h3,h4⟩:=nZ _ _ _ _ _ IC
       rcases jc d h1 with hF|⟨q,hq,hn⟩
       ·have ji:rP ops.toArray a' d=a'.tmps.getD i undef:=by
         unfold rP
         have:(ops.toArray[d]?).bind (·.dst)=some i:=by simp [h2,h3]
         rw [this]
        rw [ji] at hF
        exact hF.2 y (bX _ _ _ _ h4)
       ·have gL:ops[d]?=some q:=by simpa using hq
        rw [h2] at gL;injection gL with gL;subst gL
        rw [h3] at hn;cases hn
      | none =>
       rw [IC] at hi
       simp at hi
       obtain ⟨h1,h2⟩:=fP _ _ _ _ hi
       have hk:=fq i (fun j p hj hp=>(ko ops T i).1 h2 j p hj (by simpa using hp))
       have oA:a'.tmps.getD i undef=a.tmps.getD i undef:=hk
       show Den _ _ _ (a'.tmps.getD i undef) av
       rw [oA]
       exact hg.cC i av h1
     have:=EM (Q:=Q) (ops:=ops) dZ QY J2 (b:=a') rfl
     unfold gQ at this ⊢
     split
     ·rename_i hw
      rw [if_pos hw] at this
      exact Oper.wp_mono (fun b' w2 ⟨v,h1,h2,h3,h4⟩=>⟨v,h1,h2,Nat.le_trans kL.size h3,fun y hy=>by rw [hx] at hy;injection hy with hy;subst hy;exact h4⟩) this
     ·rename_i hw
      rw [if_neg hw] at this
      exact ⟨kL.size,fun y hy=>by rw [hx] at hy;injection hy with hy;subst hy;exact this.2⟩
    ·
     intro vs w' hb xW
     have kL:Below w.heap.size w w':=hb
     have hg:=lH.grow kL
     have jM:=jI vs (ops.zipIdx.take T) a (by
      have h1:(ops.zipIdx.take T).filterMap (·.1.dst)=(ops.take T).filterMap (·.dst):=by
       conv=>rhs;rw [←List.zipIdx_map_fst 0 ops,←List.map_take]
       rw [List.filterMap_map];rfl
      rw [h1]
      exact List.Nodup.sublist ((List.take_sublist T ops).filterMap _) (by simpa using ik))
     show wpList P ops.toArray Q (ops.drop T) (eG (ops.zipIdx.take T) vs a) w'
     refine jN (S0:=S0) (w0:=w0) _ _ _ _ _ oO hD _ _ ⟨φ,?_⟩ hQ
     refine ⟨jM.1.trans lH.jP,jM.2.1.trans lH.jS,hg.cX,fun i av hi=>?_,hg.rows,hg.only,hg.inj,hg.cW,hg.apart,hg.new⟩
     show Den (az s.H φ) _ _ _ _
     rw [bM] at hi
     cases hh:look (jb (ops.take T) gM) i with
     | some y =>
      rw [hh] at hi
      simp at hi;subst hi
      obtain ⟨k,o,h1,h2,h3⟩:=kJ _ _ _ _ hh
      have vG:k<T:=by have:=(List.getElem?_eq_some_iff.1 h3).1;omega
      have ho:ops[k]?=some o:=bX _ _ _ _ h1
      have hv:=jM.2.2.1 (o,k) ((lV ops T _).2 ⟨vG,ho⟩) i h2 (by rw [lH.jP];exact vq k o i (by simpa using ho) h2)
      have:(eG (ops.zipIdx.take T) vs a).tmps.getD i undef=vs k:=by
       simp [hv]
      rw [this]
      exact (xW k vG).2 y h3
     | none =>
      rw [hh] at hi
      simp at hi
      obtain ⟨h1,h2⟩:=fP _ _ _ _ hi
      have hv:=jM.2.2.2 i (fun p hp hd=>(ko ops T i).1 h2 p.2 p.1 ((lV ops T p).1 hp).1 ((lV ops T p).1 hp).2 hd)
      have:(eG (ops.zipIdx.take T) vs a).tmps.getD i undef=a.tmps.getD i undef:=by
       simp [hv]
      rw [this]
      exact hg.cC i av h1
    ·intro k o hk;rw [getD_replicate_false] at hk;cases hk
    ·intro k o s hk;rw [getD_replicate_false] at hk;cases hk
    ·intro k o hk;rw [getD_replicate_false] at hk;cases hk
   ·cases he
  ·cases he
 ·cases he
end
def bS (s s':AS):Prop:=∀S0 w0 n a w,iu S0 w0 n s a w->iu S0 w0 n s' a w
def BM (P:Program):Code->(Exit->Act->World->Prop)->Act->World->Prop
 | .skip,Q,a,w=>Q .normal a w
 | .region _ ops false,Q,a,w=>wpList P ops Q ops.toList a w
 | .region _ ops true,Q,a,w=>P.follows .mixedOrders=true∧wpAny P .any ops Q ops.size (Array.replicate ops.size false) a {w with drawn:=w.drawn+1}
 | .seq x y,Q,a,w=>BM P x (Exit.then (BM P y Q) Q) a w
 | .cond c x y,Q,a,w=>∃t:Bool,a.eval c= .bool t∧(t=true->BM P x Q a w)∧(t=false->BM P y Q a w)
 | .block id c,Q,a,w=>BM P c (Exit.inBlock id Q) a w
 | .loop c,Q,a,w=>∃(J:Nat->Act->World->Prop) (k0:Nat),J k0 a w∧ ∀k a w,J k a w->BM P c (Exit.then (fun a' w'=>∃k',k'<k∧J k' a' w') Q) a w
 | .exit id,Q,a,w=>Q (.exit id) a w
 | .ret,Q,a,w=>Q .ret a w
 | .rangeFunc g ps x b,Q,a,w=>(Code.rangeFunc g ps x b).wp P Q a w
 | _,_,_,_=>False
section
variable {P:Program} {Q Q':Exit->Act->World->Prop}
theorem mz (hQ:∀e a w,Q e a w->Q' e a w) (h:LetsOut Q):LetsOut Q':=let ⟨a,w,h⟩:=h;⟨a,w,hQ _ _ _ h⟩
theorem wE {o:Oper} {a:Act} {w:World} {K K':Act->World->Prop} (hK:∀a w,K a w->K' a w) (hQ:∀e a w,Q e a w->Q' e a w) (hh:o.wp P a w K Q):o.wp P a w K' Q':=by
 unfold Oper.wp at *
 generalize (execOp a.eval o).run P w=r at *
 cases r with
 | ok n w' =>
  cases n<;>simp only [Oper.upon] at hh ⊢ <;>
   first
    | exact hK _ _ hh
    | exact Calls.mono hh (fun e fp he=>by cases e<;>first|exact hK _ _ he|exact hQ _ _ _ he|exact mz hQ he)
    | exact Rows.mono hh (fun _ _ he=>hK _ _ he)
 | halt x w'=>cases x<;>simp only [Oper.upon] at hh ⊢ <;>first|exact hQ _ _ _ hh|exact hh
theorem j7 {ops:Array Oper} (hQ:∀e a w,Q e a w->Q' e a w):∀(l:List Oper) (a:Act) (w:World),wpList P ops Q l a w->wpList P ops Q' l a w
 | [],a,w,h=>hQ _ _ _ h
 | o::l,a,w,h=>by
  unfold wpList at h ⊢
  split at h
  ·rename_i hw
   rw [if_pos hw]
   exact h.imp (wE (j7 hQ l) hQ) fun ⟨h1,h2⟩=>⟨h1,mz hQ h2⟩
  ·rename_i hw
   rw [if_neg hw]
   exact j7 hQ l _ _ h
theorem BG {ops:Array Oper} {i:Nat} {a:Act} {w:World} {K K':Act->World->Prop} (hK:∀a w,K a w->K' a w) (hQ:∀e a w,Q e a w->Q' e a w) (hh:wpOp P ops Q i K a w):wpOp P ops Q' i K' a w:=by
 unfold wpOp at *
 split
 ·exact hK _ _ (by simpa [*] using hh)
 ·rename_i o ho
  simp only [ho] at hh
  split
  ·rename_i hw;simp only [hw,if_true] at hh;exact hh.imp (wE hK hQ) fun ⟨h1,h2⟩=>⟨h1,mz hQ h2⟩
  ·rename_i hw;simp only [hw] at hh;exact hK _ _ hh
theorem rO {md:Region.Mode} {ops:Array Oper} (hQ:∀e a w,Q e a w->Q' e a w):∀(fuel:Nat) (listed:Array Bool) (a:Act) (w:World),wpAny P md ops Q fuel listed a w->wpAny P md ops Q' fuel listed a w
 | 0,_,_,_,h=>⟨h.1,hQ _ _ _ h.2⟩
 | fuel+1,listed,a,w,h=>⟨fun h0=>hQ _ _ _ (h.1 h0),fun i hi=>BG (rO hQ fuel _) hQ (h.2 i hi)⟩
theorem lO {K K':Act->World->Prop} (hK:∀a w,K a w->K' a w) (hQ:∀e a w,Q e a w->Q' e a w) (e:Exit) (a:Act) (w:World) (h:Exit.then K Q e a w):Exit.then K' Q' e a w:=by
 cases e<;>first|exact hK _ _ h|exact hQ _ _ _ h
theorem xP {id:Nat} (hQ:∀e a w,Q e a w->Q' e a w) (e:Exit) (a:Act) (w:World) (h:Exit.inBlock id Q e a w):Exit.inBlock id Q' e a w:=by
 cases e with
 | exit i =>
  simp only [Exit.inBlock] at h ⊢
  split
  ·rename_i hi;rw [if_pos hi] at h;exact hQ _ _ _ h
  ·rename_i hi;rw [if_neg hi] at h;exact hQ _ _ _ h
 | _=>exact hQ _ _ _ h
theorem ea:∀(c:Code) (Q Q':Exit->Act->World->Prop),(∀e a w,Q e a w->Q' e a w)-> ∀(a:Act) (w:World),BM P c Q a w->BM P c Q' a w
 | .skip,_,_,hQ,a,w,h=>hQ _ _ _ h
 | .region _ ops false,_,_,hQ,a,w,h=>j7 hQ _ _ _ h
 | .region _ ops true,_,_,hQ,a,w,h=>⟨h.1,rO hQ _ _ _ _ h.2⟩
 | .seq x y,_,_,hQ,a,w,h=>ea x _ _ (lO (ea y _ _ hQ) hQ) a w h
 | .cond c x y,_,_,hQ,a,w,⟨t,h1,h2,h3⟩=>⟨t,h1,fun e=>ea x _ _ hQ a w (h2 e),fun e=>ea y _ _ hQ a w (h3 e)⟩
 | .block id c,_,_,hQ,a,w,h=>ea c _ _ (xP hQ) a w h
 | .loop c,_,_,hQ,a,w,⟨J,k0,h0,h⟩=>⟨J,k0,h0,fun k a w hJ=>ea c _ _ (lO (fun _ _ h=>h) hQ) a w (h k a w hJ)⟩
 | .exit id,_,_,hQ,a,w,h=>hQ _ _ _ h
 | .ret,_,_,hQ,a,w,h=>hQ _ _ _ h
 | .rangeFunc g ps x b,_,_,hQ,a,w,h=>wp_mono h hQ
 | .scope _,_,_,_,_,_,h=>h.elim
 | .label _,_,_,_,_,_,h=>h.elim
 | .goto _,_,_,_,_,_,h=>h.elim
 | .refuse _,_,_,_,_,_,h=>h.elim
end
theorem Ej {P:Program} {c:Code} {Q:Exit->Act->World->Prop} {a:Act} {w:World} (J:Nat->Act->World->Prop) (k0:Nat) (h0:J k0 a w)
  (round:∀k a w,J k a w->c.wp P (Exit.then (fun a' w'=>∃k',k'<k∧J k' a' w') Q) a w):(Code.loop c).wp P Q a w:=by
 intro b k cs
 have key:∀n a w,J n a w-> ∃e a' w',Q e a' w'∧Arrives P (lone (b.at a (.code c:: .inLoop c::k)) cs w) b k cs e a' w':=by
  intro n
  induction n using Nat.strongRecOn with
  | _ n ih =>
   intro a w hJ
   obtain ⟨e,Gr,E2,hq,sJ⟩:=round n a w hJ b (.inLoop c::k) cs
   cases e with
   | normal =>
    obtain ⟨k',dh,Nv⟩:=hq
    obtain ⟨SJ,SR,Q9,PA,K_⟩:=ih k' dh Gr E2 Nv
    exact ⟨SJ,SR,Q9,PA,.of_steps (Steps.trans sJ (.one step_inLoop)) K_⟩
   | exit id=>exact ⟨_,Gr,E2,hq,.pass (x:=.inLoop c) rfl (fun _ _=>.inl (by simp)) sJ⟩
   | goto l=>exact ⟨_,Gr,E2,hq,.pass (x:=.inLoop c) rfl (fun _ _=>.inl (by simp)) sJ⟩
   | ret=>exact ⟨_,Gr,E2,hq,.pass (x:=.inLoop c) rfl (fun _ _=>.inl (by simp)) sJ⟩
   | panic ch=>exact ⟨_,Gr,E2,hq,.pass (x:=.inLoop c) rfl (fun _ _=>.inl (by simp)) sJ⟩
   | outgrown=>exact ⟨_,Gr,E2,hq,.pass (x:=.inLoop c) rfl (fun _ _=>.inl (by simp)) sJ⟩
 obtain ⟨e,a',w',hq,sJ⟩:=key k0 a w h0
 exact ⟨e,a',w',hq,.of_steps (.one step_loop) sJ⟩
theorem kx {P:Program}:∀(c:Code) (Q:Exit->Act->World->Prop) (a:Act) (w:World),BM P c Q a w->c.wp P Q a w
 | .skip,_,a,w,h=>wp_skip h
 | .region _ ops false,_,a,w,h=>wp_region_list h
 | .region _ ops true,_,a,w,h=>wp_region_any h.1 h.2
 | .seq x y,Q,a,w,h=>wp_seq (kx x _ a w (ea x _ _ (lO (kx y Q) fun _ _ _ h=>h) a w h))
 | .cond c x y,Q,a,w,⟨t,h1,h2,h3⟩=>wp_cond_split h1 (fun e=>kx x Q a w (h2 e)) (fun e=>kx y Q a w (h3 e))
 | .block id c,_,a,w,h=>wp_block (kx c _ a w h)
 | .loop c,_,a,w,⟨J,k0,h0,h⟩=>Ej J k0 h0 fun k a w hJ=>kx c _ a w (h k a w hJ)
 | .exit id,_,a,w,h=>wp_exit h
 | .ret,_,a,w,h=>wp_ret h
 | .rangeFunc g ps x b,_,a,w,h=>h
 | .scope _,_,_,_,h=>h.elim
 | .label _,_,_,_,h=>h.elim
 | .goto _,_,_,_,h=>h.elim
 | .refuse _,_,_,_,h=>h.elim
def mark (r:Nat):Deferred:={target:=.collected r,args:= #[]}
structure k7 (S0:bm) (w0:World) (S1:bm) (w1:World) (ms:List Nat):Prop where
 kept:Kept S0 w0 w1
 sub:∀b,S1.S b->S0.S b
 X:∀b,S1.X b->w0.heap.size≤b∨S0.X b
 fix:S1.fix=S0.fix
 si:S1.si=ms.map mark++S0.si
 nodup:ms.Nodup
 marks:∀r∈ms,w0.heap.size≤r∧r<w1.heap.size∧w1.heap[r]?=some (.deferred (some []))∧ ¬S1.S r∧ ¬S1.X r
theorem k7.refl {S0:bm} {w0 w:World} (h:Kept S0 w0 w):k7 S0 w0 S0 w0 []:=⟨⟨rfl,rfl,rfl,Nat.le_refl _,fun _ _ _=>rfl,h.g0,h.gx⟩,fun _ h=>h,fun _ h=>.inr h,rfl,rfl,List.nodup_nil,fun _ h=>by cases h⟩
theorem Kept.trans {S0 S1:bm} {w0 w1 w2:World} (h:Kept S0 w0 w1) (k:Kept S1 w1 w2) (hX:∀b,S1.X b->w0.heap.size≤b∨S0.X b):Kept S0 w0 w2 :=
 ⟨k.os.trans h.os,k.tape.trans h.tape,k.output.trans h.output,Nat.le_trans h.size k.size,fun b hb hx=>(k.block b (Nat.lt_of_lt_of_le hb h.size) fun Ru=>(hX b Ru).elim (fun h=>ah) hx).trans (h.block b hb hx),h.g0,h.gx⟩
theorem k7.trans {S0 S1 S2:bm} {w0 w1 w2:World} {ms QE:List Nat} (h:k7 S0 w0 S1 w1 ms) (k:k7 S1 w1 S2 w2 QE):k7 S0 w0 S2 w2 (QE++ms) where
 kept:=h.kept.trans k.kept h.X
 sub:=fun b hb=>h.sub b (k.sub b hb)
 X:=fun b hb=>(k.X b hb).elim (fun hb=>.inl (Nat.le_trans h.kept.size hb)) fun hb=>h.X b hb
 fix:=k.fix.trans h.fix
 si:=by rw [k.si,h.si,List.map_append,List.append_assoc]
 nodup:=by
  rw [List.nodup_append]
  refine ⟨k.nodup,h.nodup,fun a ha b hb e=>?_⟩
  subst e
  have:=(k.marks a ha).1
  have:=(h.marks a hb).2.1
  omega
 marks:=fun r hr=>by
  rcases List.mem_append.1 hr with hr|hr
  ·obtain ⟨h1,h2⟩:=k.marks r hr
   exact ⟨Nat.le_trans h.kept.size h1,h2⟩
  ·obtain ⟨h1,h2,h3,h4,h5⟩:=h.marks r hr
   exact ⟨h1,Nat.lt_of_lt_of_le h2 k.kept.size,(k.kept.block r h2 h5).trans h3,fun hs=>h4 (k.sub r hs),fun hx=>(k.X r hx).elim (fun h=>ah) h5⟩
def mZ (S0:bm) (w0:World) (n:Nat) (s:AS) (a:Act) (w:World):Prop:=∃S1 w1 ms,k7 S0 w0 S1 w1 ms∧iu S1 w1 n s a w
theorem iu.one {S0:bm} {w0:World} {n:Nat} {s:AS} {a:Act} {w:World} (h:iu S0 w0 n s a w):mZ S0 w0 n s a w:=⟨S0,w0,[],k7.refl h.choose_spec.cX,h⟩
theorem mZ.after {S0 S1:bm} {w0 w1:World} {ms:List Nat} {n:Nat} {s:AS} {a:Act} {w:World} (he:k7 S0 w0 S1 w1 ms) (h:mZ S1 w1 n s a w):mZ S0 w0 n s a w :=
 let ⟨S2,w2,_,h1,h2⟩:=h;⟨S2,w2,_,he.trans h1,h2⟩
def bf (P:Program) (n:Nat) (c:Code) (Q:Exit->AS->Prop) (s:AS):Prop :=
 ∀S0 w0 a w,iu S0 w0 n s a w->BM P c (fun e a' w'=>∃s',Q e s'∧mZ S0 w0 n s' a' w') a w
theorem bf.T4 {P:Program} {n:Nat} {c:Code} {Q:Exit->AS->Prop} {s:AS} (h:bf P n c Q s) {S0:bm} {w0:World} {a:Act} {w:World} (hs:mZ S0 w0 n s a w):BM P c (fun e a' w'=>∃s',Q e s'∧mZ S0 w0 n s' a' w') a w:=by
 obtain ⟨S1,w1,ms,h1,h2⟩:=hs
 exact ea _ _ _ (fun e a' w' ⟨s',hq,bY⟩=>⟨s',hq,bY.after h1⟩) _ _ (h S1 w1 a w h2)
def rL (K:AS->Prop) (Q:Exit->AS->Prop):Exit->AS->Prop
 | .normal,s=>K s
 | e,s=>Q e s
def Od (id:Nat) (Q:Exit->AS->Prop):Exit->AS->Prop
 | .exit pd,s=>if pd=id then Q .normal s else Q (.exit pd) s
 | e,s=>Q e s
def il:Code->Code
 | .seq a _=>a
 | c=>c
def dH:Code->Code
 | .seq _ b=>b
 | c=>c
def oF:Code->Code
 | .cond _ a _=>a
 | c=>c
def oQ:Code->Code
 | .cond _ _ b=>b
 | c=>c
def ft:Code->Code
 | .block _ b=>b
 | .loop b=>b
 | .scope b=>b
 | c=>c
def AE:Code->Bool
 | .seq _ _=>true
 | _=>false
def lf:Code->Option Operand
 | .cond x _ _=>some x
 | _=>none
def JG:Code->Option Nat
 | .block id _=>some id
 | _=>none
def H4:Code->Bool
 | .loop _=>true
 | _=>false
def Mf:Code->Option Nat
 | .exit id=>some id
 | _=>none
def H3:Code->Bool
 | .ret=>true
 | _=>false
def Cq:Code->Bool
 | .skip=>true
 | _=>false
section
variable {P:Program} {n:Nat} {c:Code} {Q:Exit->AS->Prop} {s:AS}
theorem bf.seq (hc:AE c=true) (h:bf P n (il c) (rL (bf P n (dH c) Q) Q) s):bf P n c Q s:=by
 cases c with
 | seq x y =>
  intro S0 w0 a w hs
  refine ea x _ _ (fun e a' w' ⟨s',hq,bY⟩=>?_) a w (h S0 w0 a w hs)
  cases e with
  | normal=>exact bf.T4 hq bY
  | _=>exact ⟨s',hq,bY⟩
 | _=>cases hc
theorem bf.cond {x:Operand} {b:Bool} (hc:lf c=some x) (hx:bp s x= .val (.bool b)) (ht:b=true->bf P n (oF c) Q s) (hf:b=false->bf P n (oQ c) Q s):bf P n c Q s:=by
 cases c with
 | cond y p q =>
  cases hc
  intro S0 w0 a w hs
  have hv:a.eval x= .bool b:=by
   obtain ⟨φ,bY⟩:=hs
   exact bL (hx ▸ bY.bp x)
  exact ⟨b,hv,fun e=>ht e S0 w0 a w hs,fun e=>hf e S0 w0 a w hs⟩
 | _=>cases hc
theorem bf.block {id:Nat} (hc:JG c=some id) (h:bf P n (ft c) (Od id Q) s):bf P n c Q s:=by
 cases c with
 | block pd b =>
  cases hc
  intro S0 w0 a w hs
  refine ea b _ _ (fun e a' w' ⟨s',hq,bY⟩=>?_) a w (h S0 w0 a w hs)
  cases e with
  | exit i =>
   simp only [Od] at hq
   simp only [Exit.inBlock]
   split
   ·rename_i hi;rw [if_pos hi] at hq;exact ⟨s',hq,bY⟩
   ·rename_i hi;rw [if_neg hi] at hq;exact ⟨s',hq,bY⟩
  | _=>exact ⟨s',hq,bY⟩
 | _=>cases hc
theorem bf.exit {id:Nat} (hc:Mf c=some id) (h:Q (.exit id) s):bf P n c Q s:=by
 cases c with
 | exit i=>cases hc;intro S0 w0 a w hs;exact ⟨s,h,hs.one⟩
 | _=>cases hc
theorem bf.ret (hc:H3 c=true) (h:Q .ret s):bf P n c Q s:=by
 cases c with
 | ret=>intro S0 w0 a w hs;exact ⟨s,h,hs.one⟩
 | _=>cases hc
theorem bf.skip (hc:Cq c=true) (h:Q .normal s):bf P n c Q s:=by
 cases c with
 | skip=>intro S0 w0 a w hs;exact ⟨s,h,hs.one⟩
 | _=>cases hc
theorem bf.oR {s':AS} (hw:bS s s') (h:bf P n c Q s'):bf P n c Q s:=fun S0 w0 a w hs=>h S0 w0 a w (hw S0 w0 n a w hs)
theorem bf.mono {Q':Exit->AS->Prop} (h:bf P n c Q s) (hq:∀e s,Q e s->Q' e s):bf P n c Q' s:=fun S0 w0 a w hs=>ea c _ _ (fun e _ _ ⟨s',h1,h2⟩=>⟨s',hq e s' h1,h2⟩) a w (h S0 w0 a w hs)
def Round {ι:Type} (I:ι->AS) (Inv:ι->Prop) (m:ι->Nat) (Q:Exit->AS->Prop) (x:ι):Exit->AS->Prop:=rL (fun s'=>∃y,Inv y∧m y<m x∧bS s' (I y)) Q
theorem bf.loop {ι:Type} (I:ι->AS) (Inv:ι->Prop) (m:ι->Nat) (hc:H4 c=true) (x0:ι) (h0:Inv x0) (hw:bS s (I x0)) (h:∀x,Inv x->bf P n (ft c) (Round I Inv m Q x) (I x)):bf P n c Q s:=by
 cases c with
 | loop b =>
  intro S0 w0 a w hs
  refine ⟨fun k a w=>∃x,Inv x∧m x=k∧mZ S0 w0 n (I x) a w,m x0,⟨x0,h0,rfl,(hw S0 w0 n a w hs).one⟩,?_⟩
  rintro k a w ⟨x,hx,rfl,hs⟩
  refine ea b _ _ (fun e a' w' ⟨s',hq,bY⟩=>?_) a w (bf.T4 (h x hx) hs)
  cases e with
  | normal =>
   obtain ⟨y,hy,dh,Uo⟩:=hq
   obtain ⟨S1,w1,ms,h1,h2⟩:=bY
   exact ⟨m y,dh,y,hy,rfl,S1,w1,ms,h1,Uo S1 w1 n a' w' h2⟩
  | _=>exact ⟨s',hq,bY⟩
 | _=>cases hc
end
structure pB where
 hs:List (Nat×Hint):=[]
 T:Nat:=0
def se (P:Program) (n:Nat) (c:Code) (x:pB) (s:AS):Option (AS×List Prop) :=
 match c with
 | .region _ ⟨l⟩ false=>j0 P n l x.hs l 0 s
 | .region _ ⟨l⟩ true=>C6 P n x.T l x.hs s
 | _=>none
def kP (P:Program) (n:Nat):List pB->Code->AS->Option (AS×List Prop)
 | [],_,s=>some (s,[])
 | x::l,c,s=>match AE c with
  | true=>(match se P n (il c) x s with
   | some (s1,C)=>(match kP P n l (dH c) s1 with|some (s2,D)=>some (s2,C++D)|none=>none)
   | none=>none)
  | false=>none
def qn:Nat->Code->Code
 | 0,c=>c
 | k+1,c=>qn k (dH c)
section
variable {P:Program} {n:Nat} {c:Code} {Q:Exit->AS->Prop} {s s':AS} {C:List Prop}
theorem Bg {x:pB} (he:se P n c x s=some (s',C)) (hC:bx C) (h:Q .normal s'):bf P n c Q s:=by
 intro S0 w0 a w hs
 unfold se at he
 split at he
 ·exact jN (S0:=S0) (w0:=w0) _ _ _ _ _ he hC a w hs fun a' w' bY=>⟨s',h,bY.one⟩
 ·exact F_ (S0:=S0) (w0:=w0) he hC hs fun a' w' bY=>⟨s',h,bY.one⟩
 ·cases he
theorem bf.Oh (x:pB) (he:se P n c x s=some (s',C)) (hC:bx C) (h:Q .normal s'):bf P n c Q s:=Bg he hC h
theorem bf.OY:∀(l:List pB) {c:Code} {s s':AS} {C:List Prop},kP P n l c s=some (s',C)->bx C->bf P n (qn l.length c) Q s'->bf P n c Q s
 | [],c,s,s',C,he,hC,h=>by cases he;exact h
 | x::l,c,s,s',C,he,hC,h=>by
  simp only [kP] at he
  split at he
  ·rename_i RG
   split at he
   ·rename_i s1 C1 h1
    split at he
    ·rename_i s2 D h2
     cases he
     obtain ⟨iI,hD⟩:=bQ.1 hC
     exact bf.seq RG (Bg h1 iI (bf.OY l h2 hD h))
    ·cases he
   ·cases he
  ·cases he
end
def kD (a b:Nat):AV->AV
 | .ref i=>match Nat.beq i a with|true=>.ref b|false=>.ref i
 | .pre i n=>match Nat.beq i a with|true=>.pre b n|false=>.pre i n
 | .js i o n=>match Nat.beq i a with|true=>.js b o n|false=>.js i o n
 | .addr i o=>match Nat.beq i a with|true=>.addr b o|false=>.addr i o
 | .agg _=>.dead
 | .bq _=>.dead
 | x=>x
def Fi (a b:Nat):AV->AV
 | .agg cs=>.agg (cs.map (kD a b))
 | x=>kD a b x
def MI (a b:Nat):AV->AV
 | .bq cs=>.bq (cs.map (Fi a b))
 | x=>Fi a b x
def eS (a b:Nat) (r:Row):Row:=match r.pure with|true=>r|false=>⟨r.e,false,r.full,r.cells.map (kD a b)⟩
def oZ {α:Type} (a b:Nat):List (Nat×α)->List (Nat×α)
 | []=>[]
 | (k,x)::l=>match Nat.beq k a with|true=>(b,x)::oZ a b l|false=>(k,x)::oZ a b l
def rename (a b:Nat) (s:AS):AS:=⟨eg (MI a b) s.F,eg (eS a b) (oZ a b s.H)⟩
theorem ny {α:Type} (a b:Nat):∀(l:List (Nat×α)),look l b=none-> ∀i,look (oZ a b l) i=if i=b then look l a else if i=a then none else look l i
 | [],_,i=>by simp [oZ,look]
 | (k,x)::l,hb,i=>by
  rw [aE] at hb
  have R3:k≠b:=fun e=>by rw [if_pos e] at hb;cases hb
  rw [if_neg R3] at hb
  have ih:=ny a b l hb i
  rcases bJ k a with ⟨h,e⟩|⟨h,e⟩
  ·simp only [oZ,h,aE,ih]
   by_cases hi:i=b
   ·subst hi;simp [e]
   ·by_cases Na:i=a
    ·have TP:b≠a:=fun e'=>hi (by rw [e',Na])
     simp [Na,TP,Ne.symm TP]
    ·have:k≠i:=fun e'=>Na (by rw [←e',e])
     simp [hi,Na,Ne.symm hi,this]
  ·simp only [oZ,h,aE,ih]
   by_cases hi:i=b
   ·subst hi;simp [R3,e]
   ·by_cases Na:i=a
    ·subst Na;simp [hi,e]
    ·simp [hi,Na]
section
variable {S0:bm} {w0 w:World} {n:Nat} {s:AS} {a:Act} {φ:Nat->Option Nat}
theorem cH (x y:Nat) (r:Row):(eS x y r).e=r.e∧(eS x y r).cells.length=r.cells.length∧(eS x y r).pure=r.pure∧(eS x y r).full=r.full:=by
 unfold eS
 cases h:r.pure<;>simp [h]
theorem aL.Kw (h:aL S0 w0 n [] s a w φ) (x y:Nat) (Ph:y<1000000000000) (cV:x≠y) (hy:look s.H y=none):∃ cB,aL S0 w0 n [] (rename x y s) a w cB:=by
 let cB:Nat->Option Nat:=fun i=>if i=y then φ x else if i=x then none else φ i
 have Ro:φ y=none:=h.only y hy
 have mD:∀i g,cB i=some g-> ∃j,φ j=some g∧(i=y->j=x)∧(i≠y->j=i):=by
  intro i g hi
  by_cases e:i=y
  ·have:φ x=some g:=by simpa [cB,e] using hi
   exact ⟨x,this,fun _=>rfl,fun h=>absurd e h⟩
  ·by_cases e2:i=x
   ·simp [cB,e2,cV] at hi
   ·have:φ i=some g:=by simpa [cB,e,e2] using hi
    exact ⟨i,this,fun h=>absurd h e,fun _=>rfl⟩
 have IE:∀b,aN S0 w φ [] b->aN S0 w cB [] b:=by
  intro b ⟨h1,h2,h3,h4⟩
  refine ⟨h1,h2,fun i hi=>?_,h4⟩
  obtain ⟨j,hj,-⟩:=mD i b hi
  exact h3 j hj
 have jY:∀i,look (rename x y s).H i=(if i=y then look s.H x else if i=x then none else look s.H i).map (eS x y):=by
  intro i
  unfold rename
  rw [cy,ny x y _ hy]
 have hI:∀i z,az s.H φ i=some z->az (rename x y s).H cB (if i=x then y else i)=some z:=by
  intro i z hi
  obtain ⟨e,m,b⟩:=z
  obtain ⟨r,hl,h1,h2,h3⟩:=aQ hi
  by_cases e1:i=x
  ·subst e1
   rw [if_pos rfl,br (r:=eS i y r) (by rw [jY,if_pos rfl,hl];rfl),(cH i y r).1,(cH i y r).2.1,h1,h2]
   simp [cB,h3]
  ·have e2:i≠y:=fun e=>by subst e;rw [hy] at hl;cases hl
   rw [if_neg e1,br (r:=eS x y r) (by rw [jY,if_neg e2,if_neg e1,hl];rfl),(cH x y r).1,(cH x y r).2.1,h1,h2]
   simp [cB,e1,e2,h3]
 have sK:∀b,aN S0 w φ [] b->aN S0 w cB [] b∧w.heap[b]?=w.heap[b]?:=fun b h=>⟨IE b h,rfl⟩
 have ok:jU (az s.H φ) (az (rename x y s).H cB) (aN S0 w φ []) (aN S0 w cB []) w (kD x y):=by
  refine ⟨fun v av hv h1 h2=>?_,fun _=>rfl,fun _=>rfl⟩
  have pick:∀i z,az s.H φ i=some z->(Nat.beq i x=true∧az (rename x y s).H cB y=some z)∨(Nat.beq i x=false∧az (rename x y s).H cB i=some z):=by
   intro i z hi
   have:=hI i z hi
   rcases bJ i x with ⟨hb,e⟩|⟨hb,e⟩
   ·rw [if_pos e] at this;exact .inl ⟨hb,this⟩
   ·rw [if_neg e] at this;exact .inr ⟨hb,this⟩
  cases hv with
  | rep h=>cases h with
   | val v=>exact .rep (.val v)
   | nil=>exact .rep .nil
   | agg vs cs _ _=>exact absurd rfl (h1 cs)
   | bq vs cs _ _=>exact absurd rfl (h2 cs)
   | arr vs cs hl h=>exact .rep ((cz.arr vs cs hl h).mono sK)
   | sl A n c e us row hl hn hc hm ha h=>exact .rep ((cz.sl A n c e us row hl hn hc hm ha h).mono sK)
   | pg A n e us row hl hn hm ha h=>exact .rep ((cz.pg A n e us row hl hn hm ha h).mono sK)
   | ptr ad us row off hl hs ha h=>exact .rep ((cz.ptr ad us row off hl hs ha h).mono sK)
   | lI f vs cs hl h=>exact .rep ((cz.lI f vs cs hl h).mono sK)
  | agg vs cs _ _=>exact absurd rfl (h1 cs)
  | bq vs cs _ _=>exact absurd rfl (h2 cs)
  | ref i e m g l c hi hm hc hx hs=>rcases pick i _ hi with ⟨hb,jj⟩|⟨hb,jj⟩<;>simp only [kD,hb]<;>exact .ref _ e m g l c jj hm hc hx hs
  | cD i e hi=>rcases pick i _ hi with ⟨hb,jj⟩|⟨hb,jj⟩<;>simp only [kD,hb]<;>exact .cD _ e jj
  | pre i k e m g l c hi hn hm hc hx hs=>rcases pick i _ hi with ⟨hb,jj⟩|⟨hb,jj⟩<;>simp only [kD,hb]<;>exact .pre _ k e m g l c jj hn hm hc hx hs
  | dC i e hi=>rcases pick i _ hi with ⟨hb,jj⟩|⟨hb,jj⟩<;>simp only [kD,hb]<;>exact .dC _ e jj
  | js i off k e m l c g A hi hn hm hc hx ha=>rcases pick i _ hi with ⟨hb,jj⟩|⟨hb,jj⟩<;>simp only [kD,hb]<;>exact .js _ off k e m l c g A jj hn hm hc hx ha
  | addr i off e m g hi=>rcases pick i _ hi with ⟨hb,jj⟩|⟨hb,jj⟩<;>simp only [kD,hb]<;>exact .addr _ off e m g jj
  | dead v=>exact .dead _
 have Cf:∀z:AV,(∀cs,z≠ .agg cs)->Fi x y z=kD x y z:=by
  intro z hz
  cases z with
  | agg cs=>exact absurd rfl (hz cs)
  | _=>rfl
 have Ce:∀z:AV,(∀cs,z≠ .bq cs)->MI x y z=Fi x y z:=by
  intro z hz
  cases z with
  | bq cs=>exact absurd rfl (hz cs)
  | _=>rfl
 refine ⟨cB,h.jP,h.jS,h.cX,fun i av hi=>?_,fun i r hr=>?_,fun i hi=>?_,fun i j g hi hj=>?_,fun i g hi=>?_,fun i g hi=>by simp,h.new⟩
 ·unfold rename at hi
  rw [cy] at hi
  cases hl:look s.F i with
  | none=>rw [hl] at hi;cases hi
  | some z =>
   rw [hl] at hi;injection hi with hi;subst hi
   exact ok.two (h.cC i z hl) (fun _=>rfl) Cf (fun _=>rfl) Ce
 ·rw [jY] at hr
  have:∃j q,look s.H j=some q∧cB i=φ j∧r=eS x y q:=by
   by_cases e:i=y
   ·rw [if_pos e] at hr
    cases hl:look s.H x with
    | none=>rw [hl] at hr;cases hr
    | some q=>rw [hl] at hr;injection hr with hr;exact ⟨x,q,hl,by simp [cB,e],hr.symm⟩
   ·rw [if_neg e] at hr
    by_cases e2:i=x
    ·rw [if_pos e2] at hr;cases hr
    ·rw [if_neg e2] at hr
     cases hl:look s.H i with
     | none=>rw [hl] at hr;cases hr
     | some q=>rw [hl] at hr;injection hr with hr;exact ⟨i,q,hl,by simp [cB,e,e2],hr.symm⟩
  obtain ⟨j,q,hq,MU,rfl⟩:=this
  have aP:=h.rows j q hq
  rw [MU]
  unfold bN at aP ⊢
  cases hb:φ j with
  | none =>
   rw [hb] at aP
   have:=(cH x y q).2.1
   simp only at aP ⊢
   rw [aP] at this;exact List.length_eq_zero_iff.1 this
  | some g =>
   rw [hb] at aP
   obtain ⟨cur,te,fr,hg,hf,hlen,mS,hc⟩:=aP
   refine ⟨cur,te,fr,hg,hf,by rw [(cH x y q).2.1];exact hlen,by rw [(cH x y q).2.1,(cH x y q).2.2.2];exact mS,fun j u z hu hz=>?_⟩
   rw [(cH x y q).2.2.1]
   unfold bg
   cases hp:q.pure with
   | true =>
    have:eS x y q=q:=by unfold eS;rw [hp]
    rw [this] at hz
    have:=hc j u z hu hz
    unfold bg at this;rw [hp] at this
    exact this.mono sK
   | false =>
    have:(eS x y q).cells=q.cells.map (kD x y):=by unfold eS;rw [hp]
    rw [this,List.getElem?_map] at hz
    cases hj:q.cells[j]? with
    | none=>rw [hj] at hz;cases hz
    | some z' =>
     rw [hj] at hz;injection hz with hz;subst hz
     have:=hc j u z' hu hj
     unfold bg at this;rw [hp] at this
     exact ok.all this
 ·rw [jY] at hi
  by_cases e:i=y
  ·rw [if_pos e] at hi
   cases hl:look s.H x with
   | none=>simp [cB,e,h.only x hl]
   | some q=>rw [hl] at hi;cases hi
  ·rw [if_neg e] at hi
   by_cases e2:i=x
   ·simp [cB,e2,cV]
   ·rw [if_neg e2] at hi
    cases hl:look s.H i with
    | none=>simp [cB,e,e2,h.only i hl]
    | some q=>rw [hl] at hi;cases hi
 ·obtain ⟨i',h1,h2,h3⟩:=mD i g hi
  obtain ⟨j',h4,h5,h6⟩:=mD j g hj
  have e:=h.inj i' j' g h1 h4
  by_cases ei:i=y<;>by_cases ej:j=y
  ·rw [ei,ej]
  ·have:=h2 ei;have:=h6 ej
   have:j=x:=ah
   subst this
   simp [cB,cV] at hj
  ·have:=h3 ei;have:=h5 ej
   have:i=x:=ah
   subst this
   simp [cB,cV] at hi
  ·have:=h3 ei;have:=h6 ej;omega
 ·obtain ⟨j,h1,h2,h3⟩:=mD i g hi
  have:=h.cW j g h1
  refine ⟨⟨?_,this.1.2⟩,this.2⟩
  by_cases e:i=y
  ·exact .inl ah
  ·rw [←h3 e];exact this.1.1
end
inductive Wk where
 | gN (id:Nat)
 | vo (a b:Nat)
 | nil (slot id e:Nat)
 | ae (cC ids:List Nat)
 | loose (id:Nat)
def mQ (s:AS):List Nat->List (Nat×AV)
 | []=>[]
 | i::l=>(i,jR s i)::mQ s l
def rX (H:List (Nat×Row)):List Nat->List (Nat×Row)
 | []=>[]
 | i::l=>match look H i with|some r=>(i,r)::rX H l|none=>rX H l
def fY (ids:List Nat):List (Nat×Row)->List Nat
 | []=>[]
 | (k,_)::l=>match ids.any (Nat.beq k) with|true=>fY ids l|false=>k::fY ids l
def DN (s:AS) (id:Nat):Option AS:=match look s.H id with|some r=>some ⟨s.F,(id,⟨r.e,r.pure,false,r.cells⟩)::cS s.H id⟩|none=>none
def Mv (s:AS):Wk->Option AS
 | .gN id=>(match look s.H id with|some r=>(match r.pure with|true=>some (gN id r s)|false=>none)|none=>none)
 | .vo x y=>(match Nat.beq x y,Nat.ble y 999999999999 with|false,true=>some (rename x y (ck y s))|_,_=>none)
 | .nil i id e=>(match jR s i with| .nil=>some (lp ⟨(ck id s).F,(id,⟨e,true,false,[]⟩)::(ck id s).H⟩ i (.ref id))|_=>none)
 | .ae is ids=>some ⟨(ba ⟨mQ s is,s.H⟩ (fY ids s.H)).F,rX (ba ⟨mQ s is,s.H⟩ (fY ids s.H)).H ids⟩
 | .loose id=>DN s id
def wk:List Wk->AS->Option AS
 | [],s=>some s
 | x::l,s=>match Mv s x with|some s1=>wk l s1|none=>none
theorem uq (s:AS):∀(l:List Nat) (i:Nat) (x:AV),look (mQ s l) i=some x->x=jR s i
 | [],i,x,h=>by cases h
 | k::l,i,x,h=>by
  simp only [mQ,aE] at h
  by_cases e:k=i
  ·rw [if_pos e] at h;injection h with h;rw [←h,e]
  ·rw [if_neg e] at h;exact uq s l i x h
theorem uo (H:List (Nat×Row)):∀(l:List Nat) (i:Nat),look (rX H l) i=if i∈l then look H i else none
 | [],i=>by simp [rX,look]
 | k::l,i=>by
  simp only [rX]
  have ih:=uo H l i
  cases hk:look H k with
  | none =>
   rw [ih]
   by_cases e:i=k
   ·subst e;simp [hk]
   ·simp [e]
  | some r =>
   simp only [aE,ih]
   by_cases e:k=i
   ·subst e;simp [hk]
   ·simp [e,Ne.symm e]
theorem nw (ids:List Nat):∀(H:List (Nat×Row)) (i:Nat),i ∉ ids->look H i=none∨i∈fY ids H
 | [],i,_=>.inl rfl
 | (k,r)::H,i,hi=>by
  simp only [fY,aE]
  by_cases e:k=i
  ·subst e
   right
   have:ids.any (Nat.beq k)=false:=by
    cases hb:ids.any (Nat.beq k) with
    | false=>rfl
    | true =>
     obtain ⟨j,hj,J3⟩:=List.any_eq_true.1 hb
     have:=Nat.eq_of_beq_eq_true J3
     subst this;exact absurd hj hi
   rw [this];simp
  ·rw [if_neg e]
   rcases nw ids H i hi with h|h
   ·exact .inl h
   ·right
    split
    ·exact h
    ·simp [h]
theorem tf {I:Info} {S:Nat->Prop} {w:World} {v:Value} (h:Den I S w v .nil):v= .slice none 0 0:=by
 cases h with|rep h=>cases h;rfl
theorem Mu {s s':AS} {x:Wk} (he:Mv s x=some s'):bS s s':=by
 intro S0 w0 n a w ⟨φ,hs⟩
 cases x with
 | gN id =>
  simp only [Mv] at he
  split at he
  ·rename_i r hr
   split at he
   ·rename_i hp;cases he;exact ⟨_,hs.LP hr hp⟩
   ·cases he
  ·cases he
 | vo x y =>
  simp only [Mv] at he
  split at he
  ·rename_i hb dh
   cases he
   have cV:x≠y:=Nat.ne_of_beq_eq_false hb
   have dh:=Nat.le_of_ble_eq_true dh
   obtain ⟨cB,h⟩:=(hs.mi y).Kw x y ah cV (dn y)
   exact ⟨cB,h⟩
  ·cases he
 | nil i id e =>
  simp only [Mv] at he
  split at he
  ·rename_i hn
   cases he
   have hv:=hs.get i
   rw [hn] at hv
   have H8:a.tmps.getD i undef= .slice none 0 0:=tf hv
   have h1:=hs.mi id
   have h2:=h1.rJ (id:=id) (r:=⟨e,true,false,[]⟩) (dn id) rfl
   refine ⟨erase φ id,h2.jP,h2.jS,h2.cX,fun j av hj=>?_,h2.rows,h2.only,h2.inj,h2.cW,h2.apart,h2.new⟩
   rw [q8] at hj
   by_cases e':i=j
   ·rw [if_pos e'] at hj;injection hj with hj;subst hj;subst e'
    rw [H8]
    exact .cD id e (by
     show az ((id,⟨e,true,false,[]⟩)::(ck id s).H) _ id=_
     rw [br (r:=⟨e,true,false,[]⟩) (by rw [aE,if_pos rfl]),h1.only id (dn id)];rfl)
   ·rw [if_neg e'] at hj;exact h2.cC j av hj
  ·cases he
 | ae is ids =>
  simp only [Mv] at he
  cases he
  have h1:aL S0 w0 n [] ⟨mQ s is,s.H⟩ a w φ:=by
   refine ⟨hs.jP,hs.jS,hs.cX,fun i av hi=>?_,hs.rows,hs.only,hs.inj,hs.cW,hs.apart,hs.new⟩
   rw [uq s is i av hi]
   exact hs.get i
  obtain ⟨cB,h2,-,h3⟩:=j_ (fY ids s.H) ⟨mQ s is,s.H⟩ φ [] h1
  have gf:∀i,i ∉ ids->look (ba ⟨mQ s is,s.H⟩ (fY ids s.H)).H i=none:=fun i hi=>h3 i (nw ids s.H i hi)
  have jY:∀i,look (rX (ba ⟨mQ s is,s.H⟩ (fY ids s.H)).H ids) i=look (ba ⟨mQ s is,s.H⟩ (fY ids s.H)).H i:=by
   intro i
   rw [uo]
   by_cases hi:i∈ids
   ·rw [if_pos hi]
   ·rw [if_neg hi,gf i hi]
  have hI:az (rX (ba ⟨mQ s is,s.H⟩ (fY ids s.H)).H ids) cB=az (ba ⟨mQ s is,s.H⟩ (fY ids s.H)).H cB:=by
   funext i;unfold az;rw [jY]
  refine ⟨cB,h2.jP,h2.jS,h2.cX,fun i av hi=>?_,fun i r hr=>?_,fun i hi=>?_,h2.inj,h2.cW,h2.apart,h2.new⟩
  ·simp only [hI];exact h2.cC i av hi
  ·simp only [hI];simp only [jY] at hr;exact h2.rows i r hr
  ·simp only [jY] at hi;exact h2.only i hi
 | loose id =>
  simp only [Mv,DN] at he
  split at he
  ·rename_i r hr
   cases he
   have lB:∀i,look ((id,(⟨r.e,r.pure,false,r.cells⟩:Row))::cS s.H id) i=if id=i then some ⟨r.e,r.pure,false,r.cells⟩ else look s.H i:=by
    intro i
    rw [aE,bI]
    by_cases e:id=i<;>simp [e]
   have hI:az ((id,(⟨r.e,r.pure,false,r.cells⟩:Row))::cS s.H id) φ=az s.H φ:=by
    funext i
    unfold az
    rw [lB]
    by_cases e:id=i
    ·subst e;rw [if_pos rfl,hr];rfl
    ·rw [if_neg e]
   refine ⟨φ,hs.jP,hs.jS,hs.cX,fun i av hi=>?_,fun i q hq=>?_,fun i hi=>?_,hs.inj,hs.cW,hs.apart,hs.new⟩
   ·simp only [hI];exact hs.cC i av hi
   ·simp only [hI]
    simp only [lB] at hq
    by_cases e:id=i
    ·subst e
     rw [if_pos rfl] at hq;injection hq with hq;subst hq
     have aP:=hs.rows id r hr
     unfold bN at aP ⊢
     cases cm:φ id with
     | none=>rw [cm] at aP;exact aP
     | some g =>
      rw [cm] at aP
      obtain ⟨cur,te,fr,hg,hf,hl,-,hc⟩:=aP
      exact ⟨cur,te,fr,hg,hf,hl,fun h=>(by cases h),hc⟩
    ·rw [if_neg e] at hq;exact hs.rows i q hq
   ·simp only [lB] at hi
    by_cases e:id=i
    ·rw [if_pos e] at hi;cases hi
    ·rw [if_neg e] at hi;exact hs.only i hi
  ·cases he
theorem vQ:∀(l:List Wk) {s s':AS},wk l s=some s'->bS s s'
 | [],s,s',he=>by cases he;exact fun _ _ _ _ _ h=>h
 | x::l,s,s',he=>by
  simp only [wk] at he
  split at he
  ·rename_i s1 h1
   exact fun S0 w0 n a w h=>vQ l he S0 w0 n a w (Mu h1 S0 w0 n a w h)
  ·cases he
theorem bf.wk {P:Program} {n:Nat} {c:Code} {Q:Exit->AS->Prop} {s s':AS} (l:List Wk) (he:wk l s=some s') (h:bf P n c Q s'):bf P n c Q s:=bf.oR (vQ l he) h
def A9 (s:AS):AV->AV->Option (List Nat×List Prop)
 | .val u,.val v=>some ([],[u=v])
 | .nil,.nil=>some ([],[])
 | .nil,.own _ row=>some ([],[row= []])
 | .nil,.sl _ row=>some ([],[row= []])
 | .sl e row,.sl e' Fc=>(match Nat.beq e e' with|true=>some ([],[row=Fc])|false=>none)
 | .arr cs,.arr J8=>some ([],[cs=J8])
 | .ptr row off,.ptr Fc Ch=>some ([],[row=Fc,off=Ch])
 | .lI f cs,.lI f' J8=>(match Nat.beq f f' with|true=>some ([],[cs=J8])|false=>none)
 | .ref id,.own e row=>(match look s.H id with|some ⟨e',true,_,cells⟩=>(match Nat.beq e e' with|true=>some ([id],[cells=row])|false=>none)|_=>none)
 | .pre id k,.own e row=>(match look s.H id with|some ⟨e',true,_,cells⟩=>(match Nat.beq e e' with|true=>some ([id],[cells.take k=row])|false=>none)|_=>none)
 | .addr id off,.box row=>(match look s.H id,off with|some ⟨_,false,true,cells⟩,0=>(match dY cells with|true=>some ([id],[cells=row])|false=>none)|_,_=>none)
 | _,_=>none
def A5 (f:AV->AV->Option (List Nat×List Prop)):List AV->List AV->Option (List Nat×List Prop)
 | [],[]=>some ([],[])
 | x::xs,r::rs=>match f x r,A5 f xs rs with|some (a,C),some (b,D)=>some (a++b,C++D)|_,_=>none
 | _,_=>none
def A7 (s:AS):AV->AV->Option (List Nat×List Prop)
 | .agg xs,.agg rs=>A5 (A9 s) xs rs
 | x,r=>A9 s x r
def lb (s:AS):AV->AV->Option (List Nat×List Prop)
 | .bq xs,.bq rs=>A5 (A7 s) xs rs
 | x,r=>A7 s x r
section
variable {S0:bm} {w0 w:World} {n:Nat} {s:AS} {a:Act} {φ:Nat->Option Nat}
def blocks (φ:Nat->Option Nat):List Nat->List Nat
 | []=>[]
 | i::l=>match φ i with|some g=>g::blocks φ l|none=>blocks φ l
theorem DB (φ:Nat->Option Nat) (l m:List Nat):blocks φ (l++m)=blocks φ l++blocks φ m:=by
 induction l with
 | nil=>rfl
 | cons i l ih =>
  simp only [List.cons_append,blocks]
  cases φ i<;>simp [ih]
theorem ie {φ:Nat->Option Nat} {g:Nat}:∀ {l:List Nat},g∈blocks φ l-> ∃i∈l,φ i=some g
 | [],h=>by cases h
 | i::l,h=>by
  simp only [blocks] at h
  split at h
  ·rename_i g' ja
   rcases List.mem_cons.1 h with rfl|h
   ·exact ⟨i,by simp,ja⟩
   ·obtain ⟨j,h1,h2⟩:=ie h
    exact ⟨j,by simp [h1],h2⟩
  ·obtain ⟨j,h1,h2⟩:=ie h
   exact ⟨j,by simp [h1],h2⟩
theorem ka (hs:aL S0 w0 n [] s a w φ):∀ {l:List Nat},l.Nodup->(blocks φ l).Nodup
 | [],_=>List.nodup_nil
 | i::l,h=>by
  rw [List.nodup_cons] at h
  simp only [blocks]
  split
  ·rename_i g hg
   rw [List.nodup_cons]
   refine ⟨fun hm=>?_,ka hs h.2⟩
   obtain ⟨j,h1,h2⟩:=ie hm
   have:=hs.inj i j g hg h2
   subst this;exact h.1 h1
  ·exact ka hs h.2
theorem A8 (hs:aL S0 w0 n [] s a w φ) {v:Value} {x r:AV} {ids:List Nat} {C:List Prop} (hx:Den (az s.H φ) (aN S0 w φ []) w v x) (hg:A9 s x r=some (ids,C)) (hC:bx C):h_ (aN S0 w φ []) w v r (blocks φ ids):=by
 have own:∀(id e l c g:Nat) (fu:Bool) (cells row:List AV),look s.H id=some ⟨e,true,fu,cells⟩->φ id=some g->row.length=e*l->l≤c->c≤maxLen->aV w g=e*c->(∀(j:Nat) x,row[j]?=some x->cells[j]?=some x)->h_ (aN S0 w φ []) w (.slice (some ⟨g,0,none⟩) l c) (.own e row) (blocks φ [id]):=by
  intro id e l c g fu cells row hr cm hl hc hm gl Ct
  obtain ⟨cur,te,fr,hg,hf,hle,bu⟩:=kA hs hr rfl cm
  have:blocks φ [id]= [g]:=by simp [blocks,cm]
  rw [this]
  exact .own g l c e row cur te fr hg hf hl hc hm (by unfold aV at gl;rw [hg] at gl;exact gl) fun j u x hu hx=>bu j u x hu (Ct j x hx)
 have HI:∀(id e:Nat),φ id=none->h_ (aN S0 w φ []) w (.slice none 0 0) (.own e []) (blocks φ [id]):=by
  intro id e cm
  have:blocks φ [id]= []:=by simp [blocks,cm]
  rw [this];exact .nil e
 unfold A9 at hg
 split at hg
 ·cases hg;have:=hC.1;subst this;exact .rep (by cases hx with|rep h=>exact h)
 ·cases hg;exact .rep (by cases hx with|rep h=>exact h)
 ·cases hg;have:=hC.1;subst this;rw [tf hx];exact .nil _
 ·cases hg;have:=hC.1;subst this;rw [tf hx];exact .rep (iN none 0 0 _ (by simp) (by simp) (by simp))
 ·split at hg
  ·rename_i hb
   cases hg
   have:=hC.1
   subst this
   rw [←Nat.eq_of_beq_eq_true hb]
   exact .rep (pn hx)
  ·cases hg
 ·cases hg;have:=hC.1;subst this;exact .rep (by cases hx with|rep h=>exact h)
 ·cases hg
  obtain ⟨h1,h2,-⟩:=hC
  subst h1;subst h2
  exact .rep (by cases hx with|rep h=>exact h)
 ·split at hg
  ·rename_i hb
   cases hg
   have:=hC.1
   subst this
   rw [←Nat.eq_of_beq_eq_true hb]
   exact .rep (by cases hx with|rep h=>exact h)
  ·cases hg
 ·rename_i id e row
  split at hg
  ·rename_i e' fu cells hr
   split at hg
   ·rename_i hb
    have hb:=Nat.eq_of_beq_eq_true hb
    cases hg
    have:=hC.1
    subst this
    subst hb
    cases hx with
    | rep h=>cases h
    | ref _ e2 m g l c hi hm hc hx bY =>
     obtain ⟨r',ij,h1,h2,cm⟩:=aQ hi
     rw [hr] at ij;injection ij with ij;subst ij
     simp only at h1 h2
     exact own id e l c g fu cells cells hr cm (by rw [h2,hm,h1]) hc hx (by rw [h1];exact bY) (fun _ _ h=>h)
    | cD _ e2 hi =>
     obtain ⟨r',ij,h1,h2,cm⟩:=aQ hi
     rw [hr] at ij;injection ij with ij;subst ij
     simp only at h2
     have:cells= []:=List.length_eq_zero_iff.1 h2
     subst this
     exact HI id e cm
   ·cases hg
  ·cases hg
 ·rename_i id k e row
  split at hg
  ·rename_i e' fu cells hr
   split at hg
   ·rename_i hb
    have hb:=Nat.eq_of_beq_eq_true hb
    cases hg
    have:=hC.1
    subst this
    subst hb
    cases hx with
    | rep h=>cases h
    | pre _ _ e2 m g l c hi hn hm hc hx bY =>
     obtain ⟨r',ij,h1,h2,cm⟩:=aQ hi
     rw [hr] at ij;injection ij with ij;subst ij
     simp only at h1 h2
     exact own id e l c g fu cells (cells.take k) hr cm (by rw [List.length_take,h2,h1,←hn];omega) hc hx (by rw [h1];exact bY) (fun j x h=>bX _ _ _ _ h)
    | dC _ e2 hi =>
     obtain ⟨r',ij,h1,h2,cm⟩:=aQ hi
     simp only [List.take_zero]
     exact HI id e cm
   ·cases hg
  ·cases hg
 ·rename_i id off row
  split at hg
  ·rename_i e cells hr
   split at hg
   ·rename_i hp
    cases hg
    have:=hC.1
    subst this
    obtain ⟨e2,m,g,hi,hv⟩:=jO hx
    obtain ⟨r',ij,h1,h2,cm⟩:=aQ hi
    have aP:=hs.rows id _ hr
    rw [cm] at aP
    obtain ⟨cur,te,fr,u1,u2,u3,u4,u5⟩:=aP
    have:blocks φ [id]= [g]:=by simp [blocks,cm]
    rw [this,hv]
    refine .box g cells cur te fr u1 u2 (u4 rfl) fun j u x hu hx=>?_
    have hd:Den (az s.H φ) (aN S0 w φ []) w u x:=u5 j u x hu hx
    exact (eH hd (iz hp hx)).1
   ·cases hg
  ·cases hg
 ·cases hg
theorem uP {f:AV->AV->Option (List Nat×List Prop)} {R:Value->AV->List Nat->Prop} (hf:∀v x r ids C,Den (az s.H φ) (aN S0 w φ []) w v x->f x r=some (ids,C)->bx C->R v r (blocks φ ids)):∀(vs:List Value) (xs rs:List AV) (ids:List Nat) (C:List Prop),vs.length=xs.length->(∀(j:Nat) v c,vs[j]?=some v->xs[j]?=some c->Den (az s.H φ) (aN S0 w φ []) w v c)->A5 f xs rs=some (ids,C)->bx C->kW R vs rs (blocks φ ids)
 | vs,[],rs,ids,C,hl,hd,hg,hC=>by
  cases vs with
  | cons=>simp at hl
  | nil =>
   cases rs with
   | nil=>cases hg;exact .nil
   | cons=>cases hg
 | vs,x::xs,[],ids,C,hl,hd,hg,hC=>by cases hg
 | [],x::xs,r::rs,ids,C,hl,hd,hg,hC=>by simp at hl
 | v::vs,x::xs,r::rs,ids,C,hl,hd,hg,hC=>by
  simp only [A5] at hg
  split at hg
  ·rename_i a C1 b D h1 h2
   cases hg
   obtain ⟨iI,hD⟩:=bQ.1 hC
   rw [DB]
   exact .cons (hf v x r a C1 (hd 0 v x rfl rfl) h1 iI) (uP hf vs xs rs b D (by simpa using hl) (fun j v c hv hc=>hd (j+1) v c (by simpa using hv) (by simpa using hc)) h2 hD)
  ·cases hg
theorem A6 (hs:aL S0 w0 n [] s a w φ) {v:Value} {x r:AV} {ids:List Nat} {C:List Prop} (hx:Den (az s.H φ) (aN S0 w φ []) w v x) (hg:A7 s x r=some (ids,C)) (hC:bx C):nU (aN S0 w φ []) w v r (blocks φ ids):=by
 unfold A7 at hg
 split at hg
 ·obtain ⟨vs,rfl,hl,hd⟩:=ki hx
  exact .inr ⟨vs,_,rfl,rfl,uP (f:=A9 s) (R:=h_ (aN S0 w φ []) w) (fun v x r ids C h1 h2 h3=>A8 hs h1 h2 h3) vs _ _ ids C hl hd hg hC⟩
 ·exact .inl (A8 hs hx hg hC)
theorem qe (hs:aL S0 w0 n [] s a w φ) {v:Value} {x r:AV} {ids:List Nat} {C:List Prop} (hx:Den (az s.H φ) (aN S0 w φ []) w v x) (hg:lb s x r=some (ids,C)) (hC:bx C):sP (aN S0 w φ []) w v r (blocks φ ids):=by
 unfold lb at hg
 split at hg
 ·obtain ⟨vs,rfl,hl,hd⟩:=yP hx
  exact .inr ⟨vs,_,rfl,rfl,uP (f:=A7 s) (R:=nU (aN S0 w φ []) w) (fun v x r ids C h1 h2 h3=>A6 hs h1 h2 h3) vs _ _ ids C hl hd hg hC⟩
 ·exact .inl (A6 hs hx hg hC)
end
def Hm (P:Program) (s:AS):ResultVar->Option (AV×List Prop)
 | .tmp t=>some (jR s t,[])
 | .cell x t=>(match jR s x with
  | .addr id off=>(match look s.H id with
   | some r=>(match H5 P t,r.pure,off with
    | true,true,0=>(match eh P t with|some z=>some (.arr r.cells,[r.cells.length=z])|none=>none)
    | _,_,_=>ph P t r.pure r.cells off {})
   | none=>none)
  | _=>none)
def Fe (P:Program) (s:AS):List ResultVar->Option (List AV×List Prop)
 | []=>some ([],[])
 | x::l=>match Hm P s x,Fe P s l with|some (y,C),some (m,D)=>some (y::m,C++D)|_,_=>none
def nL (P:Program) (s:AS) (rs:List ResultVar) (r:AV):Option (List Prop) :=
 match Fe P s rs with
 | some (xs,C)=>(match (match xs with| [x]=>lb s x r|xs=>lb s (.bq xs) r) with
  | some (ids,D)=>(match nodupB ids with|true=>some (C++D)|false=>none)
  | none=>none)
 | none=>none
section
variable {P:Program} {S0:bm} {w0 w:World} {n:Nat} {s:AS} {a:Act} {φ:Nat->Option Nat}
def nk (a:Act):ResultVar->Sem Value
 | .tmp t=>pure (a.tmps.getD t undef)
 | .cell b t=>do loadVar t (←asAddr (a.tmps.getD b undef))
theorem Hk (hs:aL S0 w0 n [] s a w φ) {x:ResultVar} {y:AV} {C:List Prop} (he:Hm P s x=some (y,C)) (hC:bx C) :
  ∃v,(nk a x).run P w= .ok v w∧Den (az s.H φ) (aN S0 w φ []) w v y:=by
 cases x with
 | tmp t=>cases he;exact ⟨_,rfl,hs.get t⟩
 | cell b t =>
  simp only [Hm] at he
  split at he
  ·rename_i id off hb
   split at he
   ·rename_i r hr
    have hx:=hs.get b
    rw [hb] at hx
    obtain ⟨e,m,g,hi,hv⟩:=jO hx
    obtain ⟨r',ij,-,-,cm⟩:=aQ hi
    obtain ⟨cur,te,fr,hg,hf,hle,hc⟩:=BZ hs hr cm
    have rd:∀(z:AV×List Prop) (h:Hint),ph P t r.pure r.cells off h=some z->bx z.2-> ∃v,(nk a (.cell b t)).run P w= .ok v w∧Den (az s.H φ) (aN S0 w φ []) w v z.1:=by
     intro z h hz Vz
     obtain ⟨v,h1,h2⟩:=ru (I:=az s.H φ) (S:=aN S0 w φ []) hz Vz ⟨g,off,none⟩ cur.toList hle (fun j u hu=>by rw [l_,cell_of_row w g _ cur te fr hg];simpa using hu) (fun j u x hu hx=>hc j u x (by simpa using hu) hx)
     exact ⟨v,by simp only [nk];rw [hv];simp [asAddr,h1],h2⟩
    split at he
    ·rename_i sJ hp
     split at he
     ·rename_i z hz
      cases he
      have hlen:=hC.1
      unfold H5 at sJ
      split at sJ
      ·rename_i k el hu
       refine rd (.arr r.cells,[(r.cells.drop 0).take z=r.cells,r.cells.length=z]) {av:=some (.arr r.cells)} ?_ ⟨by rw [List.drop_zero,List.take_of_length_le ah],hlen,trivial⟩
       unfold ph
       rw [hz,hu,hp]
      ·cases sJ
     ·cases he
    ·exact rd _ _ he hC
   ·cases he
  ·cases he
theorem xm (hs:aL S0 w0 n [] s a w φ):∀(l:List ResultVar) (ys:List AV) (C:List Prop),Fe P s l=some (ys,C)->bx C ->
  ∃vs:List Value,(l.mapM (nk a)).run P w= .ok vs w∧vs.length=ys.length∧ ∀(j:Nat) v c,vs[j]?=some v->ys[j]?=some c->Den (az s.H φ) (aN S0 w φ []) w v c
 | [],ys,C,he,hC=>by cases he;exact ⟨[],rfl,rfl,fun j v c hv=>by simp at hv⟩
 | x::l,ys,C,he,hC=>by
  simp only [Fe] at he
  split at he
  ·rename_i y C1 m D h1 h2
   cases he
   obtain ⟨iI,hD⟩:=bQ.1 hC
   obtain ⟨v,MZ,MY⟩:=Hk hs h1 iI
   obtain ⟨vs,h3,h4,h5⟩:=xm hs l m D h2 hD
   refine ⟨v::vs,?_,by simp [h4],fun j u c hu hc=>?_⟩
   ·rw [List.mapM_cons,Sem.run_bind,MZ]
    simp only [Result.andThen_ok]
    rw [Sem.run_bind,h3]
    rfl
   ·cases j with
    | zero=>simp at hu hc;subst hu;subst hc;exact MY
    | succ j=>exact h5 j u c (by simpa using hu) (by simpa using hc)
  ·cases he
theorem I2 (hs:aL S0 w0 n [] s a w φ) {fn:Func} {r:AV} {C:List Prop} (he:nL P s fn.results.toList r=some C) (hC:bx C) :
  ∃v O,(results fn a.tmps).run P w= .ok v w∧O.Nodup∧(∀g∈O,∃i,φ i=some g)∧sP (aN S0 w φ []) w v r O:=by
 unfold nL at he
 split at he
 ·rename_i xs C1 hr
  split at he
  ·rename_i ids D hg
   split at he
   ·rename_i hn
    cases he
    obtain ⟨iI,hD⟩:=bQ.1 hC
    obtain ⟨vs,cp,hl,hd⟩:=xm hs _ _ _ hr iI
    have hm:(fn.results.mapM (nk a)).run P w= .ok vs.toArray w:=by
     rw [Array.mapM_eq_mapM_toList,Sem.run_map,cp];rfl
    have Ig:(results fn a.tmps).run P w= .ok (if h:vs.toArray.size=1 then vs.toArray[0] else .tuple vs.toArray) w:=by
     have he:results fn a.tmps=(do let vs ←fn.results.mapM (nk a);pure (if h:vs.size=1 then vs[0] else .tuple vs):Sem Value):=by
      unfold results
      congr 1
     rw [he,Sem.run_bind,hm]
     rfl
    refine ⟨_,blocks φ ids,Ig,ka hs (iB hn),fun g hg=>(ie hg).imp fun i h=>h.2,?_⟩
    split at hg
    ·rename_i x
     cases vs with
     | nil=>simp at hl
     | cons v vs =>
      have:vs= []:=by simpa using hl
      subst this
      exact qe hs (hd 0 v x rfl rfl) hg hD
    ·rename_i cV
     have dw:¬vs.toArray.size=1:=by
      intro h1
      have h2:xs.length=1:=by rw [←hl];simpa using h1
      obtain ⟨x,rfl⟩:=List.length_eq_one_iff.1 h2
      exact cV x rfl
     rw [dif_neg dw]
     exact qe hs (.bq vs xs hl hd) hg hD
   ·cases he
  ·cases he
 ·cases he
end
def kV:Nat->List AV->List (Nat×AV)
 | _,[]=>[]
 | i,x::l=>(i,x)::kV (i+1) l
theorem mw:∀(l:List AV) (i j:Nat) (x:AV),look (kV i l) j=some x-> ∃k,j=i+k∧l[k]?=some x
 | [],i,j,x,h=>by cases h
 | y::l,i,j,x,h=>by
  simp only [kV,aE] at h
  by_cases e:i=j
  ·rw [if_pos e] at h;exact ⟨0,ah,by simpa using h⟩
  ·rw [if_neg e] at h
   obtain ⟨k,h1,h2⟩:=mw l (i+1) j x h
   exact ⟨k+1,ah,by simpa using h2⟩
def vO (P:Program) (rs:List ResultVar) (r:AV):Exit->AS->Prop
 | .normal,s=>∃C,nL P s rs r=some C∧bx C
 | .ret,s=>∃C,nL P s rs r=some C∧bx C
 | _,_=>False
theorem mA {P:Program} {fn:Func} {tmps:Array Value} {R:Ending->World->Prop}:∀(ms:List Nat) (w:World),ms.Nodup->(∀r∈ms,w.heap[r]?=some (.deferred (some []))) ->
  (∀w',w'.os=w.os->w'.tape=w.tape->w'.output=w.output->w'.heap.size=w.heap.size->(∀b,b ∉ ms->w'.heap[b]?=w.heap[b]?)-> ∃v,(results fn tmps).run P w'= .ok v w'∧R (.returned v) w') ->
  LeavesInM Fence.wide 0 P fn tmps R (ms.map mark) .returning w
 | [],w,_,_,h=>h w rfl rfl rfl rfl fun _ _=>rfl
 | r::ms,w,nd,hm,h=>by
  rw [List.nodup_cons] at nd
  refine ⟨by simp,.inl ⟨r,w.putObj r (.deferred none),rfl,run_takeDeferred (hm r (by simp)),?_⟩⟩
  refine mA ms _ nd.2 (fun r' ij=>?_) (fun w' h1 h2 h3 h4 h5=>h w' h1 h2 h3 (by rw [h4];exact World.putObj_size) fun b hb=>?_)
  ·rw [World.putObj_heap_other fun e=>nd.1 (by rw [←e];exact ij)];exact hm r' (by simp [ij])
  ·simp only [List.mem_cons,not_or] at hb
   rw [h5 b hb.2,World.putObj_heap_other hb.1]
theorem mZ.close {Z:bm} {w w' fp:World} {n:Nat} {s:AS} {a:Act} (hd:Z.si= []) (lY:∀b,(w.heap.size≤b∨Z.X b)->Z.S b) {S1:bm} {w1:World} {ms:List Nat} (hE:k7 Z w S1 w1 ms) {φ:Nat->Option Nat} (hs:aL S1 w1 n [] s a w' φ)
  (h1:fp.os=w'.os) (h2:fp.tape=w'.tape) (h3:fp.output=w'.output) (h4:fp.heap.size=w'.heap.size) (h5:∀b,b ∉ ms->fp.heap[b]?=w'.heap[b]?):aL Z w n [] s ⟨a.tmps,[]⟩ fp φ:=by
 have hS:∀b,S1.S b->fp.heap[b]?=w'.heap[b]?:=fun b hb=>h5 b fun hm=>(hE.marks b hm).2.2.2.1 hb
 have hF:∀b,aN S1 w' φ [] b->aN Z fp φ [] b∧fp.heap[b]?=w'.heap[b]?:=fun b hb=>⟨⟨by rw [h4];exact hb.1,hb.2.1,hb.2.2.1,hE.sub b hb.2.2.2⟩,hS b hb.2.2.2⟩
 have cm:∀id g,φ id=some g->fp.heap[g]?=w'.heap[g]?:=fun id g hg=>hS g (hs.new g (hs.cW id g hg).1.2)
 have hL:∀id e m g,az s.H φ id=some (e,m,some g)->aV fp g=aV w' g:=fun id e m g hi=>by
  obtain ⟨_,-,-,-,hg⟩:=aQ hi
  unfold aV;rw [cm id g hg]
 refine ⟨hs.jP,hd.symm,?_,fun i av hi=>(hs.cC i av hi).mono (fun _ _ h=>h) hF hL,fun id r hr=>?_,hs.only,hs.inj,fun id g hg=>⟨⟨?_,?_⟩,by rw [h4];exact (hs.cW id g hg).2⟩,fun _ _ _ h=>(by cases h),lY⟩
 ·have k:=hE.kept.trans hs.cX hE.X
  exact ⟨h1.trans k.os,h2.trans k.tape,h3.trans k.output,by rw [h4];exact k.size,fun b hb hx=>(h5 b fun hm=>by have:=(hE.marks b hm).1;omega).trans (k.block b hb hx),k.g0,k.gx⟩
 ·have aP:=hs.rows id r hr
  unfold bN at aP ⊢
  cases hg:φ id with
  | none=>rw [hg] at aP;exact aP
  | some g =>
   rw [hg] at aP
   obtain ⟨cur,te,fr,u1,u2,u3,u4,u5⟩:=aP
   refine ⟨cur,te,fr,(cm id g hg).trans u1,u2,u3,u4,fun j u x hu hx=>?_⟩
   have:=u5 j u x hu hx
   unfold bg at this ⊢
   cases hp:r.pure with
   | true=>rw [hp] at this;exact this.mono hF
   | false=>rw [hp] at this;exact this.mono (fun _ _ h=>h) hF hL
 ·exact (hs.cW id g hg).1.1.imp (fun h=>h) fun h=>by rw [←hE.fix];exact h
 ·rcases (hs.cW id g hg).1.2 with h|h
  ·exact .inl (Nat.le_trans hE.kept.size h)
  ·exact hE.X g h
theorem qv {P:Program} {f:FuncId} {fn:Func} {c:Code} {args:Array Value} {w:World} {R:Ending->World->Prop} (hf:P.funcs[f]?=some fn) (hb:fn.body=some c) {Z:bm} {n:Nat} (hd:Z.si= []) (lY:∀b,(w.heap.size≤b∨Z.X b)->Z.S b) {Q:Exit->AS->Prop} (hQ:∀e s,Q e s->e= .normal∨e= .ret)
  (h:BM P c (fun e a' w'=>∃s',Q e s'∧mZ Z w n s' a' w') {tmps:=args++Array.replicate (fn.ntmps-args.size) undef,defers:=[]} w)
  (ke:∀e s' (a':Act) w',Q e s'->a'.defers= []->iu Z w n s' a' w'-> ∃v,(results fn a'.tmps).run P w'= .ok v w'∧R (.returned v) w'):Calls P f args w R:=by
 refine callsIn_wide.1 (callsIn_of_wp_marks (F:=Fence.wide) (n:=0) hf hb trivial ?_)
 refine wpIn_wide.2 (wp_mono (kx _ _ _ _ h) fun e a' w' ⟨s',hq,S1,w1,ms,hE,φ,hs⟩=>?_)
 have fin:LeavesInM Fence.wide 0 P fn a'.tmps R a'.defers .returning w':=by
  have Np:a'.defers=ms.map mark:=by rw [hs.jS,hE.si,hd,List.append_nil]
  rw [Np]
  refine mA ms w' hE.nodup (fun r hr=>?_) (fun fp h1 h2 h3 h4 h5=>ke e s' ⟨a'.tmps,[]⟩ fp hq rfl ⟨φ,mZ.close hd lY hE hs h1 h2 h3 h4 h5⟩)
  obtain ⟨-,k2,k3,-,k5⟩:=hE.marks r hr
  exact (hs.cX.block r k2 k5).trans k3
 rcases hQ e s' hq with rfl|rfl
 ·exact fin
 ·exact fin
theorem bK.pV {P:Program} {f:FuncId} {fn:Func} {c:Code} {args:List AV} {r:AV} (hf:P.funcs[f]?=some fn) (hb:fn.body=some c) (n:Nat) (hn:fn.ntmps=n) (iC:args.length≤n) (h:bf P n c (vO P fn.results.toList r) ⟨kV 0 args,[]⟩):bK P f args r:=by
 intro w S vs jZ hS hl bZ
 let Z:bm:=⟨fun b=>S b∨w.heap.size≤b,fun _=>False,fun _=>none,[]⟩
 have Me:aL Z w n [] ⟨kV 0 args,[]⟩ {tmps:=vs.toArray++Array.replicate (fn.ntmps-vs.toArray.size) undef,defers:=[]} w (fun _=>none):=by
  refine ⟨by simp;omega,rfl,⟨rfl,rfl,rfl,Nat.le_refl _,fun _ _ _=>rfl,jZ,fun _ _ h=>h⟩,fun i av hi=>?_,fun id r hr=>(by cases hr),fun _ _=>rfl,fun _ _ _ h=>(by cases h),fun _ _ h=>(by cases h),fun _ _ h=>(by cases h),fun b hb=>Or.inr (hb.elim id fun h=>h.elim)⟩
  obtain ⟨k,rfl,hk⟩:=mw args 0 i av hi
  have iG:k<vs.length:=by have:=(List.getElem?_eq_some_iff.1 hk).1;omega
  have hv:vs[k]?=some vs[k]:=List.getElem?_eq_getElem iG
  have e:(vs.toArray++Array.replicate (fn.ntmps-vs.toArray.size) undef).getD (0+k) undef=vs[k]:=by
   rw [Nat.zero_add,Array.getD_eq_getD_getElem?,Array.getElem?_append_left (by simpa using iG)]
   simp [iG]
  simp only [e]
  exact .rep ((bZ k vs[k] av hv hk).mono fun b hb=>⟨⟨hS b hb,by simp,fun _ h=>(by cases h),Or.inl hb⟩,rfl⟩)
 refine qv hf hb (Z:=Z) rfl (fun b hb=>Or.inr (hb.elim id fun h=>h.elim)) (Q:=vO P fn.results.toList r) (fun e s hq=>by cases e<;>first|exact .inl rfl|exact .inr rfl|exact hq.elim) (h Z w _ w ⟨_,Me⟩) fun e s' a' w' hq hd ⟨φ,bY⟩=>?_
 have hq:∃C,nL P s' fn.results.toList r=some C∧bx C:=by cases e<;>first|exact hq|exact hq.elim
 obtain ⟨C,he,hC⟩:=hq
 obtain ⟨v,O,cp,ik,hO,hg⟩:=I2 bY he hC
 refine ⟨v,cp,v,O,rfl,bY.cX.below (fun _ h=>h),ik,fun g hg=>?_,hg.mono fun b hb=>?_⟩
 ·obtain ⟨i,hi⟩:=hO g hg
  exact ⟨(bY.cW i g hi).1.2.elim id fun h=>h.elim,(bY.cW i g hi).2⟩
 ·rcases hb.2.2.2 with h1|h1
  ·exact .inl h1
  ·exact .inr ⟨h1,hb.1,fun hm=>by obtain ⟨i,hi⟩:=hO b hm;exact hb.2.2.1 i hi⟩
def dt (fn:Func):Code:=match fn.body with|some c=>c|none=>.skip
theorem bK.HE {P:Program} {f:FuncId} {fn:Func} {args:List AV} {r:AV} (hf:P.funcs[f]?=some fn) (hb:fn.body.isSome=true) (n:Nat) (hn:fn.ntmps=n) (iC:Nat.ble args.length n=true) (h:bf P n (dt fn) (vO P fn.results.toList r) ⟨kV 0 args,[]⟩):bK P f args r:=by
 cases uL:fn.body with
 | none=>rw [uL] at hb;cases hb
 | some c =>
  have:dt fn=c:=by unfold dt;rw [uL]
  rw [this] at h
  exact bK.pV hf uL n hn (Nat.le_of_ble_eq_true iC) h
theorem bf.i9 {P:Program} {n:Nat} {c:Code} {Q:Exit->AS->Prop} {s s':AS} {C:List Prop} (k:Nat) (l:List pB) (hk:Nat.beq l.length k=true) (he:kP P n l c s=some (s',C)) (hC:bx C) (h:bf P n (qn k c) Q s'):bf P n c Q s:=by
 rw [←Nat.eq_of_beq_eq_true hk] at h
 exact bf.OY l he hC h
theorem vO.Kt {P:Program} {rs:List ResultVar} {r:AV} {s:AS} {C:List Prop} (he:nL P s rs r=some C) (hC:bx C):vO P rs r .ret s:=⟨C,he,hC⟩
section
variable {P:Program} {n:Nat} {c:Code} {Q:Exit->AS->Prop} {K:AS->Prop} {s s1 s2:AS}
theorem bf.Jw {x:Operand} {b:Bool} (hc:lf c=some x) (hx:bp s x= .val (.bool b)) (hb:b=true) (h:bf P n (oF c) Q s):bf P n c Q s:=bf.cond hc hx (fun _=>h) (fun e=>by rw [hb] at e;cases e)
theorem bf.Jx {x:Operand} {b:Bool} (hc:lf c=some x) (hx:bp s x= .val (.bool b)) (hb:b=false) (h:bf P n (oQ c) Q s):bf P n c Q s:=bf.cond hc hx (fun e=>by rw [hb] at e;cases e) (fun _=>h)
theorem bf.Qo {x:Operand} {p:Prop} [Decidable p] (hc:lf c=some x) (hx:bp s x= .val (.bool (decide p))) (ht:p->bf P n (oF c) Q s) (hf:¬p->bf P n (oQ c) Q s):bf P n c Q s:=bf.cond hc hx (fun e=>ht (of_decide_eq_true e)) (fun e=>hf (of_decide_eq_false e))
theorem bf.Jy {α:Type} [BEq α] [LawfulBEq α] {x:Operand} {u v:α} (hc:lf c=some x) (hx:bp s x= .val (.bool (u == v))) (ht:u=v->bf P n (oF c) Q s) (hf:u≠v->bf P n (oQ c) Q s):bf P n c Q s:=bf.cond hc hx (fun e=>ht (eq_of_beq e)) (fun e=>hf (by simpa using e))
theorem bf.Qn {α:Type} [BEq α] [LawfulBEq α] {x:Operand} {u v:α} (hc:lf c=some x) (hx:bp s x= .val (.bool (u != v))) (ht:u≠v->bf P n (oF c) Q s) (hf:u=v->bf P n (oQ c) Q s):bf P n c Q s:=bf.cond hc hx (fun e=>ht (by simpa using e)) (fun e=>hf (by simpa using e))
theorem bf.join (J:AS) (hc:AE c=true) (h1:bf P n (il c) (rL (fun s'=>bS s' J) Q) s) (h2:bf P n (dH c) Q J):bf P n c Q s:=by
 refine bf.seq hc (h1.mono fun e s' hq=>?_)
 cases e with
 | normal=>exact bf.oR hq h2
 | _=>exact hq
theorem bf.oN {ι:Type} (J:ι->AS) (Inv:ι->Prop) (hc:AE c=true) (h1:bf P n (il c) (rL (fun s'=>∃x,Inv x∧bS s' (J x)) Q) s) (h2:∀x,Inv x->bf P n (dH c) Q (J x)):bf P n c Q s :=
 bf.seq hc (bf.mono h1 fun e s' h=>by
  cases e with
  | normal=>obtain ⟨x,hx,hw⟩:=h;exact bf.oR hw (h2 x hx)
  | exit _=>exact h
  | ret=>exact h
  | _=>exact h)
theorem ak (h:K s):rL K Q .normal s:=h
theorem a7 {id:Nat} (h:Q (.exit id) s):rL K Q (.exit id) s:=h
theorem aI (h:Q .ret s):rL K Q .ret s:=h
theorem aM {id:Nat} (h:Q .normal s):Od id Q .normal s:=h
theorem aY {id:Nat} (h:Q .ret s):Od id Q .ret s:=h
theorem bn {id:Nat} (h:Q .normal s):Od id Q (.exit id) s:=by show (if _ then _ else _);rw [if_pos rfl];exact h
theorem Pc {id i:Nat} (hi:Nat.beq i id=false) (h:Q (.exit i) s):Od id Q (.exit i) s:=by show (if _ then _ else _);rw [if_neg (Nat.ne_of_beq_eq_false hi)];exact h
theorem bS.of (l:List Wk) (he:wk l s=some s1) (e:s1=s2):bS s s2:=e ▸ vQ l he
theorem aJ {ι:Type} {I:ι->AS} {Inv:ι->Prop} {m:ι->Nat} {x:ι} (y:ι) (h1:Inv y) (h2:m y<m x) (h3:bS s (I y)):Round I Inv m Q x .normal s:=⟨y,h1,h2,h3⟩
theorem aO {ι:Type} {I:ι->AS} {Inv:ι->Prop} {m:ι->Nat} {x:ι} {id:Nat} (h:Q (.exit id) s):Round I Inv m Q x (.exit id) s:=h
theorem c_ {ι:Type} {I:ι->AS} {Inv:ι->Prop} {m:ι->Nat} {x:ι} (h:Q .ret s):Round I Inv m Q x .ret s:=h
end
def u64 (n:Int):UInt64:=UInt64.ofInt n
def u8 (n:Int):UInt8:=UInt8.ofInt n
theorem zj (n:Int):IntKind.u64.wrap n=wv (u64 n):=by
 unfold wv u64;rw [IntKind.wrap_u64]
 simp [UInt64.ofInt]
 omega
theorem JD (n:Int):IntKind.u8.wrap n=bv (u8 n):=by
 unfold bv u8;rw [IntKind.wrap_u8]
 simp [UInt8.ofInt]
 omega
abbrev aw (x:UInt64):AV:=.val (.int .u64 (wv x))
abbrev ab (x:UInt8):AV:=.val (.int .u8 (bv x))
abbrev ai (n:Int):AV:=.val (.int .i64 n)
abbrev ao (b:Bool):AV:=.val (.bool b)
abbrev db (s:List UInt8):AV:=.val (.string ⟨s.toArray⟩)
theorem dG {n:Int} (h1: -9223372036854775808≤n) (h2:n≤9223372036854775807):AV.val (.int .i64 (IntKind.i64.wrap n))= .val (.int .i64 n):=by
 rw [show IntKind.i64.wrap n=n by rw [IntKind.wrap_i64];omega]
theorem a6 (n:Int):AV.val (.int .u64 (IntKind.u64.wrap n))=aw (u64 n):=by rw [zj]
theorem iZ (n:Int):AV.val (.int .u8 (IntKind.u8.wrap n))=ab (u8 n):=by rw [JD]
theorem DD (c:UInt8):AV.val (.int .u64 (IntKind.u64.wrap (bv c)))=aw c.toUInt64:=by
 rw [Qq,show IntKind.u64.wrap (wv c.toUInt64)=wv c.toUInt64 by have:=OQ c.toUInt64;have:=LL c.toUInt64;rw [IntKind.wrap_u64];omega]
theorem iY (x y:UInt64):AV.val (.int .u64 (IntKind.u64.wrap ((BitVec.ofInt IntKind.u64.bits (wv x)&&&BitVec.ofInt IntKind.u64.bits (wv y)).toNat:Nat)))=aw (x&&&y):=congrArg (fun n=>AV.val (.int .u64 n)) (Ms x y)
theorem pw (x y:UInt64):AV.val (.int .u64 (IntKind.u64.wrap ((BitVec.ofInt IntKind.u64.bits (wv x)|||BitVec.ofInt IntKind.u64.bits (wv y)).toNat:Nat)))=aw (x|||y):=congrArg (fun n=>AV.val (.int .u64 n)) (OO x y)
theorem cL (x y:UInt64):AV.val (.int .u64 (IntKind.u64.wrap ((BitVec.ofInt IntKind.u64.bits (wv x)^^^BitVec.ofInt IntKind.u64.bits (wv y)).toNat:Nat)))=aw (x^^^y):=congrArg (fun n=>AV.val (.int .u64 n)) (Mm x y)
theorem LH (x y:UInt8):AV.val (.int .u8 (IntKind.u8.wrap ((BitVec.ofInt IntKind.u8.bits (bv x)&&&BitVec.ofInt IntKind.u8.bits (bv y)).toNat:Nat)))=ab (x&&&y):=congrArg (fun n=>AV.val (.int .u8 n)) (bv_and x y)
theorem ES (x y:UInt8):AV.val (.int .u8 (IntKind.u8.wrap ((BitVec.ofInt IntKind.u8.bits (bv x)^^^BitVec.ofInt IntKind.u8.bits (bv y)).toNat:Nat)))=ab (x^^^y):=congrArg (fun n=>AV.val (.int .u8 n)) (NV x y)
theorem fj (x:UInt64) (n:Int) (h0:0≤n) (h1:n<64):AV.val (.int .u64 ((wv x).fdiv (2^min n.toNat IntKind.u64.bits)))=aw (x>>>UInt64.ofNat n.toNat):=by
 rw [show min n.toNat IntKind.u64.bits=n.toNat from Nat.min_eq_left (by show n.toNat≤64;omega),Int.fdiv_eq_ediv_of_nonneg _ (Int.pow_nonneg (by decide)),Mn x n.toNat ah]
theorem jB (x:UInt64) (n:Int) (h0:0≤n) (h1:n<64):AV.val (.int .u64 (IntKind.u64.wrap (wv x*2^min n.toNat IntKind.u64.bits)))=aw (x<<<UInt64.ofNat n.toNat):=by
 rw [show min n.toNat IntKind.u64.bits=n.toNat from Nat.min_eq_left (by show n.toNat≤64;omega),Mo x n.toNat ah]
theorem NW (x:UInt8) (k:Nat) (hk:k<8):bv x/2^k=bv (x>>>UInt8.ofNat k):=by
 unfold bv
 rw [UInt8.toNat_shiftRight,UInt8.toNat_ofNat_of_lt' (by show k<2^8;omega),Nat.mod_eq_of_lt hk,Nat.shiftRight_eq_div_pow]
 simp [Int.natCast_ediv,Int.natCast_pow]
theorem NY (x:UInt8) (k:Nat) (hk:k<8):IntKind.u8.wrap (bv x*2^k)=bv (x<<<UInt8.ofNat k):=by
 unfold bv
 rw [IntKind.wrap_u8,UInt8.toNat_shiftLeft,UInt8.toNat_ofNat_of_lt' (by show k<2^8;omega),Nat.mod_eq_of_lt hk,Nat.shiftLeft_eq]
 simp [Int.natCast_emod,Int.natCast_mul,Int.natCast_pow]
theorem LF (x:UInt8) (n:Int) (h0:0≤n) (h1:n<8):AV.val (.int .u8 ((bv x).fdiv (2^min n.toNat IntKind.u8.bits)))=ab (x>>>UInt8.ofNat n.toNat):=by
 rw [show min n.toNat IntKind.u8.bits=n.toNat from Nat.min_eq_left (by show n.toNat≤8;omega),Int.fdiv_eq_ediv_of_nonneg _ (Int.pow_nonneg (by decide)),NW x n.toNat ah]
theorem LG (x:UInt8) (n:Int) (h0:0≤n) (h1:n<8):AV.val (.int .u8 (IntKind.u8.wrap (bv x*2^min n.toNat IntKind.u8.bits)))=ab (x<<<UInt8.ofNat n.toNat):=by
 rw [show min n.toNat IntKind.u8.bits=n.toNat from Nat.min_eq_left (by show n.toNat≤8;omega),NY x n.toNat ah]
theorem fo (x y:UInt64):AV.val (.bool (wv x == wv y))=ao (x == y):=by rw [GL]
theorem cJ (x y:UInt64):AV.val (.bool (wv x != wv y))=ao (x != y):=by rw [Mr]
theorem N8 (x y:UInt8):AV.val (.bool (bv x == bv y))=ao (x == y):=by rw [bv_beq]
theorem yY {a b:Int} (h:0≤a) (h1:a≤9223372036854775807) (hb:1≤b):AV.val (.int .i64 (IntKind.i64.wrap (a.tdiv b)))=ai (a/b):=by
 rw [Int.tdiv_eq_ediv_of_nonneg h]
 exact dG (by have:=Int.ediv_nonneg h (by omega:0≤b);omega) (by have:=Int.ediv_le_self b h;omega)
theorem fX (a b:List UInt8):AV.val (.bool ((⟨a.toArray⟩:ByteArray).toList == (⟨b.toArray⟩:ByteArray).toList))=ao (a == b):=by simp
theorem MB (a b:List UInt8):AV.val (.bool (!((⟨a.toArray⟩:ByteArray).toList == (⟨b.toArray⟩:ByteArray).toList)))=ao (a != b):=by
 have:=fX a b
 injection this with this;injection this with this
 rw [this];rfl
theorem ot {l:List UInt8} {k:Nat} (h:k<l.length):(ag l)[k]?=some (ab (l.getD k 0)):=by simp [ag,h]
theorem dI {l:List UInt64} {k:Nat} (h:k<l.length):(aj l)[k]?=some (aw (l.getD k 0)):=by simp [aj,h]
theorem lX {l:List Int} {k:Nat} (h:k<l.length):(ax l)[k]?=some (ai (l.getD k 0)):=by simp [ax,h]
theorem cZ (a b:List UInt8):ag a++ag b=ag (a++b):=by simp [ag]
theorem je (a b:List UInt64):aj a++aj b=aj (a++b):=by simp [aj]
theorem FD (a b:List Int):ax a++ax b=ax (a++b):=by simp [ax]
theorem kt (a:List UInt64) (k:Nat) (c:UInt64):(aj a).set k (aw c)=aj (a.set k c):=by simp [aj,List.map_set]
theorem FC (a:List Int) (k:Nat) (c:Int):(ax a).set k (ai c)=ax (a.set k c):=by simp [ax,List.map_set]
theorem sn (a:List UInt8) (k:Nat):(ag a).take k=ag (a.take k):=by simp [ag,List.map_take]
theorem sq (a:List UInt8) (k:Nat):(ag a).drop k=ag (a.drop k):=by simp [ag,List.map_drop]
theorem tx (n:Nat):List.replicate n (AV.val (.int .u64 0))=aj (List.replicate n 0):=by simp [aj,wv]
theorem rG {n:Int} (h1:0≤n) (h2:n<18446744073709551616):AV.val (.int .u64 (IntKind.u64.wrap n))= .val (.int .u64 n):=by
 rw [show IntKind.u64.wrap n=n by rw [IntKind.wrap_u64];omega]
def af {T:Type} (f:T->List AV) (l:List T):List AV:=l.flatMap f
section
variable {T:Type} {f:T->List AV} {e:Nat}
theorem gH (x:T) (l:List T):af f (x::l)=f x++af f l:=rfl
theorem fB (a b:List T):af f a++af f b=af f (a++b):=by simp [af]
theorem Jj (x:T):af f [x]=f x:=by simp [af]
theorem aF (he:∀x,(f x).length=e) (l:List T):(af f l).length=l.length*e:=by
 induction l with
 | nil=>simp [af]
 | cons x l ih=>rw [gH,List.length_append,ih,he,List.length_cons,Nat.succ_mul];omega
theorem oi (he:∀x,(f x).length=e) (l:List T) (k:Nat):(af f l).drop (k*e)=af f (l.drop k):=by
 induction k generalizing l with
 | zero=>simp
 | succ k ih =>
  cases l with
  | nil=>simp [af]
  | cons x l =>
   rw [gH,List.drop_succ_cons,←ih l,Nat.succ_mul,Nat.add_comm,←List.drop_drop,List.drop_append_of_le_length (by rw [he];omega),show List.drop e (f x)= [] from List.drop_eq_nil_of_le (by rw [he];omega),List.nil_append]
theorem oh (he:∀x,(f x).length=e) (l:List T) (k:Nat):(af f l).take (k*e)=af f (l.take k):=by
 induction k generalizing l with
 | zero=>simp [af]
 | succ k ih =>
  cases l with
  | nil=>simp [af]
  | cons x l =>
   rw [gH,List.take_succ_cons,gH,←ih l,Nat.succ_mul,Nat.add_comm,List.take_append,he,show e+k*e-e=k*e by omega,List.take_of_length_le (by rw [he];omega)]
theorem jn [Inhabited T] (he:∀x,(f x).length=e) {l:List T} {k:Nat} (hk:k<l.length):((af f l).drop (k*e)).take e=f (l.getD k default):=by
 rw [oi he,List.drop_eq_getElem_cons hk,gH,List.take_append_of_le_length (by rw [he];omega),List.take_of_length_le (by rw [he];omega)]
 simp [hk]
theorem om [Inhabited T] (he:∀x,(f x).length=e) {l:List T} {k j:Nat} {c:AV} (hk:k<l.length) (hj:(f (l.getD k default))[j]?=some c):(af f l)[k*e+j]?=some c:=by
 have h1:j<e:=by
  have:=(List.getElem?_eq_some_iff.1 hj).1
  rw [he] at this;exact this
 rw [←jn he hk,List.getElem?_take_of_lt h1,List.getElem?_drop] at hj
 exact hj
theorem Ji [Inhabited T] (he:∀x,(f x).length=e) {l:List T} {k j z:Nat} {cs:List AV} (hk:k<l.length) (hz:j+z≤e) (hj:((f (l.getD k default)).drop j).take z=cs):((af f l).drop (k*e+j)).take z=cs:=by
 rw [←hj,←jn he hk,List.drop_take,List.take_take,Nat.min_eq_left ah,List.drop_drop]
theorem dD (hf:∀x,cE (f x)) (l:List T):cE (af f l):=by
 intro x hx
 simp only [af,List.mem_flatMap] at hx
 obtain ⟨y,_,h⟩:=hx
 exact hf y x h
end
theorem bK.len {P:Program} {f:FuncId} {args:List AV} {r:AV} (i:Nat) {e:Nat} {row:List AV} (hi:args[i]?=some (.sl e row)) (h:row.length≤e*9223372036854775807->bK P f args r):bK P f args r:=by
 intro w S vs jZ hS hl hr
 have dh:i<vs.length:=by rw [hl];exact (List.getElem?_eq_some_iff.1 hi).1
 have bZ:=hr i vs[i] _ (List.getElem?_eq_getElem dh) hi
 refine h ?_ w S vs jZ hS hl hr
 generalize vs[i]=v at bZ
 cases bZ with
 | sl A n c e us row hl hn hc hm ha h =>
  rw [hn]
  refine Nat.mul_le_mul_left e ?_
  simp only [maxLen] at hm
  omega
theorem tX {α:Type} (g:Nat->α) (j:Nat):(List.range j).map g++ [g j]=(List.range (j+1)).map g:=by rw [List.range_succ,List.map_append];rfl
theorem fV {T:Type} {f:T->List AV} (l:List T) (x:T):af f l++f x=af f (l++ [x]):=by rw [←fB,Jj]
theorem Ge {T:Type} {f:T->List AV} (g:Nat->T) (j:Nat):af f ((List.range j).map g)++f (g j)=af f ((List.range (j+1)).map g):=by rw [fV,tX]
end Go.Proofs.YtjgbhhnghedgdaaGreatDoor
namespace Go.Proofs.YtjgbhhnghedgdaaGreatDoor
open Go.RowKit Go.ChangeShapes Go.WideShapes Go.ChangeAt
def fU (P:Program) (t:TypeId) {T:Type} (f:T->List AV) (ok:T->Prop):Prop :=
 ∀(H:Type) (enc:TypeId×Value->H) (w:World) (fuel:Nat) (cs:List Value) (x:DataW H×List MemPlace),DataW.trod enc P w 0 (fun _=>true) true fuel t cs=some x ->
  ∃a,ok a∧(f a).length=cs.length∧ ∀(j:Nat) u y,cs[j]?=some u->(f a)[j]?=some y->cz (fun b=>b<w.heap.size) w u y
def JP (P:Program) (t:TypeId) {T:Type} (g:T->AV) (ok:T->Prop):Prop :=
 ∀(H:Type) (enc:TypeId×Value->H) (w:World) (base:Nat) (v:Value) (d:DataW H) (ps:List MemPlace),Value.okWide P w .any base t v->DataW.Trod enc P w 0 (fun _=>true) true t v d ps ->
  ∃a,ok a∧cz (fun b=>b<w.heap.size) w v (g a)
section
variable {P:Program} {t:TypeId} {T T':Type} {f:T->List AV} {ok:T->Prop}
theorem fU.map (h:fU P t f ok) (g:T->T') {f':T'->List AV} {ok':T'->Prop} (hf:∀a,ok a->f' (g a)=f a) (ho:∀a,ok a->ok' (g a)):fU P t f' ok':=by
 intro H enc w fuel cs x hx
 obtain ⟨a,h1,h2,h3⟩:=h H enc w fuel cs x hx
 exact ⟨g a,ho a h1,by rw [hf a h1];exact h2,by rw [hf a h1];exact h3⟩
theorem jh {S:Nat->Prop} {w:World} {v:Value} {x:AV} (h:cz S w v x) (j:Nat) (u:Value) (y:AV) (hu:[v][j]?=some u) (hy:[x][j]?=some y):cz S w u y:=by
 cases j with
 | zero=>simp at hu hy;subst hu hy;exact h
 | succ j=>simp at hu
theorem iy (ht:P.underlying t=some (.int .u64)):fU P t (fun c:UInt64=>[aw c]) (fun _=>True):=by
 intro H enc w fuel cs x hx
 obtain ⟨n,rfl,_,hw⟩:=DataW.trod_int ht hx
 obtain ⟨c,rfl⟩:=Kb n hw
 exact ⟨c,trivial,rfl,jh (.val _)⟩
theorem Fl (ht:P.underlying t=some (.int .u8)):fU P t (fun c:UInt8=>[ab c]) (fun _=>True):=by
 intro H enc w fuel cs x hx
 obtain ⟨n,rfl,_,hw⟩:=DataW.trod_int ht hx
 obtain ⟨c,rfl⟩:=LA n hw
 exact ⟨c,trivial,rfl,jh (.val _)⟩
abbrev Ep (n:Int):Prop:= -9223372036854775808≤n∧n≤9223372036854775807
theorem kF (ht:P.underlying t=some (.int .i64)):fU P t (fun c:Int=>[ai c]) Ep:=by
 intro H enc w fuel cs x hx
 obtain ⟨n,rfl,_,hw⟩:=DataW.trod_int ht hx
 refine ⟨n,?_,rfl,jh (.val _)⟩
 simpa [Lit.wf,IntKind.min,IntKind.max,IntKind.signed,IntKind.bits] using hw
theorem np (ht:P.underlying t=some .string):fU P t (fun s:List UInt8=>[db s]) (fun s=>s.length≤9223372036854775807):=by
 intro H enc w fuel cs x hx
 obtain ⟨s,rfl,_,hs⟩:=DataW.trod_string ht hx
 refine ⟨s.data.toList,?_,rfl,jh ?_⟩
 ·show s.data.toList.length≤_;rw [Array.length_toList];exact hs
 ·show cz _ _ _ (.val (.string ⟨s.data.toList.toArray⟩));rw [show (⟨s.data.toList.toArray⟩:ByteArray)=s by simp];exact .val _
theorem HP {α β:Type} {g:α->Option β}:∀ {l:List α} {m:List β},l.mapM g=some m->m.length=l.length∧ ∀(i:Nat) (a:α),l[i]?=some a->g a=m[i]?:=by
 intro l
 induction l with
 | nil=>intro m h;simp at h;subst h;simp
 | cons a l ih =>
  intro m h
  simp only [List.mapM_cons,Option.bind_eq_bind,Option.bind_eq_some_iff,Option.pure_def,Option.some.injEq] at h
  obtain ⟨b,hb,m',hm,rfl⟩:=h
  obtain ⟨h1,h2⟩:=ih hm
  refine ⟨by simp [h1],fun i x hx=>?_⟩
  cases i with
  | zero=>simp at hx;subst hx;simpa using hb
  | succ i=>simpa using h2 i x (by simpa using hx)
theorem JC {w:World} {ad:Addr} {n:Nat} {cs:List Value} (h:w.cells? 0 ad n=some cs):cs.length=n∧ ∀j,j<n->w.cell? (ad.add j)=cs[j]?:=by
 simp only [World.cells?,Nat.zero_le,if_true] at h
 obtain ⟨h1,h2⟩:=HP h
 exact ⟨by simpa using h1,fun j hj=>h2 j j (by simp [hj])⟩
theorem Dj {H:Type} {enc:TypeId×Value->H} {w:World} {fuel e:Nat} (hC:fU P t f ok) (ad:Addr):∀(n:Nat) (elems:List (DataW H×List MemPlace)),n≤elems.length ->
  (∀i,i<n->(w.cells? 0 (ad.add (i*e)) e).bind (DataW.trod enc P w 0 (fun _=>true) true fuel t)=elems[i]?) ->
  ∃(l:List T) (us:List Value),l.length=n∧(∀a∈l,ok a)∧us.length=n*e∧(af f l).length=n*e∧(∀(j:Nat) u,us[j]?=some u->w.cell? (ad.add j)=some u)∧ ∀(j:Nat) u y,us[j]?=some u->(af f l)[j]?=some y->cz (fun b=>b<w.heap.size) w u y:=by
 intro n
 induction n with
 | zero=>intro elems _ _;exact ⟨[],[],rfl,by simp,by simp,by simp [af],by simp,by simp⟩
 | succ n ih =>
  intro elems hn Nh
  obtain ⟨l,us,h1,h2,h3,h4,h5,h6⟩:=ih elems ah (fun i hi=>Nh i ah)
  have hx:=Nh n ah
  rw [List.getElem?_eq_getElem ah] at hx
  rw [Option.bind_eq_some_iff] at hx
  obtain ⟨cs,wM,Uv⟩:=hx
  obtain ⟨gl,Vd⟩:=JC wM
  obtain ⟨a,ha,sH,gw⟩:=hC H enc w fuel cs _ Uv
  refine ⟨l++ [a],us++cs,by simp [h1],?_,?_,?_,?_,?_⟩
  ·intro b hb
   rcases List.mem_append.1 hb with hb|hb
   ·exact h2 b hb
   ·simp at hb;subst hb;exact ha
  ·rw [List.length_append,h3,gl,Nat.add_mul];omega
  ·rw [←fV,List.length_append,h4,sH,gl,Nat.add_mul];omega
  ·intro j u hu
   by_cases hj:j<us.length
   ·rw [List.getElem?_append_left hj] at hu;exact h5 j u hu
   ·rw [List.getElem?_append_right ah] at hu
    have dh:j-us.length<e:=by
     have:=(List.getElem?_eq_some_iff.1 hu).1;omega
    have:=Vd (j-us.length) dh
    rw [hu,Addr.add_add] at this
    rw [←this];congr 2;omega
  ·intro j u y hu hy
   rw [←fV] at hy
   by_cases hj:j<us.length
   ·rw [List.getElem?_append_left hj] at hu
    rw [List.getElem?_append_left ah] at hy
    exact h6 j u y hu hy
   ·rw [List.getElem?_append_right ah] at hu
    rw [List.getElem?_append_right ah,h4,←h3] at hy
    exact gw _ u y hu hy
theorem kE {te:TypeId} {e:Nat} (ht:P.underlying t=some (.slice te)) (he:P.cellsOf te=e) (hC:fU P te f ok):fU P t (fun l:List T=>[.sl e (af f l)]) (fun l=>∀a∈l,ok a):=by
 intro H enc w fuel cs x hx
 rcases DataW.trod_slice ht hx with ⟨rfl,_⟩|⟨a,len,cap,elems,rest,n,_,rfl,Ol,_,FJ,s7,Nh,gh,_,_⟩
 ·exact ⟨[],by simp,rfl,jh (iN none 0 0 e (by simp) (Nat.le_refl _) (by simp))⟩
 ·rw [he] at gh
  obtain ⟨l,us,h1,h2,h3,h4,h5,h6⟩:=Dj hC a len elems ah gh
  refine ⟨l,h2,rfl,jh (.sl _ _ _ _ us _ (h3.trans h4.symm) (by rw [h4,Nat.mul_comm]) FJ s7 (fun h0=>⟨a,rfl,?_,h5⟩) h6)⟩
  have hu:0<us.length:=ah
  have:=h5 0 us[0] (List.getElem?_eq_getElem hu)
  have hb:w.heap[(a.add 0).block]?≠none:=by
   intro hn
   rw [World.cell?,hn] at this
   cases this
  rw [gJ] at hb
  exact Nat.lt_of_not_le fun hle=>hb (Array.getElem?_eq_none hle)
def EX (P:Program) (fs:List Field) (o:Nat) {T:Type} (f:T->List AV) (ok:T->Prop):Prop :=
 ∀(H:Type) (enc:TypeId×Value->H) (w:World) (fuel:Nat) (cs:List Value) (xs:List (DataW H×List MemPlace)),(∀(i:Nat) (fd:Field),fs[i]?=some fd->DataW.trod enc P w 0 (fun _=>true) true fuel fd.type ((cs.drop fd.offset).take (P.cellsOf fd.type))=xs[i]?)->xs.length=fs.length ->
  ∃a,ok a∧ ∀(j:Nat) u y,cs[o+j]?=some u->(f a)[j]?=some y->cz (fun b=>b<w.heap.size) w u y
theorem nq (o:Nat):EX P [] o (fun _:Unit=>[]) (fun _=>True):=by
 intro H enc w fuel cs xs _ _;exact ⟨(),trivial,by simp⟩
theorem bF {fd:Field} {fs:List Field} {o e:Nat} {T2:Type} {f2:T2->List AV} {Tc:T2->Prop} (hC:fU P fd.type f ok) (ho:fd.offset=o) (he:P.cellsOf fd.type=e) (hf:∀a,(f a).length=e) (hF:EX P fs (o+e) f2 Tc) :
  EX P (fd::fs) o (fun p:T×T2=>f p.1++f2 p.2) (fun p=>ok p.1∧Tc p.2):=by
 intro H enc w fuel cs xs hx hl
 cases xs with
 | nil=>simp at hl
 | cons x xs =>
  obtain ⟨a,ha,sH,gw⟩:=hC H enc w fuel _ x (hx 0 fd rfl)
  obtain ⟨b,hb,Ve⟩:=hF H enc w fuel cs xs (fun i g hg=>hx (i+1) g hg) (by simpa using hl)
  refine ⟨(a,b),⟨ha,hb⟩,fun j u y hu hy=>?_⟩
  by_cases hj:j<e
  ·rw [List.getElem?_append_left (by rw [hf];exact hj)] at hy
   refine gw j u y ?_ hy
   rw [List.getElem?_take_of_lt ah,List.getElem?_drop,ho];exact hu
  ·rw [List.getElem?_append_right (by rw [hf];omega),hf] at hy
   exact Ve (j-e) u y (by rw [←hu];congr 1;omega) hy
theorem jH {fs:Array Field} {fl:List Field} {e:Nat} (ht:P.underlying t=some (.struct fs)) (sH:fs.toList=fl) (he:P.cellsOf t=e) (hf:∀a,(f a).length=e) (hF:EX P fl 0 f ok):fU P t f ok:=by
 intro H enc w fuel cs x hx
 obtain ⟨xs,n,_,_,gl,Er,gh⟩:=DataW.trod_struct ht hx
 subst sH
 obtain ⟨a,ha,Vi⟩:=hF H enc w n cs xs (fun i g hg=>gh i g (by simpa using hg)) (by simpa using Er)
 exact ⟨a,ha,by rw [hf,gl,he],fun j u y hu hy=>Vi j u y (by rw [Nat.zero_add];exact hu) hy⟩
def O8 (P:Program) (t:TypeId):Bool:=match P.underlying t with|some (.int _)|some .string|some .bool|some (.slice _)=>true|_=>false
theorem fU.one {g:T->AV} (h:fU P t (fun a=>[g a]) ok) (ht:O8 P t=true):JP P t g ok:=by
 intro H enc w base v d ps hv hd
 obtain ⟨fuel,hd⟩:=hd
 have hc:v.cells= #[v]:=by
  simp only [O8] at ht
  split at ht
  ·rename_i hu;obtain ⟨n,rfl⟩:=okWide_int hu hv;rfl
  ·rename_i hu
   simp only [Value.okWide,hu,Cell.okWide] at hv
   cases v<;>simp_all [Cell.ok]
   rfl
  ·rename_i hu
   simp only [Value.okWide,hu,Cell.okWide] at hv
   cases v<;>simp_all [Cell.ok]
   rfl
  ·rename_i hu;obtain ⟨_,_,_,rfl⟩:=okWide_slice hu hv;rfl
  ·cases ht
 rw [hc] at hd
 obtain ⟨a,h1,h2,h3⟩:=h H enc w fuel _ _ hd
 exact ⟨a,h1,h3 0 _ _ rfl rfl⟩
theorem fU.whole {fs:Array Field} (h:fU P t f ok) (ht:P.underlying t=some (.struct fs)):JP P t (fun a=>.agg (f a)) ok:=by
 intro H enc w base v d ps hv hd
 obtain ⟨fuel,hd⟩:=hd
 simp only [Value.okWide,ht] at hv
 obtain ⟨cs,rfl,_,_⟩:=hv
 obtain ⟨a,h1,h2,h3⟩:=h H enc w fuel _ _ hd
 refine ⟨a,h1,?_⟩
 have:=cz.agg (S:=fun b=>b<w.heap.size) (w:=w) cs.toList (f a) (by simpa [Value.cells] using h2.symm) (by simpa [Value.cells] using h3)
 simpa using this
theorem Di (l:List UInt8):af (fun c:UInt8=>[ab c]) l=ag l:=by
 induction l with
 | nil=>rfl
 | cons c l ih=>rw [gH,ih];rfl
theorem Dh (l:List UInt64):af (fun c:UInt64=>[aw c]) l=aj l:=by
 induction l with
 | nil=>rfl
 | cons c l ih=>rw [gH,ih];rfl
theorem Gh (l:List Int):af (fun c:Int=>[ai c]) l=ax l:=by
 induction l with
 | nil=>rfl
 | cons c l ih=>rw [gH,ih];rfl
theorem B6 {te:TypeId} (ht:P.underlying t=some (.slice te)) (he:P.underlying te=some (.int .u8)) (hc:P.cellsOf te=1):fU P t (fun l:List UInt8=>[.sl 1 (ag l)]) (fun _=>True) :=
 (kE ht hc (Fl he)).map id (fun l _=>by rw [Di];rfl) (fun _ _=>trivial)
theorem B5 {te:TypeId} (ht:P.underlying t=some (.slice te)) (he:P.underlying te=some (.int .u64)) (hc:P.cellsOf te=1):fU P t (fun l:List UInt64=>[.sl 1 (aj l)]) (fun _=>True) :=
 (kE ht hc (iy he)).map id (fun l _=>by rw [Dh];rfl) (fun _ _=>trivial)
theorem Fk {te:TypeId} (ht:P.underlying t=some (.slice te)) (he:P.underlying te=some (.int .i64)) (hc:P.cellsOf te=1):fU P t (fun l:List Int=>[.sl 1 (ax l)]) (fun l=>∀n∈l,Ep n) :=
 (kE ht hc (kF he)).map id (fun l _=>by rw [Gh];rfl) (fun _ h=>h)
end
theorem bK.law {P:Program} {f:FuncId} {args:List AV} (h:bK P f args (ao true)) (w:World) (jZ:Good w) (vs:List Value) (hl:vs.length=args.length) (hr:∀(j:Nat) v x,vs[j]?=some v->args[j]?=some x->cz (fun b=>b<w.heap.size) w v x) :
  Calls P f vs.toArray w fun e w'=>e= .returned (.bool true)∧Below w.heap.size w w':=by
 refine (h w (fun b=>b<w.heap.size) vs jZ (fun _ h=>h) hl hr).mono fun e w' ⟨v,O,he,hb,_,_,hg⟩=>⟨?_,hb⟩
 subst he
 rcases hg with hg|⟨_,_,_,hx,_⟩
 ·rcases hg with hg|⟨_,_,_,hx,_⟩
  ·cases hg with
   | rep bZ=>cases bZ;rfl
  ·cases hx
 ·cases hx
theorem Kv (S:Nat->Prop) (w:World) (j:Nat) (v:Value) (x:AV) (h:([]:List Value)[j]?=some v) (_:([]:List AV)[j]?=some x):cz S w v x:=by simp at h
theorem z8 {S:Nat->Prop} {w:World} {v:Value} {x:AV} {vs:List Value} {xs:List AV} (h:cz S w v x) (h2:∀(j:Nat) v x,vs[j]?=some v->xs[j]?=some x->cz S w v x) (j:Nat) (u:Value) (y:AV) (hu:(v::vs)[j]?=some u) (hy:(x::xs)[j]?=some y):cz S w u y:=by
 cases j with
 | zero=>simp at hu hy;subst hu hy;exact h
 | succ j=>exact h2 j u y (by simpa using hu) (by simpa using hy)
theorem Below.GZ {H:Type} {enc:TypeId×Value->H} {P:Program} (hl:laidOutB P=true) {W W':World} (hb:Below W.heap.size W W'):∀(ts:List TypeId) (vs:List Value) (ds:List (DataW H)) (ps:List MemPlace),(ts.all fun t=>P.readableRec t && decide (t<P.types.size))=true ->
  DataW.TrodAll enc P W 0 (fun _=>true) true ts vs ds ps->DataW.TrodAll enc P W' 0 (fun b=>decide (b<W.heap.size)) true ts vs ds ps:=by
 intro ts
 induction ts with
 | nil=>intro vs ds ps _ h;cases vs<;>cases ds<;>simp_all [DataW.TrodAll]
 | cons t ts ih =>
  intro vs ds ps hr h
  rw [List.all_cons,Bool.and_eq_true,Bool.and_eq_true] at hr
  obtain ⟨v,VY,d,Wv,p,q,rfl,rfl,rfl,h1,h2⟩:=trodAll_cons h
  have lt:∀x∈p,x.block<W.heap.size:=by obtain ⟨m,hm⟩:=h1;exact DataW.trod_lt m _ _ _ hm
  exact ⟨p,q,Below.trod hl hr.1.1 (of_decide_eq_true hr.1.2) h1 hb lt,ih _ _ _ hr.2 h2,rfl⟩
end Go.Proofs.YtjgbhhnghedgdaaGreatDoor
