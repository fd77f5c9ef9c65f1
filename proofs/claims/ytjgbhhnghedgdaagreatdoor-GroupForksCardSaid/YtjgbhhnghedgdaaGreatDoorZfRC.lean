import Derived.Test.YtjgbhhnghedgdaaGreatDoorZfRL
import Derived.Orders
import Derived.Tactics
import Derived.WalkKit
import Derived.ProofKit
import Derived.OpenShut
import Derived.ShutString
import Derived.ChangeOld
import Derived.Below
import Derived.RangeFuncRecord
set_option linter.all false
namespace Go.Proofs.YtjgbhhnghedgdaaGreatDoor
open Go.RowKit
def Ea (P:Program) (n:Nat) (s:AS) (d:Option Nat) (src dst id:Nat):Option (AS×List Prop) :=
 match look s.H id,P.underlying src with
 | some ⟨e,true,_,cells⟩,some (.slice el)=>(match P.underlying el,Nat.beq src dst with
  | some (.int .u8),true=>(match gF n (bX id s) d (.sl e cells) with|some s'=>some (s',[0<cells.length])|none=>none)
  | _,_=>none)
 | _,_=>none
section
variable {P:Program} {n:Nat} {s:AS} {o:Oper} {h:Hint} {q:AS×List Prop}
theorem zZ {w:World} {g:Nat} {cur:Array Value} {te:TypeId} {fr:Nat×Nat} (hg:w.heap[g]?=some (.cells cur te fr)) (k:Nat):(∃Sz,(w.freeze ⟨g,k,none⟩ 1).heap[g]?=some (.cells cur te Sz))∧(w.freeze ⟨g,k,none⟩ 1).heap.size=w.heap.size∧(∀b,b≠g->(w.freeze ⟨g,k,none⟩ 1).heap[b]?=w.heap[b]?)∧(w.freeze ⟨g,k,none⟩ 1).os=w.os∧(w.freeze ⟨g,k,none⟩ 1).tape=w.tape∧(w.freeze ⟨g,k,none⟩ 1).output=w.output:=by
 unfold World.freeze
 rw [if_neg (by decide)]
 obtain ⟨lo,hi⟩:=fr
 refine ⟨⟨if lo == hi then (k,k+1) else (min lo k,max hi (k+1)),?_⟩,by simp,fun b hb=>?_,rfl,rfl,rfl⟩
 ·simp only [Array.getElem?_modify,if_true,hg,Option.map_some]
 ·simp only [Array.getElem?_modify]
  rw [if_neg (fun e=>hb e.symm)]
theorem run_mark {w:World} {t e:TypeId} {g l c:Nat} {cur:Array Value} {te:TypeId} {fr:Nat×Nat} (ht:P.underlying t=some (.slice e)) (he:P.underlying e=some (.int .u8)) (hg:w.heap[g]?=some (.cells cur te fr)) :
  (convert t t (.slice (some ⟨g,0,none⟩) l c)).run P w= .ok (.slice (some ⟨g,0,none⟩) l c) (w.freeze ⟨g,cur.size,none⟩ 1):=by
 have DO:w.shape? g=some (te,cur.size):=by unfold World.shape?;rw [hg]
 simp [convert,run_underlying ht,run_underlying he,markStringish,DO]
theorem Hr {src dst id:Nat} {x:Operand} (ho:o.op= .convert src dst x) (hx:bq s x= .ref id) (hr:Ea P n s o.dst src dst id=some q):mF P n s o q.1 q.2:=by
 intro hC S0 w0 a w Q ⟨φ,hs⟩
 unfold Ea at hr
 split at hr
 ·rename_i e f cells el lX hu
  split at hr
  ·rename_i he hb
   split at hr
   ·rename_i s' eF
    injection hr with hr;subst hr
    have Wa:=Nat.eq_of_beq_eq_true hb
    subst Wa
    have OK:0<cells.length:=hC.1
    have dx:=hs.bq x
    rw [hx] at dx
    generalize hv:a.eval x=v at dx
    cases dx with
    | rep bV=>cases bV
    | cB _ e' hi =>
     have oc:=br (φ:=φ) lX
     rw [hi] at oc
     simp at oc
     omega
    | ref _ e' m g l c hi hm hc HU bT =>
     have oc:=br (φ:=φ) lX
     rw [hi] at oc
     simp at oc
     obtain ⟨h1,h2,h3⟩:=oc
     subst h1 h2
     have bY:φ id=some g:=h3.symm
     have aS:=hs.rows id _ lX
     unfold bK at aS
     rw [bY] at aS
     obtain ⟨cur,te,fr,hg,hf,hle,-,bt⟩:=aS
     obtain ⟨⟨Sz,k1⟩,k2,k3,k4,k5,k6⟩:=zZ hg cur.size
     have bZ:(execOp a.eval o).run P w= .ok (.value (.slice (some ⟨g,0,none⟩) l c)) (w.freeze ⟨g,cur.size,none⟩ 1):=by
      unfold execOp;simp only [ho,hv,Sem.run_bind,run_mark hu he hg,Result.andThen_ok];rfl
     refine cS bZ ⟨erase φ id,?_⟩
     have r1:=hs.jJ id [g] (by rw [bY])
     have r2:=r1.xw (w':=w.freeze ⟨g,cur.size,none⟩ 1) (fun g' jm=>by simp at jm;rw [jm];exact (hs.cW id g bY).1.2) k4 k5 k6 ag (fun b _ hn=>k3 b (by simpa using hn))
     have r3:=r2.vY
     refine d_ r3 (.rep ?_) eF
     have vN:aO S0 (w.freeze ⟨g,cur.size,none⟩ 1) (erase φ id) [] g:=⟨by rw [k2];exact (hs.cW id g bY).2,by simp,fun i hi=>by
      unfold erase at hi
      split at hi
      ·cases hi
      ·rename_i cU;exact cU (hs.inj i id g hi bY),hs.new g (hs.cW id g bY).1.2⟩
     refine fv (r:=⟨e',true,f,cells⟩) k1 vN cells 0 (by simpa using hle) hm hc HU _ (fun _=>rfl) (fun j u y hu hy=>?_)
     have Vk:=bt j u y (by simpa using hu) hy
     unfold bg at Vk
     refine cz.mono (fun b hb=>?_) Vk
     have cU:b≠g:=fun e=>hb.2.2.1 id (by rw [bY,e])
     refine ⟨⟨by rw [k2];exact hb.1,by simp,fun i hi=>?_,hb.2.2.2⟩,k3 b cU⟩
     unfold erase at hi
     split at hi
     ·cases hi
     ·exact hb.2.2.1 i hi
   ·cases hr
  ·cases hr
 ·cases hr
end
def Cw (P:Program) (n:Nat) (s:AS) (o:Oper) (h:Hint):Option (AS×List Prop) :=
 match qV P s o h with
 | some (x,C)=>(match gF n s o.dst x with|some s'=>some (s',C)|none=>none)
 | none=>none
def Cx (P:Program) (n:Nat) (s:AS) (o:Oper) (h:Hint):Option (AS×List Prop) :=
 match o.op with
 | .alloc t=>(match o.dst with|some d=>oS P n s d t h|none=>none)
 | .box t x=>(match o.dst with|some d=>Kz P n s d t (bq s x)|none=>none)
 | .buildSlice t len parts=>(match o.dst with|some d=>wj P n s d t len parts.toList h|none=>none)
 | .makeSlice t l c=>(match bq s l,bq s c,o.dst with| .val (.int _ L),.val (.int _ C),some d=>Eb P n s d t L C h|_,_,_=>none)
 | .convert src dst x=>(match bq s x,P.underlying dst,o.dst with
  | .val (.string b),some (.slice _),some d=>Am P n s d src dst b
  | .ref id,some (.slice _),_=>Ea P n s o.dst src dst id
  | _,_,_=>Cw P n s o h)
 | .store t x y=>(match o.dst with|none=>z8 P s t x y h|some _=>none)
 | .call ⟨.builtin .append,⟨[x,y]⟩,⟨[t,xt]⟩⟩=>(match o.dst with|some d=>lj P n s d t xt (bq s x) (bq s y) h|none=>none)
 | .call ⟨.builtin .copy,⟨[x,y]⟩,⟨[t,xt]⟩⟩=>En P n s o.dst t xt (bq s x) (bq s y) h
 | .call ⟨.builtin _,_,_⟩=>Cw P n s o h
 | .call ⟨c,xs,_⟩=>(match h.ln with| []=>(match callee s c with|some _=>sD P n s o.dst c xs.toList h|none=>Al P n s o.dst c xs.toList h)|_=>oR P n s o.dst c xs.toList h)
 | .makeFunc (.func f) ⟨[]⟩ ⟨xs⟩=>(match o.dst with|some d=>Ee n s d f xs|none=>none)
 | _=>Cw P n s o h
section
variable {P:Program} {n:Nat} {s:AS} {o:Oper} {h:Hint} {q:AS×List Prop}
theorem wi (hr:Cw P n s o h=some q):mF P n s o q.1 q.2:=by
 unfold Cw at hr
 split at hr
 ·rename_i x C hp
  split at hr
  ·rename_i s' bT
   cases hr
   exact IY (lh hp) bT
  ·cases hr
 ·cases hr
theorem oQ (hr:Cx P n s o h=some q):mF P n s o q.1 q.2:=by
 unfold Cx at hr
 split at hr
 ·rename_i ho
  split at hr
  ·rename_i hd;exact wx ho hd hr
  ·cases hr
 ·rename_i ho
  split at hr
  ·rename_i hd;exact Ky ho hd hr
  ·cases hr
 ·rename_i ho
  split at hr
  ·rename_i hd;exact Cy ho hd hr
  ·cases hr
 ·rename_i ho
  split at hr
  ·rename_i hl hc hd;exact Hs ho hl hc hd hr
  ·cases hr
 ·rename_i ho
  split at hr
  ·rename_i hx _ hd;exact Er ho hx hd hr
  ·rename_i hx _;exact Hr ho hx hr
  ·exact wi hr
 ·rename_i ho
  split at hr
  ·rename_i hd;exact D8 ho hd hr
  ·cases hr
 ·rename_i ho
  split at hr
  ·rename_i hd;exact tt ho hd hr
  ·cases hr
 ·rename_i ho;exact Hx ho hr
 ·exact wi hr
 ·rename_i ho
  split at hr
  ·split at hr
   ·exact yj ho hr
   ·exact Ep ho hr
  ·exact wu ho hr
 ·rename_i ho
  split at hr
  ·rename_i hd;exact Hv ho hd hr
  ·cases hr
 ·exact wi hr
end
def Ur (P:Program) (n:Nat) (ops:List Oper) (s:AS) (o:Oper) (h:Hint):Option (AS×List Prop) :=
 match o.guard with
 | none=>Cx P n s o h
 | some (j,want)=>(match ops[j]? with
  | some p=>(match p.dst with
   | some d=>(match j9 s d with
    | .val (.bool b)=>(match h.g == want with
     | true=>(match Cx P n s o h with|some (s',C)=>some (s',(b=h.g)::C)|none=>none)
     | false=>(match gF n s o.dst (.val (.tuple #[])) with|some s'=>some (s',[b=h.g])|none=>none))
    | .val (.tuple _)=>(match gF n s o.dst (.val (.tuple #[])) with|some s'=>some (s',[])|none=>none)
    | _=>none)
   | none=>none)
  | none=>none)
def gQ (hs:List (Nat×Hint)) (i:Nat):Hint:=match look hs i with|some h=>h|none=>{}
def kn (P:Program) (n:Nat) (ops:List Oper) (hs:List (Nat×Hint)):List Oper->Nat->AS->Option (AS×List Prop)
 | [],_,s=>some (s,[])
 | o::l,i,s=>match Ur P n ops s o (gQ hs i) with
  | some (s1,C)=>(match kn P n ops hs l (i+1) s1 with|some (s2,D)=>some (s2,C++D)|none=>none)
  | none=>none
section
variable {P:Program} {n:Nat} {ops:List Oper} {S0:bo} {w0:World} {Q:Exit->Act->World->Prop}
theorem q9 {I:Info} {S:Nat->Prop} {w:World} {a:Act} {d:Nat} {b:Bool} (h:Den I S w (a.tmps.getD d undef) (.val (.bool b))):a.tmps[d]?=some (.bool b):=by
 have h':=bF h
 cases ht:a.tmps[d]? with
 | none=>simp [ht,undef] at h'
 | some u=>simp [ht] at h';rw [h']
theorem mH {a:Act} {j d:Nat} {p:Oper} {b:Bool} (hp:ops[j]?=some p) (hd:p.dst=some d) (ht:a.tmps[d]?=some (.bool b)):yielded ops.toArray a.tmps j=some b:=by
 unfold yielded
 simp [hp,hd,ht]
theorem mG {a:Act} {j d:Nat} {p:Oper} {arr:Array Value} (hp:ops[j]?=some p) (hd:p.dst=some d) (ht:a.tmps.getD d undef= .tuple arr):yielded ops.toArray a.tmps j=none:=by
 unfold yielded
 simp only [List.getElem?_toArray,hp,Option.bind_some,hd]
 rw [Array.getD_eq_getD_getElem?] at ht
 cases h:a.tmps[d]? with
 | none=>rfl
 | some u=>rw [h] at ht;simp at ht;rw [ht]
theorem Kx {s:AS} {o:Oper} {h:Hint} {q:AS×List Prop} (hr:Ur P n ops s o h=some q) (hC:bw q.2) {a:Act} {w:World} (hs:iI S0 w0 n s a w) (K:Act->World->Prop) (hK:∀a' w',iI S0 w0 n q.1 a' w'->K a' w') :
  if Region.wanted o (yielded ops.toArray a.tmps) then o.wp P a w K Q∨(o.asks P a w∧LetsOut Q) else K (a.put o.dst undef) w:=by
 unfold Ur at hr
 split at hr
 ·rename_i hg
  have hw:Region.wanted o (yielded ops.toArray a.tmps)=true:=by unfold Region.wanted;rw [hg]
  rw [if_pos hw]
  exact .inl (Oper.wp_mono hK (oQ hr hC S0 w0 a w Q hs))
 ·rename_i j want hg
  split at hr
  ·rename_i p hp
   split at hr
   ·rename_i d hd
    split at hr
    ·rename_i b hb
     obtain ⟨φ,bT⟩:=hs
     have ht:=bT.get d
     rw [hb] at ht
     have hy:=mH (ops:=ops) hp hd (q9 ht)
     split at hr
     ·rename_i kj
      split at hr
      ·rename_i s' C he
       cases hr
       obtain ⟨Hf,hC⟩:=hC
       have hw:Region.wanted o (yielded ops.toArray a.tmps)=true:=by
        unfold Region.wanted;rw [hg];simp only [hy,Hf]
        have:h.g=want:=by simpa using kj
        rw [this];simp
       rw [if_pos hw]
       exact .inl (Oper.wp_mono hK (oQ he hC S0 w0 a w Q ⟨φ,bT⟩))
      ·cases hr
     ·rename_i kj
      split at hr
      ·rename_i s' FO
       cases hr
       obtain ⟨Hf,-⟩:=hC
       have hw:¬Region.wanted o (yielded ops.toArray a.tmps)=true:=by
        unfold Region.wanted;rw [hg];simp only [hy,Hf]
        have:¬h.g=want:=by simpa using kj
        simpa using this
       rw [if_neg hw]
       exact hK _ _ ⟨φ,d_ bT (.rep (.val _)) FO⟩
      ·cases hr
    ·rename_i arr hb
     obtain ⟨φ,bT⟩:=hs
     have ht:=bT.get d
     rw [hb] at ht
     have hy:=mG (ops:=ops) hp hd (bF ht)
     split at hr
     ·rename_i s' FO
      cases hr
      have hw:¬Region.wanted o (yielded ops.toArray a.tmps)=true:=by
       unfold Region.wanted;rw [hg];simp [hy]
      rw [if_neg hw]
      exact hK _ _ ⟨φ,d_ bT (.rep (.val _)) FO⟩
     ·cases hr
    ·cases hr
   ·cases hr
  ·cases hr
theorem j0 {hs:List (Nat×Hint)}:∀(l:List Oper) (i:Nat) (s s':AS) (C:List Prop),kn P n ops hs l i s=some (s',C)->bw C-> ∀(a:Act) (w:World),iI S0 w0 n s a w->(∀a' w',iI S0 w0 n s' a' w'->Q .normal a' w')->wpList P ops.toArray Q l a w
 | [],i,s,s',C,he,hC,a,w,hs,hQ=>by cases he;exact hQ a w hs
 | o::l,i,s,s',C,he,hC,a,w,hs,hQ=>by
  simp only [kn] at he
  split at he
  ·rename_i s1 C1 h1
   split at he
   ·rename_i s2 D h2
    cases he
    obtain ⟨iX,hD⟩:=bN.1 hC
    have:=Kx (S0:=S0) (w0:=w0) (Q:=Q) h1 iX hs (wpList P ops.toArray Q l) (fun a' w' h'=>j0 l (i+1) s1 s' D h2 hD a' w' h' hQ)
    unfold wpList
    exact this
   ·cases he
  ·cases he
end
def Kd:AV->AV
 | .own e row=>.sl e row
 | .box row=>.ptr row 0
 | x=>x
def Hj:AV->AV
 | .agg cs=>.agg (cs.map Kd)
 | x=>Kd x
def Qk:AV->AV
 | .b_ cs=>.b_ (cs.map Hj)
 | x=>Hj x
section
variable {S S':Nat->Prop} {w:World}
theorem zY (hS:∀b,S b->S' b) {v:Value} {x:AV} {O:List Nat} (hO:∀g∈O,S' g) (h:iu S w v x O):cz S' w v (Kd x):=by
 cases h with
 | rep h =>
  have:=h.mono fun b hb=>⟨hS b hb,rfl⟩
  cases h<;>exact this
 | nil e=>exact i4 none 0 0 e (by simp) (by simp) (by simp)
 | own g l c e row cur te fr hg hf hl hc hm hs h =>
  exact fv (r:=⟨e,true,false,row⟩) hg (hO g (by simp)) row 0 (by rw [hl,hs,Nat.zero_add];exact Nat.mul_le_mul_left _ hc) hl hc hm _ (fun _=>rfl) (fun j u x hu hx=>(h j u x (by simpa using hu) hx).mono fun b hb=>⟨hS b hb,rfl⟩)
 | box g row cur te fr hg hf hs h =>
  exact pO (off:=0) hg (hO g (by simp)) row ag (fun j u x hu hx=>(h j u x hu hx).mono fun b hb=>⟨hS b hb,rfl⟩)
theorem F7 {R:Value->AV->List Nat->Prop} {f:AV->AV} (hR:∀v x O,(∀g∈O,S' g)->R v x O->cz S' w v (f x)) {vs:List Value} {xs:List AV} {O:List Nat} (h:lr R vs xs O):(∀g∈O,S' g)->vs.length=(xs.map f).length∧ ∀(j:Nat) v c,vs[j]?=some v->(xs.map f)[j]?=some c->cz S' w v c:=by
 induction h with
 | nil=>intro _;exact ⟨rfl,fun j v c hv=>by simp at hv⟩
 | cons h _ ih =>
  intro hO
  obtain ⟨h1,h2⟩:=ih fun g hg=>hO g (by simp [hg])
  refine ⟨by simpa using h1,fun j v c hv hc=>?_⟩
  cases j with
  | zero=>simp at hv hc;subst hv;subst hc;exact hR _ _ _ (fun g hg=>hO g (by simp [hg])) h
  | succ j=>exact h2 j v c (by simpa using hv) (by simpa using hc)
theorem zU (hS:∀b,S b->S' b) {v:Value} {x:AV} {O:List Nat} (hO:∀g∈O,S' g) (h:oC S w v x O):cz S' w v (Hj x):=by
 rcases h with h|⟨vs,cs,rfl,rfl,hL⟩
 ·by_cases hx:∃cs,x= .agg cs
  ·obtain ⟨cs,rfl⟩:=hx
   cases h with
   | rep h=>cases h with
    | agg vs _ hl h =>
     refine .agg vs _ (by simpa using hl) fun j v c hv hc=>?_
     rw [List.getElem?_map] at hc
     cases hj:cs[j]? with
     | none=>rw [hj] at hc;cases hc
     | some y=>rw [hj] at hc;injection hc with hc;subst hc;exact zY hS (O:=[]) (by simp) (.rep (h j v y hv hj))
  ·have:Hj x=Kd x:=by
    cases x with
    | agg cs=>exact absurd ⟨cs,rfl⟩ hx
    | _=>rfl
   rw [this];exact zY hS hO h
 ·obtain ⟨h1,h2⟩:=F7 (S':=S') (f:=Kd) (fun v x O hO h=>zY hS hO h) hL hO
  exact .agg vs _ h1 h2
theorem Kc (hS:∀b,S b->S' b) {v:Value} {x:AV} {O:List Nat} (hO:∀g∈O,S' g) (h:tU S w v x O):cz S' w v (Qk x):=by
 rcases h with h|⟨vs,cs,rfl,rfl,hL⟩
 ·by_cases hx:∃cs,x= .b_ cs
  ·obtain ⟨cs,rfl⟩:=hx
   rcases h with h|⟨vs,Ln,h1,h2,h3⟩
   ·cases h with
    | rep h=>cases h with
     | b_ vs _ hl h =>
      refine .b_ vs _ (by simpa using hl) fun j v c hv hc=>?_
      rw [List.getElem?_map] at hc
      cases hj:cs[j]? with
      | none=>rw [hj] at hc;cases hc
      | some y=>rw [hj] at hc;injection hc with hc;subst hc;exact zU hS (O:=[]) (by simp) (.inl (.rep (h j v y hv hj)))
   ·cases h2
  ·have:Qk x=Hj x:=by
    cases x with
    | b_ cs=>exact absurd ⟨cs,rfl⟩ hx
    | _=>rfl
   rw [this];exact zU hS hO h
 ·obtain ⟨h1,h2⟩:=F7 (S':=S') (f:=Hj) (fun v x O hO h=>zU hS hO h) hL hO
  exact .b_ vs _ h1 h2
end
def sx (P:Program) (s:AS) (o:Oper) (h:Hint):Option (AV×List Prop) :=
 match o.op with
 | .buildSlice t len parts=>(match P.underlying t with
  | some (.slice el)=>(match eH P el,(P.info? el).bind (·.zero) with
   | some (z+1),some zero=>(match gu s (z+1) 0 parts.toList,Nat.beq parts.toList.length len,Nat.ble (len*(z+1)) 16777216,Nat.beq zero.cells.size (z+1) with
    | some cells,true,true,true=>(match er cells with
     | true=>some (.sl (z+1) (named h cells).1,(named h cells).2)
     | false=>none)
    | _,_,_,_=>none)
   | _,_=>none)
  | _=>none)
 | .makeSlice t l c=>(match bq s l,bq s c,P.underlying t with
  | .val (.int _ L),.val (.int _ C),some (.slice el)=>(match P.info? el with
   | some i=>(match i.zero,i.size with
    | some zero,z+1=>(match Nat.beq zero.cells.size (z+1) with
     | true=>some (.sl (z+1) (named h (uw (zero.cells.toList.map bB) h.k)).1,(named h (uw (zero.cells.toList.map bB) h.k)).2++ [L=(h.k:Int),C=(h.m:Int),h.k≤h.m,i.bytes*h.m≤281474976710656,h.m≤maxLen])
     | false=>none)
    | _,_=>none)
   | none=>none)
  | _,_,_=>none)
 | .call ⟨.builtin _,_,_⟩=>qV P s o h
 | .call ⟨c,xs,_⟩=>(match callee s c,h.av with
  | some f,some r=>(match iy P f,h.b with
   | true,true=>(match j8 s (xs.toList.map (bq s)),flat r with
    | some vs,some C=>some (Qk r,bA P f vs r::C)
    | _,_=>none)
   | true,false=>(match lU (xs.toList.map (bq s)) with
    | true=>some (Qk r,[bA P f (xs.toList.map (bq s)) r])
    | false=>none)
   | _,_=>none)
  | _,_=>none)
 | _=>qV P s o h
def EY (P:Program) (s:AS) (o:Oper) (x:AV) (C:List Prop):Prop :=
 bw C-> ∀S0 w0 n a w φ Q (b:Act),aJ S0 w0 n [] s a w φ->b.tmps=a.tmps->o.wp P b w (fun b' w'=>∃v,b'=b.put o.dst v∧Below w.heap.size w w'∧Den (az s.H φ) (aO S0 w' φ []) w' v x) Q
theorem eU {a b:Act} (h:b.tmps=a.tmps):b.eval=a.eval:=by
 funext x
 cases x<;>simp [Act.eval,h]
section
variable {P:Program} {s:AS} {o:Oper} {h:Hint} {r:AV×List Prop}
theorem vQ (hp:dd P s o r.1 r.2):EY P s o r.1 r.2:=by
 intro hC S0 w0 n a w φ Q b hs hb
 obtain ⟨v,bZ,dX⟩:=hp hC S0 w0 n [] a w φ hs
 rw [←eU hb] at bZ
 exact cS bZ ⟨v,rfl,Below.refl _ _,dX⟩
theorem mw {S0:bo} {w0 w w':World} {n:Nat} {a:Act} {φ:Nat->Option Nat} (hs:aJ S0 w0 n [] s a w φ) (hb:Below w.heap.size w w') (b:Nat) (h:aO S0 w φ [] b∨(w.heap.size≤b∧b<w'.heap.size)):aO S0 w' φ [] b:=by
 rcases h with h|⟨h1,h2⟩
 ·exact ⟨by have:=h.1;have:=hb.size;omega,by simp,h.2.2⟩
 ·exact ⟨h2,by simp,fun i hi=>by have:=(hs.cW i b hi).2;omega,hs.new b (.inl (by have:=hs.cX.size;omega))⟩
theorem x6 {c:Callee} {xs:Array Operand} {ts:Array TypeId} {f:FuncId} {args:List AV} {x:AV} {C:List Prop} (ho:o.op= .call ⟨c,xs,ts⟩) (hc:callee s c=some f) (hE:iy P f=true) (oa:bw C->bA P f args x) (hl:args.length=xs.toList.length)
  (hG:bw C-> ∀S0 w0 n a w φ,aJ S0 w0 n [] s a w φ-> ∃S:Nat->Prop,(∀b,S b->b<w.heap.size)∧(∀(j:Nat) v y,(xs.toList.map a.eval)[j]?=some v->args[j]?=some y->cz S w v y)∧ ∀w' v O,tU (fun b=>S b∨(w.heap.size≤b∧b<w'.heap.size∧b ∉ O)) w' v x O->tU (fun b=>aO S0 w φ [] b∨(w.heap.size≤b∧b<w'.heap.size∧b ∉ O)) w' v x O):EY P s o (Qk x) C:=by
 intro hC S0 w0 n a w φ Q b hs hb
 have bZ:=jC (P:=P) hs hc ho hE
 rw [←eU hb] at bZ
 obtain ⟨S,hS,iS,vL⟩:=hG hC S0 w0 n a w φ hs
 unfold Oper.wp
 rw [bZ]
 have np:=oa hC w S (xs.toList.map a.eval) hs.cX.m7 hS (by simp [hl]) iS
 have e:(xs.toList.map a.eval).toArray=xs.map b.eval:=by rw [eU hb];apply Array.ext';simp
 rw [e] at np
 refine np.mono ?_
 rintro en w' ⟨v,O,rfl,nG,iF,mZ,hg⟩
 refine ⟨v,rfl,nG,.rep (Kc (fun b hb=>?_) (fun g hg=>?_) (vL w' v O hg))⟩
 ·exact mw hs nG b (hb.imp id fun h=>⟨h.1,h.2.1⟩)
 ·exact mw hs nG g (.inr (mZ g hg))
theorem yi (hr:sx P s o h=some r):EY P s o r.1 r.2:=by
 unfold sx at hr
 split at hr
 ·rename_i t len parts ho
  split at hr
  ·rename_i el hu
   split at hr
   ·rename_i z zero hz hzero
    split at hr
    ·rename_i cells dS hlen B8 vD
     split at hr
     ·rename_i hp
      cases hr
      intro hC S0 w0 n a w φ Q b hs hb
      have hlen:=Nat.eq_of_beq_eq_true hlen
      have B8:len*(z+1)≤16777216:=Nat.le_of_ble_eq_true B8
      have hn:(named h cells).1=cells:=(ir (C:=[]) (by rw [List.append_nil];exact hC)).1
      obtain ⟨h1,us,h2,h3,-,h4⟩:=DG hs (z+1) parts.toList 0 cells ((Array.range (len*(z+1))).map (zero.cells[· %zero.cells.size]!)) dS hp (by simp [←hlen])
      have hm:len≤maxLen:=by
       have:len≤len*(z+1):=Nat.le_mul_of_pos_right _ ag
       unfold maxLen;omega
      have bZ:(execOp b.eval o).run P w= .ok (.value (.slice (some ⟨w.heap.size,0,none⟩) len len)) {w with heap:=w.heap.push (.cells us el (0,0))}:=by
       have BS:(sizeOf el).run P w= .ok (z+1) w:=run_sizeOf hz
       have pv:(parts.map fun p=>(p.1,a.eval p.2)).toList=parts.toList.map fun p=>(p.1,a.eval p.2):=by simp
       rw [eU hb]
       unfold execOp
       simp only [ho,Instr.buildSlice,Sem.run_bind,run_underlying hu,Result.andThen_ok,BS,Sem.run_ite]
       rw [if_neg ag]
       by_cases h0:len*(z+1)=0
       ·rw [if_pos h0]
        simp only [Sem.run_pure,Result.andThen_ok]
        have:(Array.range (len*(z+1))).map (fun x=>(#[]:Array Value)[x%(#[]:Array Value).size]!)=(Array.range (len*(z+1))).map (fun x=>zero.cells[x%zero.cells.size]!):=by rw [h0,iC,iC]
        rw [this,pv,h2]
        rfl
       ·rw [if_neg h0]
        simp only [i5 hzero,Result.andThen_ok,Sem.run_pure]
        rw [pv,h2]
        rfl
      have nG:Below w.heap.size w {w with heap:=w.heap.push (.cells us el (0,0))}:=⟨rfl,rfl,rfl,by simp,fun k hk=>cG w _ k hk⟩
      have gC:cells.length=(z+1)*len:=by rw [h1,hlen,Nat.mul_comm]
      refine cS bZ ⟨_,rfl,nG,?_⟩
      simp only [hn]
      refine .rep (fv (r:=⟨z+1,true,false,cells⟩) (dR w _) (mw hs nG _ (.inr ⟨Nat.le_refl _,by simp⟩)) cells 0 (by rw [h3,gC];simp [Nat.mul_comm]) gC (Nat.le_refl _) hm _ (fun _=>rfl) (fun j u x hu hx=>?_))
      exact (h4 j u x (by simpa using hu) hx).mono fun b hb=>⟨mw hs nG b (.inl hb),cG w _ b hb.1⟩
     ·cases hr
    ·cases hr
   ·cases hr
  ·cases hr
 ·rename_i t l c ho
  split at hr
  ·rename_i kl L kc C el hl hc hu
   split at hr
   ·rename_i i hi
    split at hr
    ·rename_i zero z hz dB
     split at hr
     ·rename_i hb
      cases hr
      have hb:=Nat.eq_of_beq_eq_true hb
      intro hC S0 w0 n a w φ Q b hs FY
      obtain ⟨Mg,hC⟩:=ir hC
      obtain ⟨h1,h2,h3,h4,h5,-⟩:=hC
      have ND:b.eval l= .int kl L:=by rw [eU FY];exact bF (hl ▸ hs.bq l)
      have ec:b.eval c= .int kc C:=by rw [eU FY];exact bF (hc ▸ hs.bq c)
      obtain ⟨cur,bZ,x8,bt⟩:=run_make ho ND ec hu hi hz dB hb h1 h2 h3 h4 h5 w
      have nG:Below w.heap.size w {w with heap:=w.heap.push (.cells cur el (0,0))}:=⟨rfl,rfl,rfl,by simp,fun k hk=>cG w _ k hk⟩
      have HT:(zero.cells.toList.map bB).length=z+1:=by simp [hb]
      have HX:=uv (zero.cells.toList.map bB) (z+1) HT h.k
      have hle:(z+1)*h.k≤(z+1)*h.m:=Nat.mul_le_mul_left _ h3
      refine cS bZ ⟨_,rfl,nG,?_⟩
      simp only [Mg]
      refine .rep (fv (r:=⟨z+1,true,false,uw (zero.cells.toList.map bB) h.k⟩) (dR w _) (mw hs nG _ (.inr ⟨Nat.le_refl _,by simp⟩)) _ 0 (by rw [HX,x8];omega) HX h3 h5 _ (fun _=>rfl) (fun j u x hu hx=>?_))
      have h6:=yt _ (z+1) HT ag _ _ _ hx
      have h7:=bt j u (by simpa using hu)
      rw [List.getElem?_map] at h6
      have h8:zero.cells.toList[j%(z+1)]?=some u:=by simpa using h7
      rw [h8] at h6;injection h6 with h6;subst h6;exact gk u
     ·cases hr
    ·cases hr
   ·cases hr
  ·cases hr
 ·exact vQ (lh hr)
 ·rename_i c xs ts _ ho
  split at hr
  ·rename_i f x hc _
   split at hr
   ·rename_i hE _
    split at hr
    ·rename_i vs C hv vO
     cases hr
     refine x6 ho hc hE (fun hC=>hC.1) ?_ fun hC S0 w0 n a w φ hs=>?_
     ·have key:∀(l:List AV) (m:List AV),j8 s l=some m->m.length=l.length:=by
       intro l
       induction l with
       | nil=>intro m h;cases h;rfl
       | cons y l ih =>
        intro m h
        simp only [j8] at h
        split at h
        ·rename_i y' m' _ hm
         cases h
         simp [ih m' hm]
        ·cases h
      rw [key _ _ hv];simp
     ·exact ⟨fun b=>b<w.heap.size,fun _ h=>h,(ma hs _ _ hv).2,fun w' v O hg=>uh vO hC.2 hg⟩
    ·cases hr
   ·rename_i hE _
    split at hr
    ·rename_i xb
     cases hr
     refine x6 ho hc hE (fun hC=>hC.1) (by simp) fun hC S0 w0 n a w φ hs=>⟨aO S0 w φ [],fun b hb=>hb.1,fun j v x hv hx=>?_,fun w' v O hg=>hg⟩
     have OI:=mg xb hx
     rw [List.getElem?_map] at hv hx
     cases hj:xs.toList[j]? with
     | none=>rw [hj] at hv;cases hv
     | some y =>
      rw [hj] at hv hx
      injection hv with hv;injection hx with hx;subst hv;subst hx
      exact oF (hs.bq y) OI
    ·cases hr
   ·cases hr
  ·cases hr
 ·exact vQ (lh hr)
end
def n0 (ds:List Nat):List (Nat×AV)->List (Nat×AV)
 | []=>[]
 | (i,x)::l=>match ds.any (Nat.beq i) with|true=>n0 ds l|false=>(i,x)::n0 ds l
theorem gn (ds:List Nat):∀(l:List (Nat×AV)) (i:Nat) (x:AV),look (n0 ds l) i=some x->look l i=some x∧i ∉ ds
 | [],i,x,h=>by cases h
 | (k,y)::l,i,x,h=>by
  simp only [n0] at h
  have ih:=gn ds l i x
  split at h
  ·rename_i hk
   obtain ⟨h1,h2⟩:=ih h
   rw [aD]
   have cU:k≠i:=fun e=>by
    subst e
    obtain ⟨j,hj,hb⟩:=List.any_eq_true.1 hk
    have:=Nat.eq_of_beq_eq_true hb
    subst this
    exact h2 hj
   rw [if_neg cU];exact ⟨h1,h2⟩
  ·rename_i hk
   rw [aD] at h ⊢
   by_cases tL:k=i
   ·rw [if_pos tL] at h ⊢
    refine ⟨h,fun hm=>?_⟩
    have:ds.any (Nat.beq k)=true:=List.any_eq_true.2 ⟨i,hm,by rw [tL];exact Nat.beq_refl i⟩
    rw [hk] at this;cases this
   ·rw [if_neg tL] at h ⊢
    exact ih h
def jB (ops:List Oper) (h_:List AV):List Nat->List (Nat×AV)
 | []=>[]
 | d::l=>match ops[d]?,h_[d]? with
  | some p,some x=>(match p.dst with|some i=>(i,x)::jB ops h_ l|none=>jB ops h_ l)
  | _,_=>jB ops h_ l
theorem oL (ops:List Oper) (h_:List AV):∀(l:List Nat) (i:Nat) (x:AV),look (jB ops h_ l) i=some x-> ∃d p,d∈l∧ops[d]?=some p∧p.dst=some i∧h_[d]?=some x
 | [],i,x,h=>by cases h
 | d::l,i,x,h=>by
  simp only [jB] at h
  have ih:=oL ops h_ l i x
  have step:look (jB ops h_ l) i=some x-> ∃d' p,d'∈d::l∧ops[d']?=some p∧p.dst=some i∧h_[d']?=some x:=fun h=>by
   obtain ⟨d',p,h1,h2⟩:=ih h
   exact ⟨d',p,by simp [h1],h2⟩
  split at h
  ·rename_i p y hp hy
   split at h
   ·rename_i k hk
    rw [aD] at h
    by_cases e:k=i
    ·rw [if_pos e] at h;injection h with h;subst h;subst e
     exact ⟨d,p,by simp,hp,hk,hy⟩
    ·rw [if_neg e] at h;exact step h
   ·exact step h
  ·exact step h
def xi (s:AS) (ds:List Nat) (ops:List Oper) (h_:List AV) (o:Oper):AS:=⟨jB ops h_ (bh o)++n0 ds s.F,s.H⟩
def tR (P:Program) (ops:List Oper) (s:AS) (o:Oper) (h:Hint):Option (AV×List Prop) :=
 match o.guard with
 | none=>sx P s o h
 | some (j,want)=>(match ops[j]? with
  | some p=>(match p.dst with
   | some d=>(match j9 s d with
    | .val (.bool b)=>(match h.g == want with
     | true=>(match sx P s o h with|some (x,C)=>some (x,(b=h.g)::C)|none=>none)
     | false=>some (.val (.tuple #[]),[b=h.g]))
    | .val (.tuple _)=>some (.val (.tuple #[]),[])
    | _=>none)
   | none=>none)
  | none=>none)
def ui (P:Program) (s:AS) (ds:List Nat) (ops:List Oper) (hs:List (Nat×Hint)):List Oper->Nat->List AV->Option (List AV×List Prop)
 | [],_,h_=>some (h_,[])
 | o::l,i,h_=>match tR P ops (xi s ds ops h_ o) o (gQ hs i) with
  | some (x,C)=>(match ui P s ds ops hs l (i+1) (h_++ [x]) with|some (jk,D)=>some (jk,C++D)|none=>none)
  | none=>none
def jn:List Oper->List AV->List (Nat×AV)
 | o::l,x::m=>(match o.dst with|some d=>(d,x)::jn l m|none=>jn l m)
 | _,_=>[]
def Em (P:Program) (n T:Nat) (ops:List Oper) (hs:List (Nat×Hint)) (s:AS):Option (AS×List Prop) :=
 match P.follows .mixedOrders,lZ ops.toArray n,pd ops.toArray T with
 | true,true,true=>(match ui P s ((ops.take T).filterMap (·.dst)) ops hs (ops.take T) 0 [] with
  | some (h_,C)=>(match kn P n ops hs (ops.drop T) T ⟨jn (ops.take T) h_++n0 ((ops.take T).filterMap (·.dst)) s.F,s.H⟩ with|some (s',D)=>some (s',C++D)|none=>none)
  | none=>none)
 | _,_,_=>none
section
variable {P:Program} {ops:List Oper} {S0:bo} {w0:World} {Q:Exit->Act->World->Prop}
theorem Ga {s:AS} {o:Oper} {h:Hint} {r:AV×List Prop} (hr:tR P ops s o h=some r) (hC:bw r.2) {n:Nat} {a b:Act} {w:World} {φ:Nat->Option Nat} (hs:aJ S0 w0 n [] s a w φ) (hb:b.tmps=a.tmps) :
  ib P ops.toArray Q o b w fun v w'=>w.heap.size≤w'.heap.size∧Den (az s.H φ) (aO S0 w' φ []) w' v r.1:=by
 unfold tR at hr
 unfold ib
 split at hr
 ·rename_i hg
  have hw:Region.wanted o (yielded ops.toArray b.tmps)=true:=by unfold Region.wanted;rw [hg]
  rw [if_pos hw]
  exact Oper.wp_mono (fun b' w' ⟨v,h1,h2,h3⟩=>⟨v,h1,h2,h2.size,h3⟩) (yi hr hC S0 w0 n a w φ Q b hs hb)
 ·rename_i j want hg
  split at hr
  ·rename_i p hp
   split at hr
   ·rename_i d hd
    split at hr
    ·rename_i bb se
     have ht:=hs.get d
     rw [se] at ht
     have hy:=mH (ops:=ops) hp hd (q9 ht)
     rw [←hb] at hy
     split at hr
     ·rename_i kj
      split at hr
      ·rename_i x C he
       cases hr
       obtain ⟨Hf,hC⟩:=hC
       have hw:Region.wanted o (yielded ops.toArray b.tmps)=true:=by
        unfold Region.wanted;rw [hg];simp only [hy,Hf]
        have:h.g=want:=by simpa using kj
        rw [this];simp
       rw [if_pos hw]
       exact Oper.wp_mono (fun b' w' ⟨v,h1,h2,h3⟩=>⟨v,h1,h2,h2.size,h3⟩) (yi he hC S0 w0 n a w φ Q b hs hb)
      ·cases hr
     ·rename_i kj
      cases hr
      obtain ⟨Hf,-⟩:=hC
      have hw:¬Region.wanted o (yielded ops.toArray b.tmps)=true:=by
       unfold Region.wanted;rw [hg];simp only [hy,Hf]
       have:¬h.g=want:=by simpa using kj
       simpa using this
      rw [if_neg hw]
      exact ⟨Nat.le_refl _,.rep (.val _)⟩
    ·rename_i arr se
     have ht:=hs.get d
     rw [se] at ht
     have hy:=mG (ops:=ops) hp hd (bF ht)
     rw [←hb] at hy
     cases hr
     have hw:¬Region.wanted o (yielded ops.toArray b.tmps)=true:=by
      unfold Region.wanted;rw [hg];simp [hy]
     rw [if_neg hw]
     exact ⟨Nat.le_refl _,.rep (.val _)⟩
    ·cases hr
   ·cases hr
  ·cases hr
theorem wm {s:AS} {ds:List Nat} {hs:List (Nat×Hint)}:∀(l:List Oper) (i:Nat) (h_ jk:List AV) (C:List Prop),ui P s ds ops hs l i h_=some (jk,C)->bw C->h_.length=i ->
  jk.length=i+l.length∧jk.take i=h_∧ ∀(j:Nat) (o:Oper),l[j]?=some o-> ∃x D,jk[i+j]?=some x∧tR P ops (xi s ds ops (jk.take (i+j)) o) o (gQ hs (i+j))=some (x,D)∧bw D
 | [],i,h_,jk,C,he,hC,hl=>by
  cases he
  exact ⟨by simp [hl],by rw [←hl,List.take_length],fun j o h=>by simp at h⟩
 | o::l,i,h_,jk,C,he,hC,hl=>by
  simp only [ui] at he
  split at he
  ·rename_i x C1 h1
   split at he
   ·rename_i Uy D h2
    cases he
    obtain ⟨iX,hD⟩:=bN.1 hC
    obtain ⟨e1,e2,e3⟩:=wm l (i+1) (h_++ [x]) jk D h2 hD (by simp [hl])
    have e4:jk.take i=h_:=by
     have:=congrArg (List.take i) e2
     rw [List.take_take,Nat.min_eq_left ag,←hl,List.take_left] at this
     rw [←hl];exact this
    have e5:jk[i]?=some x:=by
     have h3:(jk.take (i+1))[i]?=some x:=by rw [e2,List.getElem?_append_right ag,hl];simp
     exact bS _ _ _ _ h3
    refine ⟨by rw [e1,List.length_cons];omega,e4,fun j p hp=>?_⟩
    cases j with
    | zero =>
     simp at hp;subst hp
     exact ⟨x,C1,by simpa using e5,by simp only [Nat.add_zero];rw [e4];exact h1,iX⟩
    | succ j =>
     obtain ⟨y,D',h5,h6,h7⟩:=e3 j p (by simpa using hp)
     rw [show i+1+j=i+(j+1) by omega] at h5 h6
     exact ⟨y,D',h5,h6,h7⟩
   ·cases he
  ·cases he
theorem kZ:∀(l:List Oper) (m:List AV) (i:Nat) (x:AV),look (jn l m) i=some x-> ∃(k:Nat) (o:Oper),l[k]?=some o∧o.dst=some i∧m[k]?=some x
 | [],m,i,x,h=>by simp [jn,look] at h
 | o::l,[],i,x,h=>by simp [jn,look] at h
 | o::l,y::m,i,x,h=>by
  simp only [jn] at h
  have step:look (jn l m) i=some x-> ∃(k:Nat) (p:Oper),(o::l)[k]?=some p∧p.dst=some i∧(y::m)[k]?=some x:=fun h=>by
   obtain ⟨k,p,h1,h2,h3⟩:=kZ l m i x h
   exact ⟨k+1,p,by simpa using h1,h2,by simpa using h3⟩
  split at h
  ·rename_i d hd
   rw [aD] at h
   by_cases e:d=i
   ·rw [if_pos e] at h;injection h with h;subst h;subst e
    exact ⟨0,o,rfl,hd,rfl⟩
   ·rw [if_neg e] at h;exact step h
  ·exact step h
theorem ml (ops:List Oper) (T:Nat) (p:Oper×Nat):p∈ops.zipIdx.take T↔(p.2<T∧ops[p.2]?=some p.1):=by
 rw [List.mem_iff_getElem?]
 constructor
 ·rintro ⟨x,hx⟩
  rw [List.getElem?_take] at hx
  split at hx
  ·rename_i BT
   rw [List.getElem?_zipIdx] at hx
   cases ho:ops[x]? with
   | none=>rw [ho] at hx;simp at hx
   | some q=>rw [ho] at hx;simp at hx;subst hx;exact ⟨by simpa using BT,by simpa using ho⟩
  ·cases hx
 ·rintro ⟨h1,h2⟩
  refine ⟨p.2,?_⟩
  rw [List.getElem?_take,if_pos h1,List.getElem?_zipIdx,h2];simp
theorem kH (ops:List Oper) (T i:Nat):i ∉ (ops.take T).filterMap (·.dst)↔ ∀(j:Nat) (p:Oper),j<T->ops[j]?=some p->p.dst≠some i:=by
 constructor
 ·intro h j p hj hp hd
  refine h (List.mem_filterMap.2 ⟨p,?_,hd⟩)
  exact List.mem_of_getElem? (i:=j) (by rw [List.getElem?_take,if_pos hj];exact hp)
 ·intro h hm
  obtain ⟨p,hp,hd⟩:=List.mem_filterMap.1 hm
  obtain ⟨j,hj⟩:=List.getElem?_of_mem hp
  rw [List.getElem?_take] at hj
  split at hj
  ·rename_i Sq;exact h j p Sq hj hd
  ·cases hj
theorem Hw {n T:Nat} {hs:List (Nat×Hint)} {s s':AS} {C:List Prop} (he:Em P n T ops hs s=some (s',C)) (hC:bw C) {a:Act} {w:World} (gB:iI S0 w0 n s a w) (hQ:∀a' w',iI S0 w0 n s' a' w'->Q .normal a' w'):P.follows .mixedOrders=true∧wpAny P .any ops.toArray Q ops.toArray.size (Array.replicate ops.toArray.size false) a {w with drawn:=w.drawn+1}:=by
 unfold Em at he
 split at he
 ·rename_i hm hB hT
  split at he
  ·rename_i h_ C1 DU
   split at he
   ·rename_i s2 D pt
    cases he
    obtain ⟨iX,hD⟩:=bN.1 hC
    obtain ⟨φ,l9⟩:=gB
    have ij:aJ S0 w0 n [] s a w.drew φ:=l9.grow ((Below.refl _ _).drew)
    obtain ⟨hlen,-,ic⟩:=wm _ 0 [] h_ C1 DU iX rfl
    simp only [Nat.zero_add] at hlen ic
    obtain ⟨cZ,iF,wW⟩:=gp hB
    unfold pd at hT
    simp only [Bool.and_eq_true,decide_eq_true_eq] at hT
    obtain ⟨⟨⟨H2,Mw⟩,Mv⟩,Mu⟩:=hT
    have T1:T<ops.length:=by simpa using H2
    have J0:h_.length=T:=by rw [hlen,List.length_take];omega
    let F:Nat->Value->World->Prop:=fun k v w'=>w.heap.size≤w'.heap.size∧ ∀x,h_[k]?=some x->Den (az s.H φ) (aO S0 w' φ []) w' v x
    have vK:∀k v w1 w2,Below w1.heap.size w1 w2->F k v w1->F k v w2:=by
     intro k v w1 w2 hb ⟨h1,h2⟩
     refine ⟨Nat.le_trans h1 hb.size,fun x hx=>(h2 x hx).mono (fun _ _ h=>h) (fun b hS=>⟨⟨by have:=hS.1;have:=hb.size;omega,hS.2⟩,hb.block b hS.1⟩) (fun id e m g hi=>?_)⟩
     obtain ⟨r,-,-,-,bY⟩:=aT hi
     have:=(l9.cW id g bY).2
     unfold aY;rw [hb.block g ag]
    refine ⟨hm,CZ H2 Mw Mv Mu l9.j7 hB F vK ?_ ?_ ops.toArray.size _ a _ ⟨(Below.refl _ _).drew,by simp,?_,rfl,rfl,?_,?_,fun _ _=>rfl⟩ (fun j _=>by simp only [List.size_toArray];exact getD_replicate_false _ _) (by simp)⟩
    ·
     intro k o xd ho a' w' hb jo fM
     have r_:ops[k]?=some o:=by simpa using ho
     obtain ⟨x,Dk,hx,eC,Sx⟩:=ic k o (by rw [List.getElem?_take,if_pos xd];exact r_)
     have k9:Below w.heap.size w w':=hb
     have hg:=l9.grow k9
     have Lh:aJ S0 w0 a'.tmps.size [] (xi s ((ops.take T).filterMap (·.dst)) ops (h_.take k) o) ⟨a'.tmps,S0.tu⟩ w' φ:=by
      refine ⟨rfl,rfl,hg.cX,fun i av hi=>?_,hg.rows,hg.only,hg.inj,hg.cW,hg.apart,hg.new⟩
      show Den (az s.H φ) _ _ _ _
      unfold xi at hi
      rw [bJ] at hi
      cases Hc:look (jB ops (h_.take k) (bh o)) i with
      | some y =>
       rw [Hc] at hi
       simp at hi;subst hi
       obtain ⟨d,p,h1,h2,h3,h4⟩:=oL _ _ _ _ _ Hc
       rcases jo d h1 with hF|⟨q,hq,hn⟩
       ·have ji:sU ops.toArray a' d=a'.tmps.getD i undef:=by
         unfold sU
         have:(ops.toArray[d]?).bind (·.dst)=some i:=by simp [h2,h3]
         rw [this]
        rw [ji] at hF
        exact hF.2 y (bS _ _ _ _ h4)
       ·have hY:ops[d]?=some q:=by simpa using hq
        rw [h2] at hY;injection hY with hY;subst hY
        rw [h3] at hn;cases hn
      | none =>
       rw [Hc] at hi
       simp at hi
       obtain ⟨h1,h2⟩:=gn _ _ _ _ hi
       have hk:=fM i (fun j p hj hp=>(kH ops T i).1 h2 j p hj (by simpa using hp))
       have o9:a'.tmps.getD i undef=a.tmps.getD i undef:=hk
       show Den _ _ _ (a'.tmps.getD i undef) av
       rw [o9]
       exact hg.cA i av h1
     have:=Ga (Q:=Q) (ops:=ops) eC Sx Lh (b:=a') rfl
     unfold ib at this ⊢
     split
     ·rename_i hw
      rw [if_pos hw] at this
      exact Oper.wp_mono (fun b' w2 ⟨v,h1,h2,h3,h4⟩=>⟨v,h1,h2,Nat.le_trans k9.size h3,fun y hy=>by rw [hx] at hy;injection hy with hy;subst hy;exact h4⟩) this
     ·rename_i hw
      rw [if_neg hw] at this
      exact ⟨k9.size,fun y hy=>by rw [hx] at hy;injection hy with hy;subst hy;exact this.2⟩
    ·
     intro vs w' hb zz
     have k9:Below w.heap.size w w':=hb
     have hg:=l9.grow k9
     have jZ:=jV vs (ops.zipIdx.take T) a (by
      have h1:(ops.zipIdx.take T).filterMap (·.1.dst)=(ops.take T).filterMap (·.dst):=by
       conv=>rhs;rw [←List.zipIdx_map_fst 0 ops,←List.map_take]
       rw [List.filterMap_map];rfl
      rw [h1]
      exact List.Nodup.sublist ((List.take_sublist T ops).filterMap _) (by simpa using iF))
     show wpList P ops.toArray Q (ops.drop T) (eZ (ops.zipIdx.take T) vs a) w'
     refine j0 (S0:=S0) (w0:=w0) _ _ _ _ _ pt hD _ _ ⟨φ,?_⟩ hQ
     refine ⟨jZ.1.trans l9.j7,jZ.2.1.trans l9.j_,hg.cX,fun i av hi=>?_,hg.rows,hg.only,hg.inj,hg.cW,hg.apart,hg.new⟩
     show Den (az s.H φ) _ _ _ _
     rw [bJ] at hi
     cases hh:look (jn (ops.take T) h_) i with
     | some y =>
      rw [hh] at hi
      simp at hi;subst hi
      obtain ⟨k,o,h1,h2,h3⟩:=kZ _ _ _ _ hh
      have xd:k<T:=by have:=(List.getElem?_eq_some_iff.1 h3).1;omega
      have ho:ops[k]?=some o:=bS _ _ _ _ h1
      have hv:=jZ.2.2.1 (o,k) ((ml ops T _).2 ⟨xd,ho⟩) i h2 (by rw [l9.j7];exact wW k o i (by simpa using ho) h2)
      have:(eZ (ops.zipIdx.take T) vs a).tmps.getD i undef=vs k:=by
       simp [hv]
      rw [this]
      exact (zz k xd).2 y h3
     | none =>
      rw [hh] at hi
      simp at hi
      obtain ⟨h1,h2⟩:=gn _ _ _ _ hi
      have hv:=jZ.2.2.2 i (fun p hp hd=>(kH ops T i).1 h2 p.2 p.1 ((ml ops T p).1 hp).1 ((ml ops T p).1 hp).2 hd)
      have:(eZ (ops.zipIdx.take T) vs a).tmps.getD i undef=a.tmps.getD i undef:=by
       simp [hv]
      rw [this]
      exact hg.cA i av h1
    ·intro k o hk;rw [getD_replicate_false] at hk;cases hk
    ·intro k o s hk;rw [getD_replicate_false] at hk;cases hk
    ·intro k o hk;rw [getD_replicate_false] at hk;cases hk
   ·cases he
  ·cases he
 ·cases he
end
def bO (s s':AS):Prop:=∀S0 w0 n a w,iI S0 w0 n s a w->iI S0 w0 n s' a w
def C8 (P:Program):Code->(Exit->Act->World->Prop)->Act->World->Prop
 | .skip,Q,a,w=>Q .normal a w
 | .region _ ops false,Q,a,w=>wpList P ops Q ops.toList a w
 | .region _ ops true,Q,a,w=>P.follows .mixedOrders=true∧wpAny P .any ops Q ops.size (Array.replicate ops.size false) a {w with drawn:=w.drawn+1}
 | .seq x y,Q,a,w=>C8 P x (Exit.then (C8 P y Q) Q) a w
 | .cond c x y,Q,a,w=>∃t:Bool,a.eval c= .bool t∧(t=true->C8 P x Q a w)∧(t=false->C8 P y Q a w)
 | .block id c,Q,a,w=>C8 P c (Exit.inBlock id Q) a w
 | .loop c,Q,a,w=>∃(J:Nat->Act->World->Prop) (k0:Nat),J k0 a w∧ ∀k a w,J k a w->C8 P c (Exit.then (fun a' w'=>∃k',k'<k∧J k' a' w') Q) a w
 | .exit id,Q,a,w=>Q (.exit id) a w
 | .ret,Q,a,w=>Q .ret a w
 | .rangeFunc g ps x b,Q,a,w=>(Code.rangeFunc g ps x b).wp P Q a w
 | _,_,_,_=>False
section
variable {P:Program} {Q Q':Exit->Act->World->Prop}
theorem mW (hQ:∀e a w,Q e a w->Q' e a w) (h:LetsOut Q):LetsOut Q':=let ⟨a,w,h⟩:=h;⟨a,w,hQ _ _ _ h⟩
theorem xQ {o:Oper} {a:Act} {w:World} {K K':Act->World->Prop} (hK:∀a w,K a w->K' a w) (hQ:∀e a w,Q e a w->Q' e a w) (hh:o.wp P a w K Q):o.wp P a w K' Q':=by
 unfold Oper.wp at *
 generalize (execOp a.eval o).run P w=r at *
 cases r with
 | ok n w' =>
  cases n<;>simp only [Oper.upon] at hh ⊢ <;>
   first
    | exact hK _ _ hh
    | exact Calls.mono hh (fun e fL he=>by cases e<;>first|exact hK _ _ he|exact hQ _ _ _ he|exact mW hQ he)
    | exact Rows.mono hh (fun _ _ he=>hK _ _ he)
 | halt x w'=>cases x<;>simp only [Oper.upon] at hh ⊢ <;>first|exact hQ _ _ _ hh|exact hh
theorem kp {ops:Array Oper} (hQ:∀e a w,Q e a w->Q' e a w):∀(l:List Oper) (a:Act) (w:World),wpList P ops Q l a w->wpList P ops Q' l a w
 | [],a,w,h=>hQ _ _ _ h
 | o::l,a,w,h=>by
  unfold wpList at h ⊢
  split at h
  ·rename_i hw
   rw [if_pos hw]
   exact h.imp (xQ (kp hQ l) hQ) fun ⟨h1,h2⟩=>⟨h1,mW hQ h2⟩
  ·rename_i hw
   rw [if_neg hw]
   exact kp hQ l _ _ h
theorem CY {ops:Array Oper} {i:Nat} {a:Act} {w:World} {K K':Act->World->Prop} (hK:∀a w,K a w->K' a w) (hQ:∀e a w,Q e a w->Q' e a w) (hh:wpOp P ops Q i K a w):wpOp P ops Q' i K' a w:=by
 unfold wpOp at *
 split
 ·exact hK _ _ (by simpa [*] using hh)
 ·rename_i o ho
  simp only [ho] at hh
  split
  ·rename_i hw;simp only [hw,if_true] at hh;exact hh.imp (xQ hK hQ) fun ⟨h1,h2⟩=>⟨h1,mW hQ h2⟩
  ·rename_i hw;simp only [hw] at hh;exact hK _ _ hh
theorem sS {md:Region.Mode} {ops:Array Oper} (hQ:∀e a w,Q e a w->Q' e a w):∀(fuel:Nat) (listed:Array Bool) (a:Act) (w:World),wpAny P md ops Q fuel listed a w->wpAny P md ops Q' fuel listed a w
 | 0,_,_,_,h=>⟨h.1,hQ _ _ _ h.2⟩
 | fuel+1,listed,a,w,h=>⟨fun h0=>hQ _ _ _ (h.1 h0),fun i hi=>CY (sS hQ fuel _) hQ (h.2 i hi)⟩
theorem mc {K K':Act->World->Prop} (hK:∀a w,K a w->K' a w) (hQ:∀e a w,Q e a w->Q' e a w) (e:Exit) (a:Act) (w:World) (h:Exit.then K Q e a w):Exit.then K' Q' e a w:=by
 cases e<;>first|exact hK _ _ h|exact hQ _ _ _ h
theorem zv {id:Nat} (hQ:∀e a w,Q e a w->Q' e a w) (e:Exit) (a:Act) (w:World) (h:Exit.inBlock id Q e a w):Exit.inBlock id Q' e a w:=by
 cases e with
 | exit i =>
  simp only [Exit.inBlock] at h ⊢
  split
  ·rename_i hi;rw [if_pos hi] at h;exact hQ _ _ _ h
  ·rename_i hi;rw [if_neg hi] at h;exact hQ _ _ _ h
 | _=>exact hQ _ _ _ h
theorem eD:∀(c:Code) (Q Q':Exit->Act->World->Prop),(∀e a w,Q e a w->Q' e a w)-> ∀(a:Act) (w:World),C8 P c Q a w->C8 P c Q' a w
 | .skip,_,_,hQ,a,w,h=>hQ _ _ _ h
 | .region _ ops false,_,_,hQ,a,w,h=>kp hQ _ _ _ h
 | .region _ ops true,_,_,hQ,a,w,h=>⟨h.1,sS hQ _ _ _ _ h.2⟩
 | .seq x y,_,_,hQ,a,w,h=>eD x _ _ (mc (eD y _ _ hQ) hQ) a w h
 | .cond c x y,_,_,hQ,a,w,⟨t,h1,h2,h3⟩=>⟨t,h1,fun e=>eD x _ _ hQ a w (h2 e),fun e=>eD y _ _ hQ a w (h3 e)⟩
 | .block id c,_,_,hQ,a,w,h=>eD c _ _ (zv hQ) a w h
 | .loop c,_,_,hQ,a,w,⟨J,k0,h0,h⟩=>⟨J,k0,h0,fun k a w hJ=>eD c _ _ (mc (fun _ _ h=>h) hQ) a w (h k a w hJ)⟩
 | .exit id,_,_,hQ,a,w,h=>hQ _ _ _ h
 | .ret,_,_,hQ,a,w,h=>hQ _ _ _ h
 | .rangeFunc g ps x b,_,_,hQ,a,w,h=>wp_mono h hQ
 | .scope _,_,_,_,_,_,h=>h.elim
 | .label _,_,_,_,_,_,h=>h.elim
 | .goto _,_,_,_,_,_,h=>h.elim
 | .refuse _,_,_,_,_,_,h=>h.elim
end
theorem FD {P:Program} {c:Code} {Q:Exit->Act->World->Prop} {a:Act} {w:World} (J:Nat->Act->World->Prop) (k0:Nat) (h0:J k0 a w)
  (round:∀k a w,J k a w->c.wp P (Exit.then (fun a' w'=>∃k',k'<k∧J k' a' w') Q) a w):(Code.loop c).wp P Q a w:=by
 intro b k cs
 have key:∀n a w,J n a w-> ∃e a' w',Q e a' w'∧Arrives P (lone (b.at a (.code c:: .inLoop c::k)) cs w) b k cs e a' w':=by
  intro n
  induction n using Nat.strongRecOn with
  | _ n ih =>
   intro a w hJ
   obtain ⟨e,HO,Gp,hq,tP⟩:=round n a w hJ b (.inLoop c::k) cs
   cases e with
   | normal =>
    obtain ⟨k',cZ,Pb⟩:=hq
    obtain ⟨Uq,Ux,SK,Q9,Mt⟩:=ih k' cZ HO Gp Pb
    exact ⟨Uq,Ux,SK,Q9,.of_steps (Steps.trans tP (.one step_inLoop)) Mt⟩
   | exit id=>exact ⟨_,HO,Gp,hq,.pass (x:=.inLoop c) rfl (fun _ _=>.inl (by simp)) tP⟩
   | goto l=>exact ⟨_,HO,Gp,hq,.pass (x:=.inLoop c) rfl (fun _ _=>.inl (by simp)) tP⟩
   | ret=>exact ⟨_,HO,Gp,hq,.pass (x:=.inLoop c) rfl (fun _ _=>.inl (by simp)) tP⟩
   | panic ch=>exact ⟨_,HO,Gp,hq,.pass (x:=.inLoop c) rfl (fun _ _=>.inl (by simp)) tP⟩
   | outgrown=>exact ⟨_,HO,Gp,hq,.pass (x:=.inLoop c) rfl (fun _ _=>.inl (by simp)) tP⟩
 obtain ⟨e,a',w',hq,tP⟩:=key k0 a w h0
 exact ⟨e,a',w',hq,.of_steps (.one step_loop) tP⟩
theorem kP {P:Program}:∀(c:Code) (Q:Exit->Act->World->Prop) (a:Act) (w:World),C8 P c Q a w->c.wp P Q a w
 | .skip,_,a,w,h=>wp_skip h
 | .region _ ops false,_,a,w,h=>wp_region_list h
 | .region _ ops true,_,a,w,h=>wp_region_any h.1 h.2
 | .seq x y,Q,a,w,h=>wp_seq (kP x _ a w (eD x _ _ (mc (kP y Q) fun _ _ _ h=>h) a w h))
 | .cond c x y,Q,a,w,⟨t,h1,h2,h3⟩=>wp_cond_split h1 (fun e=>kP x Q a w (h2 e)) (fun e=>kP y Q a w (h3 e))
 | .block id c,_,a,w,h=>wp_block (kP c _ a w h)
 | .loop c,_,a,w,⟨J,k0,h0,h⟩=>FD J k0 h0 fun k a w hJ=>kP c _ a w (h k a w hJ)
 | .exit id,_,a,w,h=>wp_exit h
 | .ret,_,a,w,h=>wp_ret h
 | .rangeFunc g ps x b,_,a,w,h=>h
 | .scope _,_,_,_,h=>h.elim
 | .label _,_,_,_,h=>h.elim
 | .goto _,_,_,_,h=>h.elim
 | .refuse _,_,_,_,h=>h.elim
def mark (r:Nat):Deferred:={target:=.collected r,args:= #[]}
structure lz (S0:bo) (w0:World) (S1:bo) (w1:World) (ms:List Nat):Prop where
 kept:Kept S0 w0 w1
 sub:∀b,S1.S b->S0.S b
 X:∀b,S1.X b->w0.heap.size≤b∨S0.X b
 fix:S1.fix=S0.fix
 tu:S1.tu=ms.map mark++S0.tu
 nodup:ms.Nodup
 marks:∀r∈ms,w0.heap.size≤r∧r<w1.heap.size∧w1.heap[r]?=some (.deferred (some []))∧ ¬S1.S r∧ ¬S1.X r
theorem lz.refl {S0:bo} {w0 w:World} (h:Kept S0 w0 w):lz S0 w0 S0 w0 []:=⟨⟨rfl,rfl,rfl,Nat.le_refl _,fun _ _ _=>rfl,h.g0,h.gx⟩,fun _ h=>h,fun _ h=>.inr h,rfl,rfl,List.nodup_nil,fun _ h=>by cases h⟩
theorem Kept.trans {S0 S1:bo} {w0 w1 w2:World} (h:Kept S0 w0 w1) (k:Kept S1 w1 w2) (hX:∀b,S1.X b->w0.heap.size≤b∨S0.X b):Kept S0 w0 w2 :=
 ⟨k.os.trans h.os,k.tape.trans h.tape,k.output.trans h.output,Nat.le_trans h.size k.size,fun b hb hx=>(k.block b (Nat.lt_of_lt_of_le hb h.size) fun Ta=>(hX b Ta).elim (fun h=>ag) hx).trans (h.block b hb hx),h.g0,h.gx⟩
theorem lz.trans {S0 S1 S2:bo} {w0 w1 w2:World} {ms Se:List Nat} (h:lz S0 w0 S1 w1 ms) (k:lz S1 w1 S2 w2 Se):lz S0 w0 S2 w2 (Se++ms) where
 kept:=h.kept.trans k.kept h.X
 sub:=fun b hb=>h.sub b (k.sub b hb)
 X:=fun b hb=>(k.X b hb).elim (fun hb=>.inl (Nat.le_trans h.kept.size hb)) fun hb=>h.X b hb
 fix:=k.fix.trans h.fix
 tu:=by rw [k.tu,h.tu,List.map_append,List.append_assoc]
 nodup:=by
  rw [List.nodup_append]
  refine ⟨k.nodup,h.nodup,fun a ha b hb e=>?_⟩
  subst e
  have:=(k.marks a ha).1
  have:=(h.marks a hb).2.1
  omega
 marks:=fun r hr=>by
  rcases List.mem_append.1 hr with hr|hr
  ·obtain ⟨h1,h2⟩:=k.marks r hr
   exact ⟨Nat.le_trans h.kept.size h1,h2⟩
  ·obtain ⟨h1,h2,h3,h4,h5⟩:=h.marks r hr
   exact ⟨h1,Nat.lt_of_lt_of_le h2 k.kept.size,(k.kept.block r h2 h5).trans h3,fun hs=>h4 (k.sub r hs),fun hx=>(k.X r hx).elim (fun h=>ag) h5⟩
def nv (S0:bo) (w0:World) (n:Nat) (s:AS) (a:Act) (w:World):Prop:=∃S1 w1 ms,lz S0 w0 S1 w1 ms∧iI S1 w1 n s a w
theorem iI.one {S0:bo} {w0:World} {n:Nat} {s:AS} {a:Act} {w:World} (h:iI S0 w0 n s a w):nv S0 w0 n s a w:=⟨S0,w0,[],lz.refl h.choose_spec.cX,h⟩
theorem nv.after {S0 S1:bo} {w0 w1:World} {ms:List Nat} {n:Nat} {s:AS} {a:Act} {w:World} (he:lz S0 w0 S1 w1 ms) (h:nv S1 w1 n s a w):nv S0 w0 n s a w :=
 let ⟨S2,w2,_,h1,h2⟩:=h;⟨S2,w2,_,he.trans h1,h2⟩
def bf (P:Program) (n:Nat) (c:Code) (Q:Exit->AS->Prop) (s:AS):Prop :=
 ∀S0 w0 a w,iI S0 w0 n s a w->C8 P c (fun e a' w'=>∃s',Q e s'∧nv S0 w0 n s' a' w') a w
theorem bf.VC {P:Program} {n:Nat} {c:Code} {Q:Exit->AS->Prop} {s:AS} (h:bf P n c Q s) {S0:bo} {w0:World} {a:Act} {w:World} (hs:nv S0 w0 n s a w):C8 P c (fun e a' w'=>∃s',Q e s'∧nv S0 w0 n s' a' w') a w:=by
 obtain ⟨S1,w1,ms,h1,h2⟩:=hs
 exact eD _ _ _ (fun e a' w' ⟨s',hq,bT⟩=>⟨s',hq,bT.after h1⟩) _ _ (h S1 w1 a w h2)
def sQ (K:AS->Prop) (Q:Exit->AS->Prop):Exit->AS->Prop
 | .normal,s=>K s
 | e,s=>Q e s
def PN (id:Nat) (Q:Exit->AS->Prop):Exit->AS->Prop
 | .exit pU,s=>if pU=id then Q .normal s else Q (.exit pU) s
 | e,s=>Q e s
def iG:Code->Code
 | .seq a _=>a
 | c=>c
def dO:Code->Code
 | .seq _ b=>b
 | c=>c
def pc:Code->Code
 | .cond _ a _=>a
 | c=>c
def pw:Code->Code
 | .cond _ _ b=>b
 | c=>c
def fN:Code->Code
 | .block _ b=>b
 | .loop b=>b
 | .scope b=>b
 | c=>c
def BP:Code->Bool
 | .seq _ _=>true
 | _=>false
def lJ:Code->Option Operand
 | .cond x _ _=>some x
 | _=>none
def K0:Code->Option Nat
 | .block id _=>some id
 | _=>none
def Jr:Code->Bool
 | .loop _=>true
 | _=>false
def NC:Code->Option Nat
 | .exit id=>some id
 | _=>none
def Jq:Code->Bool
 | .ret=>true
 | _=>false
def DJ:Code->Bool
 | .skip=>true
 | _=>false
section
variable {P:Program} {n:Nat} {c:Code} {Q:Exit->AS->Prop} {s:AS}
theorem bf.seq (hc:BP c=true) (h:bf P n (iG c) (sQ (bf P n (dO c) Q) Q) s):bf P n c Q s:=by
 cases c with
 | seq x y =>
  intro S0 w0 a w hs
  refine eD x _ _ (fun e a' w' ⟨s',hq,bT⟩=>?_) a w (h S0 w0 a w hs)
  cases e with
  | normal=>exact bf.VC hq bT
  | _=>exact ⟨s',hq,bT⟩
 | _=>cases hc
theorem bf.cond {x:Operand} {b:Bool} (hc:lJ c=some x) (hx:bq s x= .val (.bool b)) (ht:b=true->bf P n (pc c) Q s) (hf:b=false->bf P n (pw c) Q s):bf P n c Q s:=by
 cases c with
 | cond y p q =>
  cases hc
  intro S0 w0 a w hs
  have hv:a.eval x= .bool b:=by
   obtain ⟨φ,bT⟩:=hs
   exact bF (hx ▸ bT.bq x)
  exact ⟨b,hv,fun e=>ht e S0 w0 a w hs,fun e=>hf e S0 w0 a w hs⟩
 | _=>cases hc
theorem bf.block {id:Nat} (hc:K0 c=some id) (h:bf P n (fN c) (PN id Q) s):bf P n c Q s:=by
 cases c with
 | block pU b =>
  cases hc
  intro S0 w0 a w hs
  refine eD b _ _ (fun e a' w' ⟨s',hq,bT⟩=>?_) a w (h S0 w0 a w hs)
  cases e with
  | exit i =>
   simp only [PN] at hq
   simp only [Exit.inBlock]
   split
   ·rename_i hi;rw [if_pos hi] at hq;exact ⟨s',hq,bT⟩
   ·rename_i hi;rw [if_neg hi] at hq;exact ⟨s',hq,bT⟩
  | _=>exact ⟨s',hq,bT⟩
 | _=>cases hc
theorem bf.exit {id:Nat} (hc:NC c=some id) (h:Q (.exit id) s):bf P n c Q s:=by
 cases c with
 | exit i=>cases hc;intro S0 w0 a w hs;exact ⟨s,h,hs.one⟩
 | _=>cases hc
theorem bf.ret (hc:Jq c=true) (h:Q .ret s):bf P n c Q s:=by
 cases c with
 | ret=>intro S0 w0 a w hs;exact ⟨s,h,hs.one⟩
 | _=>cases hc
theorem bf.skip (hc:DJ c=true) (h:Q .normal s):bf P n c Q s:=by
 cases c with
 | skip=>intro S0 w0 a w hs;exact ⟨s,h,hs.one⟩
 | _=>cases hc
theorem bf.pA {s':AS} (hw:bO s s') (h:bf P n c Q s'):bf P n c Q s:=fun S0 w0 a w hs=>h S0 w0 a w (hw S0 w0 n a w hs)
theorem bf.mono {Q':Exit->AS->Prop} (h:bf P n c Q s) (hq:∀e s,Q e s->Q' e s):bf P n c Q' s:=fun S0 w0 a w hs=>eD c _ _ (fun e _ _ ⟨s',h1,h2⟩=>⟨s',hq e s' h1,h2⟩) a w (h S0 w0 a w hs)
def Round {ι:Type} (I:ι->AS) (Inv:ι->Prop) (m:ι->Nat) (Q:Exit->AS->Prop) (x:ι):Exit->AS->Prop:=sQ (fun s'=>∃y,Inv y∧m y<m x∧bO s' (I y)) Q
theorem bf.loop {ι:Type} (I:ι->AS) (Inv:ι->Prop) (m:ι->Nat) (hc:Jr c=true) (x0:ι) (h0:Inv x0) (hw:bO s (I x0)) (h:∀x,Inv x->bf P n (fN c) (Round I Inv m Q x) (I x)):bf P n c Q s:=by
 cases c with
 | loop b =>
  intro S0 w0 a w hs
  refine ⟨fun k a w=>∃x,Inv x∧m x=k∧nv S0 w0 n (I x) a w,m x0,⟨x0,h0,rfl,(hw S0 w0 n a w hs).one⟩,?_⟩
  rintro k a w ⟨x,hx,rfl,hs⟩
  refine eD b _ _ (fun e a' w' ⟨s',hq,bT⟩=>?_) a w (bf.VC (h x hx) hs)
  cases e with
  | normal =>
   obtain ⟨y,hy,cZ,VZ⟩:=hq
   obtain ⟨S1,w1,ms,h1,h2⟩:=bT
   exact ⟨m y,cZ,y,hy,rfl,S1,w1,ms,h1,VZ S1 w1 n a' w' h2⟩
  | _=>exact ⟨s',hq,bT⟩
 | _=>cases hc
end
structure qd where
 hs:List (Nat×Hint):=[]
 T:Nat:=0
def tq (P:Program) (n:Nat) (c:Code) (x:qd) (s:AS):Option (AS×List Prop) :=
 match c with
 | .region _ ⟨l⟩ false=>kn P n l x.hs l 0 s
 | .region _ ⟨l⟩ true=>Em P n x.T l x.hs s
 | _=>none
def lg (P:Program) (n:Nat):List qd->Code->AS->Option (AS×List Prop)
 | [],_,s=>some (s,[])
 | x::l,c,s=>match BP c with
  | true=>(match tq P n (iG c) x s with
   | some (s1,C)=>(match lg P n l (dO c) s1 with|some (s2,D)=>some (s2,C++D)|none=>none)
   | none=>none)
  | false=>none
def q8:Nat->Code->Code
 | 0,c=>c
 | k+1,c=>q8 k (dO c)
section
variable {P:Program} {n:Nat} {c:Code} {Q:Exit->AS->Prop} {s s':AS} {C:List Prop}
theorem Cv {x:qd} (he:tq P n c x s=some (s',C)) (hC:bw C) (h:Q .normal s'):bf P n c Q s:=by
 intro S0 w0 a w hs
 unfold tq at he
 split at he
 ·exact j0 (S0:=S0) (w0:=w0) _ _ _ _ _ he hC a w hs fun a' w' bT=>⟨s',h,bT.one⟩
 ·exact Hw (S0:=S0) (w0:=w0) he hC hs fun a' w' bT=>⟨s',h,bT.one⟩
 ·cases he
theorem bf.QD (x:qd) (he:tq P n c x s=some (s',C)) (hC:bw C) (h:Q .normal s'):bf P n c Q s:=Cv he hC h
theorem bf.QA:∀(l:List qd) {c:Code} {s s':AS} {C:List Prop},lg P n l c s=some (s',C)->bw C->bf P n (q8 l.length c) Q s'->bf P n c Q s
 | [],c,s,s',C,he,hC,h=>by cases he;exact h
 | x::l,c,s,s',C,he,hC,h=>by
  simp only [lg] at he
  split at he
  ·rename_i Tl
   split at he
   ·rename_i s1 C1 h1
    split at he
    ·rename_i s2 D h2
     cases he
     obtain ⟨iX,hD⟩:=bN.1 hC
     exact bf.seq Tl (Cv h1 iX (bf.QA l h2 hD h))
    ·cases he
   ·cases he
  ·cases he
end
def kV (a b:Nat):AV->AV
 | .ref i=>match Nat.beq i a with|true=>.ref b|false=>.ref i
 | .pre i n=>match Nat.beq i a with|true=>.pre b n|false=>.pre i n
 | .jE i o n=>match Nat.beq i a with|true=>.jE b o n|false=>.jE i o n
 | .addr i o=>match Nat.beq i a with|true=>.addr b o|false=>.addr i o
 | .agg _=>.dead
 | .b_ _=>.dead
 | x=>x
def GI (a b:Nat):AV->AV
 | .agg cs=>.agg (cs.map (kV a b))
 | x=>kV a b x
def Og (a b:Nat):AV->AV
 | .b_ cs=>.b_ (cs.map (GI a b))
 | x=>GI a b x
def fo (a b:Nat) (r:Row):Row:=match r.pure with|true=>r|false=>⟨r.e,false,r.full,r.cells.map (kV a b)⟩
def pK {α:Type} (a b:Nat):List (Nat×α)->List (Nat×α)
 | []=>[]
 | (k,x)::l=>match Nat.beq k a with|true=>(b,x)::pK a b l|false=>(k,x)::pK a b l
def rename (a b:Nat) (s:AS):AS:=⟨eu (Og a b) s.F,eu (fo a b) (pK a b s.H)⟩
theorem nY {α:Type} (a b:Nat):∀(l:List (Nat×α)),look l b=none-> ∀i,look (pK a b l) i=if i=b then look l a else if i=a then none else look l i
 | [],_,i=>by simp [pK,look]
 | (k,x)::l,hb,i=>by
  rw [aD] at hb
  have TH:k≠b:=fun e=>by rw [if_pos e] at hb;cases hb
  rw [if_neg TH] at hb
  have ih:=nY a b l hb i
  rcases bE k a with ⟨h,e⟩|⟨h,e⟩
  ·simp only [pK,h,aD,ih]
   by_cases hi:i=b
   ·subst hi;simp [e]
   ·by_cases OQ:i=a
    ·have Vp:b≠a:=fun e'=>hi (by rw [e',OQ])
     simp [OQ,Vp,Ne.symm Vp]
    ·have:k≠i:=fun e'=>OQ (by rw [←e',e])
     simp [hi,OQ,Ne.symm hi,this]
  ·simp only [pK,h,aD,ih]
   by_cases hi:i=b
   ·subst hi;simp [TH,e]
   ·by_cases OQ:i=a
    ·subst OQ;simp [hi,e]
    ·simp [hi,OQ]
section
variable {S0:bo} {w0 w:World} {n:Nat} {s:AS} {a:Act} {φ:Nat->Option Nat}
theorem cE (x y:Nat) (r:Row):(fo x y r).e=r.e∧(fo x y r).cells.length=r.cells.length∧(fo x y r).pure=r.pure∧(fo x y r).full=r.full:=by
 unfold fo
 cases h:r.pure<;>simp [h]
theorem aJ.LO (h:aJ S0 w0 n [] s a w φ) (x y:Nat) (QO:y<1000000000000) (cU:x≠y) (hy:look s.H y=none):∃ cy,aJ S0 w0 n [] (rename x y s) a w cy:=by
 let cy:Nat->Option Nat:=fun i=>if i=y then φ x else if i=x then none else φ i
 have S6:φ y=none:=h.only y hy
 have m0:∀i g,cy i=some g-> ∃j,φ j=some g∧(i=y->j=x)∧(i≠y->j=i):=by
  intro i g hi
  by_cases e:i=y
  ·have:φ x=some g:=by simpa [cy,e] using hi
   exact ⟨x,this,fun _=>rfl,fun h=>absurd e h⟩
  ·by_cases e2:i=x
   ·simp [cy,e2,cU] at hi
   ·have:φ i=some g:=by simpa [cy,e,e2] using hi
    exact ⟨i,this,fun h=>absurd h e,fun _=>rfl⟩
 have J2:∀b,aO S0 w φ [] b->aO S0 w cy [] b:=by
  intro b ⟨h1,h2,h3,h4⟩
  refine ⟨h1,h2,fun i hi=>?_,h4⟩
  obtain ⟨j,hj,-⟩:=m0 i b hi
  exact h3 j hj
 have kk:∀i,look (rename x y s).H i=(if i=y then look s.H x else if i=x then none else look s.H i).map (fo x y):=by
  intro i
  unfold rename
  rw [cp,nY x y _ hy]
 have hI:∀i z,az s.H φ i=some z->az (rename x y s).H cy (if i=x then y else i)=some z:=by
  intro i z hi
  obtain ⟨e,m,b⟩:=z
  obtain ⟨r,hl,h1,h2,h3⟩:=aT hi
  by_cases e1:i=x
  ·subst e1
   rw [if_pos rfl,br (r:=fo i y r) (by rw [kk,if_pos rfl,hl];rfl),(cE i y r).1,(cE i y r).2.1,h1,h2]
   simp [cy,h3]
  ·have e2:i≠y:=fun e=>by subst e;rw [hy] at hl;cases hl
   rw [if_neg e1,br (r:=fo x y r) (by rw [kk,if_neg e2,if_neg e1,hl];rfl),(cE x y r).1,(cE x y r).2.1,h1,h2]
   simp [cy,e1,e2,h3]
 have tQ:∀b,aO S0 w φ [] b->aO S0 w cy [] b∧w.heap[b]?=w.heap[b]?:=fun b h=>⟨J2 b h,rfl⟩
 have ok:ki (az s.H φ) (az (rename x y s).H cy) (aO S0 w φ []) (aO S0 w cy []) w (kV x y):=by
  refine ⟨fun v av hv h1 h2=>?_,fun _=>rfl,fun _=>rfl⟩
  have pick:∀i z,az s.H φ i=some z->(Nat.beq i x=true∧az (rename x y s).H cy y=some z)∨(Nat.beq i x=false∧az (rename x y s).H cy i=some z):=by
   intro i z hi
   have:=hI i z hi
   rcases bE i x with ⟨hb,e⟩|⟨hb,e⟩
   ·rw [if_pos e] at this;exact .inl ⟨hb,this⟩
   ·rw [if_neg e] at this;exact .inr ⟨hb,this⟩
  cases hv with
  | rep h=>cases h with
   | val v=>exact .rep (.val v)
   | nil=>exact .rep .nil
   | agg vs cs _ _=>exact absurd rfl (h1 cs)
   | b_ vs cs _ _=>exact absurd rfl (h2 cs)
   | arr vs cs hl h=>exact .rep ((cz.arr vs cs hl h).mono tQ)
   | sl A n c e us row hl hn hc hm ha h=>exact .rep ((cz.sl A n c e us row hl hn hc hm ha h).mono tQ)
   | sm A n e us row hl hn hm ha h=>exact .rep ((cz.sm A n e us row hl hn hm ha h).mono tQ)
   | ptr ad us row off hl hs ha h=>exact .rep ((cz.ptr ad us row off hl hs ha h).mono tQ)
   | lu f vs cs hl h=>exact .rep ((cz.lu f vs cs hl h).mono tQ)
  | agg vs cs _ _=>exact absurd rfl (h1 cs)
  | b_ vs cs _ _=>exact absurd rfl (h2 cs)
  | ref i e m g l c hi hm hc hx hs=>rcases pick i _ hi with ⟨hb,jw⟩|⟨hb,jw⟩<;>simp only [kV,hb]<;>exact .ref _ e m g l c jw hm hc hx hs
  | cB i e hi=>rcases pick i _ hi with ⟨hb,jw⟩|⟨hb,jw⟩<;>simp only [kV,hb]<;>exact .cB _ e jw
  | pre i k e m g l c hi hn hm hc hx hs=>rcases pick i _ hi with ⟨hb,jw⟩|⟨hb,jw⟩<;>simp only [kV,hb]<;>exact .pre _ k e m g l c jw hn hm hc hx hs
  | dH i e hi=>rcases pick i _ hi with ⟨hb,jw⟩|⟨hb,jw⟩<;>simp only [kV,hb]<;>exact .dH _ e jw
  | jE i off k e m l c g A hi hn hm hc hx ha=>rcases pick i _ hi with ⟨hb,jw⟩|⟨hb,jw⟩<;>simp only [kV,hb]<;>exact .jE _ off k e m l c g A jw hn hm hc hx ha
  | addr i off e m g hi=>rcases pick i _ hi with ⟨hb,jw⟩|⟨hb,jw⟩<;>simp only [kV,hb]<;>exact .addr _ off e m g jw
  | dead v=>exact .dead _
 have Dy:∀z:AV,(∀cs,z≠ .agg cs)->GI x y z=kV x y z:=by
  intro z hz
  cases z with
  | agg cs=>exact absurd rfl (hz cs)
  | _=>rfl
 have Dx:∀z:AV,(∀cs,z≠ .b_ cs)->Og x y z=GI x y z:=by
  intro z hz
  cases z with
  | b_ cs=>exact absurd rfl (hz cs)
  | _=>rfl
 refine ⟨cy,h.j7,h.j_,h.cX,fun i av hi=>?_,fun i r hr=>?_,fun i hi=>?_,fun i j g hi hj=>?_,fun i g hi=>?_,fun i g hi=>by simp,h.new⟩
 ·unfold rename at hi
  rw [cp] at hi
  cases hl:look s.F i with
  | none=>rw [hl] at hi;cases hi
  | some z =>
   rw [hl] at hi;injection hi with hi;subst hi
   exact ok.two (h.cA i z hl) (fun _=>rfl) Dy (fun _=>rfl) Dx
 ·rw [kk] at hr
  have:∃j q,look s.H j=some q∧cy i=φ j∧r=fo x y q:=by
   by_cases e:i=y
   ·rw [if_pos e] at hr
    cases hl:look s.H x with
    | none=>rw [hl] at hr;cases hr
    | some q=>rw [hl] at hr;injection hr with hr;exact ⟨x,q,hl,by simp [cy,e],hr.symm⟩
   ·rw [if_neg e] at hr
    by_cases e2:i=x
    ·rw [if_pos e2] at hr;cases hr
    ·rw [if_neg e2] at hr
     cases hl:look s.H i with
     | none=>rw [hl] at hr;cases hr
     | some q=>rw [hl] at hr;injection hr with hr;exact ⟨i,q,hl,by simp [cy,e,e2],hr.symm⟩
  obtain ⟨j,q,hq,Ox,rfl⟩:=this
  have aS:=h.rows j q hq
  rw [Ox]
  unfold bK at aS ⊢
  cases hb:φ j with
  | none =>
   rw [hb] at aS
   have:=(cE x y q).2.1
   simp only at aS ⊢
   rw [aS] at this;exact List.length_eq_zero_iff.1 this
  | some g =>
   rw [hb] at aS
   obtain ⟨cur,te,fr,hg,hf,hlen,nn,hc⟩:=aS
   refine ⟨cur,te,fr,hg,hf,by rw [(cE x y q).2.1];exact hlen,by rw [(cE x y q).2.1,(cE x y q).2.2.2];exact nn,fun j u z hu hz=>?_⟩
   rw [(cE x y q).2.2.1]
   unfold bg
   cases hp:q.pure with
   | true =>
    have:fo x y q=q:=by unfold fo;rw [hp]
    rw [this] at hz
    have:=hc j u z hu hz
    unfold bg at this;rw [hp] at this
    exact this.mono tQ
   | false =>
    have:(fo x y q).cells=q.cells.map (kV x y):=by unfold fo;rw [hp]
    rw [this,List.getElem?_map] at hz
    cases hj:q.cells[j]? with
    | none=>rw [hj] at hz;cases hz
    | some z' =>
     rw [hj] at hz;injection hz with hz;subst hz
     have:=hc j u z' hu hj
     unfold bg at this;rw [hp] at this
     exact ok.all this
 ·rw [kk] at hi
  by_cases e:i=y
  ·rw [if_pos e] at hi
   cases hl:look s.H x with
   | none=>simp [cy,e,h.only x hl]
   | some q=>rw [hl] at hi;cases hi
  ·rw [if_neg e] at hi
   by_cases e2:i=x
   ·simp [cy,e2,cU]
   ·rw [if_neg e2] at hi
    cases hl:look s.H i with
    | none=>simp [cy,e,e2,h.only i hl]
    | some q=>rw [hl] at hi;cases hi
 ·obtain ⟨i',h1,h2,h3⟩:=m0 i g hi
  obtain ⟨j',h4,h5,h6⟩:=m0 j g hj
  have e:=h.inj i' j' g h1 h4
  by_cases ei:i=y<;>by_cases ej:j=y
  ·rw [ei,ej]
  ·have:=h2 ei;have:=h6 ej
   have:j=x:=ag
   subst this
   simp [cy,cU] at hj
  ·have:=h3 ei;have:=h5 ej
   have:i=x:=ag
   subst this
   simp [cy,cU] at hi
  ·have:=h3 ei;have:=h6 ej;omega
 ·obtain ⟨j,h1,h2,h3⟩:=m0 i g hi
  have:=h.cW j g h1
  refine ⟨⟨?_,this.1.2⟩,this.2⟩
  by_cases e:i=y
  ·exact .inl ag
  ·rw [←h3 e];exact this.1.1
end
inductive Wk where
 | gM (id:Nat)
 | wU (a b:Nat)
 | nil (slot id e:Nat)
 | aa (cA ids:List Nat)
 | loose (id:Nat)
def nk (s:AS):List Nat->List (Nat×AV)
 | []=>[]
 | i::l=>(i,j9 s i)::nk s l
def tc (H:List (Nat×Row)):List Nat->List (Nat×Row)
 | []=>[]
 | i::l=>match look H i with|some r=>(i,r)::tc H l|none=>tc H l
def gA (ids:List Nat):List (Nat×Row)->List Nat
 | []=>[]
 | (k,_)::l=>match ids.any (Nat.beq k) with|true=>gA ids l|false=>k::gA ids l
def E4 (s:AS) (id:Nat):Option AS:=match look s.H id with|some r=>some ⟨s.F,(id,⟨r.e,r.pure,false,r.cells⟩)::cP s.H id⟩|none=>none
def NV (s:AS):Wk->Option AS
 | .gM id=>(match look s.H id with|some r=>(match r.pure with|true=>some (gM id r s)|false=>none)|none=>none)
 | .wU x y=>(match Nat.beq x y,Nat.ble y 999999999999 with|false,true=>some (rename x y (bX y s))|_,_=>none)
 | .nil i id e=>(match j9 s i with| .nil=>some (lO ⟨(bX id s).F,(id,⟨e,true,false,[]⟩)::(bX id s).H⟩ i (.ref id))|_=>none)
 | .aa is ids=>some ⟨(aV ⟨nk s is,s.H⟩ (gA ids s.H)).F,tc (aV ⟨nk s is,s.H⟩ (gA ids s.H)).H ids⟩
 | .loose id=>E4 s id
def wk:List Wk->AS->Option AS
 | [],s=>some s
 | x::l,s=>match NV s x with|some s1=>wk l s1|none=>none
theorem vr (s:AS):∀(l:List Nat) (i:Nat) (x:AV),look (nk s l) i=some x->x=j9 s i
 | [],i,x,h=>by cases h
 | k::l,i,x,h=>by
  simp only [nk,aD] at h
  by_cases e:k=i
  ·rw [if_pos e] at h;injection h with h;rw [←h,e]
  ·rw [if_neg e] at h;exact vr s l i x h
theorem vq (H:List (Nat×Row)):∀(l:List Nat) (i:Nat),look (tc H l) i=if i∈l then look H i else none
 | [],i=>by simp [tc,look]
 | k::l,i=>by
  simp only [tc]
  have ih:=vq H l i
  cases hk:look H k with
  | none =>
   rw [ih]
   by_cases e:i=k
   ·subst e;simp [hk]
   ·simp [e]
  | some r =>
   simp only [aD,ih]
   by_cases e:k=i
   ·subst e;simp [hk]
   ·simp [e,Ne.symm e]
theorem nX (ids:List Nat):∀(H:List (Nat×Row)) (i:Nat),i ∉ ids->look H i=none∨i∈gA ids H
 | [],i,_=>.inl rfl
 | (k,r)::H,i,hi=>by
  simp only [gA,aD]
  by_cases e:k=i
  ·subst e
   right
   have:ids.any (Nat.beq k)=false:=by
    cases hb:ids.any (Nat.beq k) with
    | false=>rfl
    | true =>
     obtain ⟨j,hj,Li⟩:=List.any_eq_true.1 hb
     have:=Nat.eq_of_beq_eq_true Li
     subst this;exact absurd hj hi
   rw [this];simp
  ·rw [if_neg e]
   rcases nX ids H i hi with h|h
   ·exact .inl h
   ·right
    split
    ·exact h
    ·simp [h]
theorem um {I:Info} {S:Nat->Prop} {w:World} {v:Value} (h:Den I S w v .nil):v= .slice none 0 0:=by
 cases h with|rep h=>cases h;rfl
theorem NU {s s':AS} {x:Wk} (he:NV s x=some s'):bO s s':=by
 intro S0 w0 n a w ⟨φ,hs⟩
 cases x with
 | gM id =>
  simp only [NV] at he
  split at he
  ·rename_i r hr
   split at he
   ·rename_i hp;cases he;exact ⟨_,hs.Nb hr hp⟩
   ·cases he
  ·cases he
 | wU x y =>
  simp only [NV] at he
  split at he
  ·rename_i hb cZ
   cases he
   have cU:x≠y:=Nat.ne_of_beq_eq_false hb
   have cZ:=Nat.le_of_ble_eq_true cZ
   obtain ⟨cy,h⟩:=(hs.mL y).LO x y ag cU (dr y)
   exact ⟨cy,h⟩
  ·cases he
 | nil i id e =>
  simp only [NV] at he
  split at he
  ·rename_i hn
   cases he
   have hv:=hs.get i
   rw [hn] at hv
   have HW:a.tmps.getD i undef= .slice none 0 0:=um hv
   have h1:=hs.mL id
   have h2:=h1.sO (id:=id) (r:=⟨e,true,false,[]⟩) (dr id) rfl
   refine ⟨erase φ id,h2.j7,h2.j_,h2.cX,fun j av hj=>?_,h2.rows,h2.only,h2.inj,h2.cW,h2.apart,h2.new⟩
   rw [r7] at hj
   by_cases e':i=j
   ·rw [if_pos e'] at hj;injection hj with hj;subst hj;subst e'
    rw [HW]
    exact .cB id e (by
     show az ((id,⟨e,true,false,[]⟩)::(bX id s).H) _ id=_
     rw [br (r:=⟨e,true,false,[]⟩) (by rw [aD,if_pos rfl]),h1.only id (dr id)];rfl)
   ·rw [if_neg e'] at hj;exact h2.cA j av hj
  ·cases he
 | aa is ids =>
  simp only [NV] at he
  cases he
  have h1:aJ S0 w0 n [] ⟨nk s is,s.H⟩ a w φ:=by
   refine ⟨hs.j7,hs.j_,hs.cX,fun i av hi=>?_,hs.rows,hs.only,hs.inj,hs.cW,hs.apart,hs.new⟩
   rw [vr s is i av hi]
   exact hs.get i
  obtain ⟨cy,h2,-,h3⟩:=ks (gA ids s.H) ⟨nk s is,s.H⟩ φ [] h1
  have fO:∀i,i ∉ ids->look (aV ⟨nk s is,s.H⟩ (gA ids s.H)).H i=none:=fun i hi=>h3 i (nX ids s.H i hi)
  have kk:∀i,look (tc (aV ⟨nk s is,s.H⟩ (gA ids s.H)).H ids) i=look (aV ⟨nk s is,s.H⟩ (gA ids s.H)).H i:=by
   intro i
   rw [vq]
   by_cases hi:i∈ids
   ·rw [if_pos hi]
   ·rw [if_neg hi,fO i hi]
  have hI:az (tc (aV ⟨nk s is,s.H⟩ (gA ids s.H)).H ids) cy=az (aV ⟨nk s is,s.H⟩ (gA ids s.H)).H cy:=by
   funext i;unfold az;rw [kk]
  refine ⟨cy,h2.j7,h2.j_,h2.cX,fun i av hi=>?_,fun i r hr=>?_,fun i hi=>?_,h2.inj,h2.cW,h2.apart,h2.new⟩
  ·simp only [hI];exact h2.cA i av hi
  ·simp only [hI];simp only [kk] at hr;exact h2.rows i r hr
  ·simp only [kk] at hi;exact h2.only i hi
 | loose id =>
  simp only [NV,E4] at he
  split at he
  ·rename_i r hr
   cases he
   have lX:∀i,look ((id,(⟨r.e,r.pure,false,r.cells⟩:Row))::cP s.H id) i=if id=i then some ⟨r.e,r.pure,false,r.cells⟩ else look s.H i:=by
    intro i
    rw [aD,bD]
    by_cases e:id=i<;>simp [e]
   have hI:az ((id,(⟨r.e,r.pure,false,r.cells⟩:Row))::cP s.H id) φ=az s.H φ:=by
    funext i
    unfold az
    rw [lX]
    by_cases e:id=i
    ·subst e;rw [if_pos rfl,hr];rfl
    ·rw [if_neg e]
   refine ⟨φ,hs.j7,hs.j_,hs.cX,fun i av hi=>?_,fun i q hq=>?_,fun i hi=>?_,hs.inj,hs.cW,hs.apart,hs.new⟩
   ·simp only [hI];exact hs.cA i av hi
   ·simp only [hI]
    simp only [lX] at hq
    by_cases e:id=i
    ·subst e
     rw [if_pos rfl] at hq;injection hq with hq;subst hq
     have aS:=hs.rows id r hr
     unfold bK at aS ⊢
     cases bY:φ id with
     | none=>rw [bY] at aS;exact aS
     | some g =>
      rw [bY] at aS
      obtain ⟨cur,te,fr,hg,hf,hl,-,hc⟩:=aS
      exact ⟨cur,te,fr,hg,hf,hl,fun h=>(by cases h),hc⟩
    ·rw [if_neg e] at hq;exact hs.rows i q hq
   ·simp only [lX] at hi
    by_cases e:id=i
    ·rw [if_pos e] at hi;cases hi
    ·rw [if_neg e] at hi;exact hs.only i hi
  ·cases he
theorem xn:∀(l:List Wk) {s s':AS},wk l s=some s'->bO s s'
 | [],s,s',he=>by cases he;exact fun _ _ _ _ _ h=>h
 | x::l,s,s',he=>by
  simp only [wk] at he
  split at he
  ·rename_i s1 h1
   exact fun S0 w0 n a w h=>xn l he S0 w0 n a w (NU h1 S0 w0 n a w h)
  ·cases he
theorem bf.wk {P:Program} {n:Nat} {c:Code} {Q:Exit->AS->Prop} {s s':AS} (l:List Wk) (he:wk l s=some s') (h:bf P n c Q s'):bf P n c Q s:=bf.pA (xn l he) h
def Cl (s:AS):AV->AV->Option (List Nat×List Prop)
 | .val u,.val v=>some ([],[u=v])
 | .nil,.nil=>some ([],[])
 | .nil,.own _ row=>some ([],[row= []])
 | .nil,.sl _ row=>some ([],[row= []])
 | .sl e row,.sl e' GC=>(match Nat.beq e e' with|true=>some ([],[row=GC])|false=>none)
 | .arr cs,.arr Ln=>some ([],[cs=Ln])
 | .ptr row off,.ptr GC DA=>some ([],[row=GC,off=DA])
 | .lu f cs,.lu f' Ln=>(match Nat.beq f f' with|true=>some ([],[cs=Ln])|false=>none)
 | .ref id,.own e row=>(match look s.H id with|some ⟨e',true,_,cells⟩=>(match Nat.beq e e' with|true=>some ([id],[cells=row])|false=>none)|_=>none)
 | .pre id k,.own e row=>(match look s.H id with|some ⟨e',true,_,cells⟩=>(match Nat.beq e e' with|true=>some ([id],[cells.take k=row])|false=>none)|_=>none)
 | .addr id off,.box row=>(match look s.H id,off with|some ⟨_,false,true,cells⟩,0=>(match er cells with|true=>some ([id],[cells=row])|false=>none)|_,_=>none)
 | _,_=>none
def Ch (f:AV->AV->Option (List Nat×List Prop)):List AV->List AV->Option (List Nat×List Prop)
 | [],[]=>some ([],[])
 | x::xs,r::rs=>match f x r,Ch f xs rs with|some (a,C),some (b,D)=>some (a++b,C++D)|_,_=>none
 | _,_=>none
def Cj (s:AS):AV->AV->Option (List Nat×List Prop)
 | .agg xs,.agg rs=>Ch (Cl s) xs rs
 | x,r=>Cl s x r
def lI (s:AS):AV->AV->Option (List Nat×List Prop)
 | .b_ xs,.b_ rs=>Ch (Cj s) xs rs
 | x,r=>Cj s x r
section
variable {S0:bo} {w0 w:World} {n:Nat} {s:AS} {a:Act} {φ:Nat->Option Nat}
def blocks (φ:Nat->Option Nat):List Nat->List Nat
 | []=>[]
 | i::l=>match φ i with|some g=>g::blocks φ l|none=>blocks φ l
theorem ES (φ:Nat->Option Nat) (l m:List Nat):blocks φ (l++m)=blocks φ l++blocks φ m:=by
 induction l with
 | nil=>rfl
 | cons i l ih =>
  simp only [List.cons_append,blocks]
  cases φ i<;>simp [ih]
theorem iB {φ:Nat->Option Nat} {g:Nat}:∀ {l:List Nat},g∈blocks φ l-> ∃i∈l,φ i=some g
 | [],h=>by cases h
 | i::l,h=>by
  simp only [blocks] at h
  split at h
  ·rename_i g' jm
   rcases List.mem_cons.1 h with rfl|h
   ·exact ⟨i,by simp,jm⟩
   ·obtain ⟨j,h1,h2⟩:=iB h
    exact ⟨j,by simp [h1],h2⟩
  ·obtain ⟨j,h1,h2⟩:=iB h
   exact ⟨j,by simp [h1],h2⟩
theorem kt (hs:aJ S0 w0 n [] s a w φ):∀ {l:List Nat},l.Nodup->(blocks φ l).Nodup
 | [],_=>List.nodup_nil
 | i::l,h=>by
  rw [List.nodup_cons] at h
  simp only [blocks]
  split
  ·rename_i g hg
   rw [List.nodup_cons]
   refine ⟨fun hm=>?_,kt hs h.2⟩
   obtain ⟨j,h1,h2⟩:=iB hm
   have:=hs.inj i j g hg h2
   subst this;exact h.1 h1
  ·exact kt hs h.2
theorem Ck (hs:aJ S0 w0 n [] s a w φ) {v:Value} {x r:AV} {ids:List Nat} {C:List Prop} (hx:Den (az s.H φ) (aO S0 w φ []) w v x) (hg:Cl s x r=some (ids,C)) (hC:bw C):iu (aO S0 w φ []) w v r (blocks φ ids):=by
 have own:∀(id e l c g:Nat) (fu:Bool) (cells row:List AV),look s.H id=some ⟨e,true,fu,cells⟩->φ id=some g->row.length=e*l->l≤c->c≤maxLen->aY w g=e*c->(∀(j:Nat) x,row[j]?=some x->cells[j]?=some x)->iu (aO S0 w φ []) w (.slice (some ⟨g,0,none⟩) l c) (.own e row) (blocks φ [id]):=by
  intro id e l c g fu cells row hr bY hl hc hm gC DN
  obtain ⟨cur,te,fr,hg,hf,hle,bt⟩:=kS hs hr rfl bY
  have:blocks φ [id]= [g]:=by simp [blocks,bY]
  rw [this]
  exact .own g l c e row cur te fr hg hf hl hc hm (by unfold aY at gC;rw [hg] at gC;exact gC) fun j u x hu hx=>bt j u x hu (DN j x hx)
 have I6:∀(id e:Nat),φ id=none->iu (aO S0 w φ []) w (.slice none 0 0) (.own e []) (blocks φ [id]):=by
  intro id e bY
  have:blocks φ [id]= []:=by simp [blocks,bY]
  rw [this];exact .nil e
 unfold Cl at hg
 split at hg
 ·cases hg;have:=hC.1;subst this;exact .rep (by cases hx with|rep h=>exact h)
 ·cases hg;exact .rep (by cases hx with|rep h=>exact h)
 ·cases hg;have:=hC.1;subst this;rw [um hx];exact .nil _
 ·cases hg;have:=hC.1;subst this;rw [um hx];exact .rep (i4 none 0 0 _ (by simp) (by simp) (by simp))
 ·split at hg
  ·rename_i hb
   cases hg
   have:=hC.1
   subst this
   rw [←Nat.eq_of_beq_eq_true hb]
   exact .rep (p7 hx)
  ·cases hg
 ·cases hg;have:=hC.1;subst this;exact .rep (by cases hx with|rep h=>exact h)
 ·cases hg
  obtain ⟨h1,h2,-⟩:=hC
  subst h1;subst h2
  exact .rep (by cases hx with|rep h=>exact h)
 ·split at hg
  ·rename_i hb
   cases hg
   have:=hC.1
   subst this
   rw [←Nat.eq_of_beq_eq_true hb]
   exact .rep (by cases hx with|rep h=>exact h)
  ·cases hg
 ·rename_i id e row
  split at hg
  ·rename_i e' fu cells hr
   split at hg
   ·rename_i hb
    have hb:=Nat.eq_of_beq_eq_true hb
    cases hg
    have:=hC.1
    subst this
    subst hb
    cases hx with
    | rep h=>cases h
    | ref _ e2 m g l c hi hm hc hx bT =>
     obtain ⟨r',iE,h1,h2,bY⟩:=aT hi
     rw [hr] at iE;injection iE with iE;subst iE
     simp only at h1 h2
     exact own id e l c g fu cells cells hr bY (by rw [h2,hm,h1]) hc hx (by rw [h1];exact bT) (fun _ _ h=>h)
    | cB _ e2 hi =>
     obtain ⟨r',iE,h1,h2,bY⟩:=aT hi
     rw [hr] at iE;injection iE with iE;subst iE
     simp only at h2
     have:cells= []:=List.length_eq_zero_iff.1 h2
     subst this
     exact I6 id e bY
   ·cases hg
  ·cases hg
 ·rename_i id k e row
  split at hg
  ·rename_i e' fu cells hr
   split at hg
   ·rename_i hb
    have hb:=Nat.eq_of_beq_eq_true hb
    cases hg
    have:=hC.1
    subst this
    subst hb
    cases hx with
    | rep h=>cases h
    | pre _ _ e2 m g l c hi hn hm hc hx bT =>
     obtain ⟨r',iE,h1,h2,bY⟩:=aT hi
     rw [hr] at iE;injection iE with iE;subst iE
     simp only at h1 h2
     exact own id e l c g fu cells (cells.take k) hr bY (by rw [List.length_take,h2,h1,←hn];omega) hc hx (by rw [h1];exact bT) (fun j x h=>bS _ _ _ _ h)
    | dH _ e2 hi =>
     obtain ⟨r',iE,h1,h2,bY⟩:=aT hi
     simp only [List.take_zero]
     exact I6 id e bY
   ·cases hg
  ·cases hg
 ·rename_i id off row
  split at hg
  ·rename_i e cells hr
   split at hg
   ·rename_i hp
    cases hg
    have:=hC.1
    subst this
    obtain ⟨e2,m,g,hi,hv⟩:=j6 hx
    obtain ⟨r',iE,h1,h2,bY⟩:=aT hi
    have aS:=hs.rows id _ hr
    rw [bY] at aS
    obtain ⟨cur,te,fr,u1,u2,u3,u4,u5⟩:=aS
    have:blocks φ [id]= [g]:=by simp [blocks,bY]
    rw [this,hv]
    refine .box g cells cur te fr u1 u2 (u4 rfl) fun j u x hu hx=>?_
    have hd:Den (az s.H φ) (aO S0 w φ []) w u x:=u5 j u x hu hx
    exact (e_ hd (iO hp hx)).1
   ·cases hg
  ·cases hg
 ·cases hg
theorem vV {f:AV->AV->Option (List Nat×List Prop)} {R:Value->AV->List Nat->Prop} (hf:∀v x r ids C,Den (az s.H φ) (aO S0 w φ []) w v x->f x r=some (ids,C)->bw C->R v r (blocks φ ids)):∀(vs:List Value) (xs rs:List AV) (ids:List Nat) (C:List Prop),vs.length=xs.length->(∀(j:Nat) v c,vs[j]?=some v->xs[j]?=some c->Den (az s.H φ) (aO S0 w φ []) w v c)->Ch f xs rs=some (ids,C)->bw C->lr R vs rs (blocks φ ids)
 | vs,[],rs,ids,C,hl,hd,hg,hC=>by
  cases vs with
  | cons=>simp at hl
  | nil =>
   cases rs with
   | nil=>cases hg;exact .nil
   | cons=>cases hg
 | vs,x::xs,[],ids,C,hl,hd,hg,hC=>by cases hg
 | [],x::xs,r::rs,ids,C,hl,hd,hg,hC=>by simp at hl
 | v::vs,x::xs,r::rs,ids,C,hl,hd,hg,hC=>by
  simp only [Ch] at hg
  split at hg
  ·rename_i a C1 b D h1 h2
   cases hg
   obtain ⟨iX,hD⟩:=bN.1 hC
   rw [ES]
   exact .cons (hf v x r a C1 (hd 0 v x rfl rfl) h1 iX) (vV hf vs xs rs b D (by simpa using hl) (fun j v c hv hc=>hd (j+1) v c (by simpa using hv) (by simpa using hc)) h2 hD)
  ·cases hg
theorem Ci (hs:aJ S0 w0 n [] s a w φ) {v:Value} {x r:AV} {ids:List Nat} {C:List Prop} (hx:Den (az s.H φ) (aO S0 w φ []) w v x) (hg:Cj s x r=some (ids,C)) (hC:bw C):oC (aO S0 w φ []) w v r (blocks φ ids):=by
 unfold Cj at hg
 split at hg
 ·obtain ⟨vs,rfl,hl,hd⟩:=kA hx
  exact .inr ⟨vs,_,rfl,rfl,vV (f:=Cl s) (R:=iu (aO S0 w φ []) w) (fun v x r ids C h1 h2 h3=>Ck hs h1 h2 h3) vs _ _ ids C hl hd hg hC⟩
 ·exact .inl (Ck hs hx hg hC)
theorem qS (hs:aJ S0 w0 n [] s a w φ) {v:Value} {x r:AV} {ids:List Nat} {C:List Prop} (hx:Den (az s.H φ) (aO S0 w φ []) w v x) (hg:lI s x r=some (ids,C)) (hC:bw C):tU (aO S0 w φ []) w v r (blocks φ ids):=by
 unfold lI at hg
 split at hg
 ·obtain ⟨vs,rfl,hl,hd⟩:=Au hx
  exact .inr ⟨vs,_,rfl,rfl,vV (f:=Cj s) (R:=oC (aO S0 w φ []) w) (fun v x r ids C h1 h2 h3=>Ci hs h1 h2 h3) vs _ _ ids C hl hd hg hC⟩
 ·exact .inl (Ci hs hx hg hC)
end
def IH (P:Program) (s:AS):ResultVar->Option (AV×List Prop)
 | .tmp t=>some (j9 s t,[])
 | .cell x t=>(match j9 s x with
  | .addr id off=>(match look s.H id with
   | some r=>(match Js P t,r.pure,off with
    | true,true,0=>(match eH P t with|some z=>some (.arr r.cells,[r.cells.length=z])|none=>none)
    | _,_,_=>pY P t r.pure r.cells off {})
   | none=>none)
  | _=>none)
def GD (P:Program) (s:AS):List ResultVar->Option (List AV×List Prop)
 | []=>some ([],[])
 | x::l=>match IH P s x,GD P s l with|some (y,C),some (m,D)=>some (y::m,C++D)|_,_=>none
def oq (P:Program) (s:AS) (rs:List ResultVar) (r:AV):Option (List Prop) :=
 match GD P s rs with
 | some (xs,C)=>(match (match xs with| [x]=>lI s x r|xs=>lI s (.b_ xs) r) with
  | some (ids,D)=>(match nodupB ids with|true=>some (C++D)|false=>none)
  | none=>none)
 | none=>none
section
variable {P:Program} {S0:bo} {w0 w:World} {n:Nat} {s:AS} {a:Act} {φ:Nat->Option Nat}
def nP (a:Act):ResultVar->Sem Value
 | .tmp t=>pure (a.tmps.getD t undef)
 | .cell b t=>do loadVar t (←asAddr (a.tmps.getD b undef))
theorem IG (hs:aJ S0 w0 n [] s a w φ) {x:ResultVar} {y:AV} {C:List Prop} (he:IH P s x=some (y,C)) (hC:bw C) :
  ∃v,(nP a x).run P w= .ok v w∧Den (az s.H φ) (aO S0 w φ []) w v y:=by
 cases x with
 | tmp t=>cases he;exact ⟨_,rfl,hs.get t⟩
 | cell b t =>
  simp only [IH] at he
  split at he
  ·rename_i id off hb
   split at he
   ·rename_i r hr
    have hx:=hs.get b
    rw [hb] at hx
    obtain ⟨e,m,g,hi,hv⟩:=j6 hx
    obtain ⟨r',iE,-,-,bY⟩:=aT hi
    obtain ⟨cur,te,fr,hg,hf,hle,hc⟩:=Dl hs hr bY
    have rd:∀(z:AV×List Prop) (h:Hint),pY P t r.pure r.cells off h=some z->bw z.2-> ∃v,(nP a (.cell b t)).run P w= .ok v w∧Den (az s.H φ) (aO S0 w φ []) w v z.1:=by
     intro z h hz W9
     obtain ⟨v,h1,h2⟩:=sv (I:=az s.H φ) (S:=aO S0 w φ []) hz W9 ⟨g,off,none⟩ cur.toList hle (fun j u hu=>by rw [mE,cell_of_row w g _ cur te fr hg];simpa using hu) (fun j u x hu hx=>hc j u x (by simpa using hu) hx)
     exact ⟨v,by simp only [nP];rw [hv];simp [asAddr,h1],h2⟩
    split at he
    ·rename_i tP hp
     split at he
     ·rename_i z hz
      cases he
      have hlen:=hC.1
      unfold Js at tP
      split at tP
      ·rename_i k el hu
       refine rd (.arr r.cells,[(r.cells.drop 0).take z=r.cells,r.cells.length=z]) {av:=some (.arr r.cells)} ?_ ⟨by rw [List.drop_zero,List.take_of_length_le ag],hlen,trivial⟩
       unfold pY
       rw [hz,hu,hp]
      ·cases tP
     ·cases he
    ·exact rd _ _ he hC
   ·cases he
  ·cases he
theorem yZ (hs:aJ S0 w0 n [] s a w φ):∀(l:List ResultVar) (ys:List AV) (C:List Prop),GD P s l=some (ys,C)->bw C ->
  ∃vs:List Value,(l.mapM (nP a)).run P w= .ok vs w∧vs.length=ys.length∧ ∀(j:Nat) v c,vs[j]?=some v->ys[j]?=some c->Den (az s.H φ) (aO S0 w φ []) w v c
 | [],ys,C,he,hC=>by cases he;exact ⟨[],rfl,rfl,fun j v c hv=>by simp at hv⟩
 | x::l,ys,C,he,hC=>by
  simp only [GD] at he
  split at he
  ·rename_i y C1 m D h1 h2
   cases he
   obtain ⟨iX,hD⟩:=bN.1 hC
   obtain ⟨v,OD,OC⟩:=IG hs h1 iX
   obtain ⟨vs,h3,h4,h5⟩:=yZ hs l m D h2 hD
   refine ⟨v::vs,?_,by simp [h4],fun j u c hu hc=>?_⟩
   ·rw [List.mapM_cons,Sem.run_bind,OD]
    simp only [Result.andThen_ok]
    rw [Sem.run_bind,h3]
    rfl
   ·cases j with
    | zero=>simp at hu hc;subst hu;subst hc;exact OC
    | succ j=>exact h5 j u c (by simpa using hu) (by simpa using hc)
  ·cases he
theorem Kn (hs:aJ S0 w0 n [] s a w φ) {fn:Func} {r:AV} {C:List Prop} (he:oq P s fn.results.toList r=some C) (hC:bw C) :
  ∃v O,(results fn a.tmps).run P w= .ok v w∧O.Nodup∧(∀g∈O,∃i,φ i=some g)∧tU (aO S0 w φ []) w v r O:=by
 unfold oq at he
 split at he
 ·rename_i xs C1 hr
  split at he
  ·rename_i ids D hg
   split at he
   ·rename_i hn
    cases he
    obtain ⟨iX,hD⟩:=bN.1 hC
    obtain ⟨vs,bZ,hl,hd⟩:=yZ hs _ _ _ hr iX
    have hm:(fn.results.mapM (nP a)).run P w= .ok vs.toArray w:=by
     rw [Array.mapM_eq_mapM_toList,Sem.run_map,bZ];rfl
    have JC:(results fn a.tmps).run P w= .ok (if h:vs.toArray.size=1 then vs.toArray[0] else .tuple vs.toArray) w:=by
     have he:results fn a.tmps=(do let vs ←fn.results.mapM (nP a);pure (if h:vs.size=1 then vs[0] else .tuple vs):Sem Value):=by
      unfold results
      congr 1
     rw [he,Sem.run_bind,hm]
     rfl
    refine ⟨_,blocks φ ids,JC,kt hs (iQ hn),fun g hg=>(iB hg).imp fun i h=>h.2,?_⟩
    split at hg
    ·rename_i x
     cases vs with
     | nil=>simp at hl
     | cons v vs =>
      have:vs= []:=by simpa using hl
      subst this
      exact qS hs (hd 0 v x rfl rfl) hg hD
    ·rename_i cU
     have dB:¬vs.toArray.size=1:=by
      intro h1
      have h2:xs.length=1:=by rw [←hl];simpa using h1
      obtain ⟨x,rfl⟩:=List.length_eq_one_iff.1 h2
      exact cU x rfl
     rw [dif_neg dB]
     exact qS hs (.b_ vs xs hl hd) hg hD
   ·cases he
  ·cases he
 ·cases he
end
def lq:Nat->List AV->List (Nat×AV)
 | _,[]=>[]
 | i,x::l=>(i,x)::lq (i+1) l
theorem mU:∀(l:List AV) (i j:Nat) (x:AV),look (lq i l) j=some x-> ∃k,j=i+k∧l[k]?=some x
 | [],i,j,x,h=>by cases h
 | y::l,i,j,x,h=>by
  simp only [lq,aD] at h
  by_cases e:i=j
  ·rw [if_pos e] at h;exact ⟨0,ag,by simpa using h⟩
  ·rw [if_neg e] at h
   obtain ⟨k,h1,h2⟩:=mU l (i+1) j x h
   exact ⟨k+1,ag,by simpa using h2⟩
def xl (P:Program) (rs:List ResultVar) (r:AV):Exit->AS->Prop
 | .normal,s=>∃C,oq P s rs r=some C∧bw C
 | .ret,s=>∃C,oq P s rs r=some C∧bw C
 | _,_=>False
theorem mX {P:Program} {fn:Func} {tmps:Array Value} {R:Ending->World->Prop}:∀(ms:List Nat) (w:World),ms.Nodup->(∀r∈ms,w.heap[r]?=some (.deferred (some []))) ->
  (∀w',w'.os=w.os->w'.tape=w.tape->w'.output=w.output->w'.heap.size=w.heap.size->(∀b,b ∉ ms->w'.heap[b]?=w.heap[b]?)-> ∃v,(results fn tmps).run P w'= .ok v w'∧R (.returned v) w') ->
  LeavesInM Fence.wide 0 P fn tmps R (ms.map mark) .returning w
 | [],w,_,_,h=>h w rfl rfl rfl rfl fun _ _=>rfl
 | r::ms,w,nd,hm,h=>by
  rw [List.nodup_cons] at nd
  refine ⟨by simp,.inl ⟨r,w.putObj r (.deferred none),rfl,run_takeDeferred (hm r (by simp)),?_⟩⟩
  refine mX ms _ nd.2 (fun r' iE=>?_) (fun w' h1 h2 h3 h4 h5=>h w' h1 h2 h3 (by rw [h4];exact World.putObj_size) fun b hb=>?_)
  ·rw [World.putObj_heap_other fun e=>nd.1 (by rw [←e];exact iE)];exact hm r' (by simp [iE])
  ·simp only [List.mem_cons,not_or] at hb
   rw [h5 b hb.2,World.putObj_heap_other hb.1]
theorem nv.close {Z:bo} {w w' fL:World} {n:Nat} {s:AS} {a:Act} (hd:Z.tu= []) (mo:∀b,(w.heap.size≤b∨Z.X b)->Z.S b) {S1:bo} {w1:World} {ms:List Nat} (hE:lz Z w S1 w1 ms) {φ:Nat->Option Nat} (hs:aJ S1 w1 n [] s a w' φ)
  (h1:fL.os=w'.os) (h2:fL.tape=w'.tape) (h3:fL.output=w'.output) (h4:fL.heap.size=w'.heap.size) (h5:∀b,b ∉ ms->fL.heap[b]?=w'.heap[b]?):aJ Z w n [] s ⟨a.tmps,[]⟩ fL φ:=by
 have hS:∀b,S1.S b->fL.heap[b]?=w'.heap[b]?:=fun b hb=>h5 b fun hm=>(hE.marks b hm).2.2.2.1 hb
 have hF:∀b,aO S1 w' φ [] b->aO Z fL φ [] b∧fL.heap[b]?=w'.heap[b]?:=fun b hb=>⟨⟨by rw [h4];exact hb.1,hb.2.1,hb.2.2.1,hE.sub b hb.2.2.2⟩,hS b hb.2.2.2⟩
 have bY:∀id g,φ id=some g->fL.heap[g]?=w'.heap[g]?:=fun id g hg=>hS g (hs.new g (hs.cW id g hg).1.2)
 have hL:∀id e m g,az s.H φ id=some (e,m,some g)->aY fL g=aY w' g:=fun id e m g hi=>by
  obtain ⟨_,-,-,-,hg⟩:=aT hi
  unfold aY;rw [bY id g hg]
 refine ⟨hs.j7,hd.symm,?_,fun i av hi=>(hs.cA i av hi).mono (fun _ _ h=>h) hF hL,fun id r hr=>?_,hs.only,hs.inj,fun id g hg=>⟨⟨?_,?_⟩,by rw [h4];exact (hs.cW id g hg).2⟩,fun _ _ _ h=>(by cases h),mo⟩
 ·have k:=hE.kept.trans hs.cX hE.X
  exact ⟨h1.trans k.os,h2.trans k.tape,h3.trans k.output,by rw [h4];exact k.size,fun b hb hx=>(h5 b fun hm=>by have:=(hE.marks b hm).1;omega).trans (k.block b hb hx),k.g0,k.gx⟩
 ·have aS:=hs.rows id r hr
  unfold bK at aS ⊢
  cases hg:φ id with
  | none=>rw [hg] at aS;exact aS
  | some g =>
   rw [hg] at aS
   obtain ⟨cur,te,fr,u1,u2,u3,u4,u5⟩:=aS
   refine ⟨cur,te,fr,(bY id g hg).trans u1,u2,u3,u4,fun j u x hu hx=>?_⟩
   have:=u5 j u x hu hx
   unfold bg at this ⊢
   cases hp:r.pure with
   | true=>rw [hp] at this;exact this.mono hF
   | false=>rw [hp] at this;exact this.mono (fun _ _ h=>h) hF hL
 ·exact (hs.cW id g hg).1.1.imp (fun h=>h) fun h=>by rw [←hE.fix];exact h
 ·rcases (hs.cW id g hg).1.2 with h|h
  ·exact .inl (Nat.le_trans hE.kept.size h)
  ·exact hE.X g h
theorem rj {P:Program} {f:FuncId} {fn:Func} {c:Code} {args:Array Value} {w:World} {R:Ending->World->Prop} (hf:P.funcs[f]?=some fn) (hb:fn.body=some c) {Z:bo} {n:Nat} (hd:Z.tu= []) (mo:∀b,(w.heap.size≤b∨Z.X b)->Z.S b) {Q:Exit->AS->Prop} (hQ:∀e s,Q e s->e= .normal∨e= .ret)
  (h:C8 P c (fun e a' w'=>∃s',Q e s'∧nv Z w n s' a' w') {tmps:=args++Array.replicate (fn.ntmps-args.size) undef,defers:=[]} w)
  (kv:∀e s' (a':Act) w',Q e s'->a'.defers= []->iI Z w n s' a' w'-> ∃v,(results fn a'.tmps).run P w'= .ok v w'∧R (.returned v) w'):Calls P f args w R:=by
 refine callsIn_wide.1 (callsIn_of_wp_marks (F:=Fence.wide) (n:=0) hf hb trivial ?_)
 refine wpIn_wide.2 (wp_mono (kP _ _ _ _ h) fun e a' w' ⟨s',hq,S1,w1,ms,hE,φ,hs⟩=>?_)
 have fin:LeavesInM Fence.wide 0 P fn a'.tmps R a'.defers .returning w':=by
  have O6:a'.defers=ms.map mark:=by rw [hs.j_,hE.tu,hd,List.append_nil]
  rw [O6]
  refine mX ms w' hE.nodup (fun r hr=>?_) (fun fL h1 h2 h3 h4 h5=>kv e s' ⟨a'.tmps,[]⟩ fL hq rfl ⟨φ,nv.close hd mo hE hs h1 h2 h3 h4 h5⟩)
  obtain ⟨-,k2,k3,-,k5⟩:=hE.marks r hr
  exact (hs.cX.block r k2 k5).trans k3
 rcases hQ e s' hq with rfl|rfl
 ·exact fin
 ·exact fin
theorem bA.qE {P:Program} {f:FuncId} {fn:Func} {c:Code} {args:List AV} {r:AV} (hf:P.funcs[f]?=some fn) (hb:fn.body=some c) (n:Nat) (hn:fn.ntmps=n) (iS:args.length≤n) (h:bf P n c (xl P fn.results.toList r) ⟨lq 0 args,[]⟩):bA P f args r:=by
 intro w S vs km hS hl bV
 let Z:bo:=⟨fun b=>S b∨w.heap.size≤b,fun _=>False,fun _=>none,[]⟩
 have NB:aJ Z w n [] ⟨lq 0 args,[]⟩ {tmps:=vs.toArray++Array.replicate (fn.ntmps-vs.toArray.size) undef,defers:=[]} w (fun _=>none):=by
  refine ⟨by simp;omega,rfl,⟨rfl,rfl,rfl,Nat.le_refl _,fun _ _ _=>rfl,km,fun _ _ h=>h⟩,fun i av hi=>?_,fun id r hr=>(by cases hr),fun _ _=>rfl,fun _ _ _ h=>(by cases h),fun _ _ h=>(by cases h),fun _ _ h=>(by cases h),fun b hb=>Or.inr (hb.elim id fun h=>h.elim)⟩
  obtain ⟨k,rfl,hk⟩:=mU args 0 i av hi
  have gV:k<vs.length:=by have:=(List.getElem?_eq_some_iff.1 hk).1;omega
  have hv:vs[k]?=some vs[k]:=List.getElem?_eq_getElem gV
  have e:(vs.toArray++Array.replicate (fn.ntmps-vs.toArray.size) undef).getD (0+k) undef=vs[k]:=by
   rw [Nat.zero_add,Array.getD_eq_getD_getElem?,Array.getElem?_append_left (by simpa using gV)]
   simp [gV]
  simp only [e]
  exact .rep ((bV k vs[k] av hv hk).mono fun b hb=>⟨⟨hS b hb,by simp,fun _ h=>(by cases h),Or.inl hb⟩,rfl⟩)
 refine rj hf hb (Z:=Z) rfl (fun b hb=>Or.inr (hb.elim id fun h=>h.elim)) (Q:=xl P fn.results.toList r) (fun e s hq=>by cases e<;>first|exact .inl rfl|exact .inr rfl|exact hq.elim) (h Z w _ w ⟨_,NB⟩) fun e s' a' w' hq hd ⟨φ,bT⟩=>?_
 have hq:∃C,oq P s' fn.results.toList r=some C∧bw C:=by cases e<;>first|exact hq|exact hq.elim
 obtain ⟨C,he,hC⟩:=hq
 obtain ⟨v,O,bZ,iF,hO,hg⟩:=Kn bT he hC
 refine ⟨v,bZ,v,O,rfl,bT.cX.below (fun _ h=>h),iF,fun g hg=>?_,hg.mono fun b hb=>?_⟩
 ·obtain ⟨i,hi⟩:=hO g hg
  exact ⟨(bT.cW i g hi).1.2.elim id fun h=>h.elim,(bT.cW i g hi).2⟩
 ·rcases hb.2.2.2 with h1|h1
  ·exact .inl h1
  ·exact .inr ⟨h1,hb.1,fun hm=>by obtain ⟨i,hi⟩:=hO b hm;exact hb.2.2.1 i hi⟩
def dz (fn:Func):Code:=match fn.body with|some c=>c|none=>.skip
theorem bA.I3 {P:Program} {f:FuncId} {fn:Func} {args:List AV} {r:AV} (hf:P.funcs[f]?=some fn) (hb:fn.body.isSome=true) (n:Nat) (hn:fn.ntmps=n) (iS:Nat.ble args.length n=true) (h:bf P n (dz fn) (xl P fn.results.toList r) ⟨lq 0 args,[]⟩):bA P f args r:=by
 cases vT:fn.body with
 | none=>rw [vT] at hb;cases hb
 | some c =>
  have:dz fn=c:=by unfold dz;rw [vT]
  rw [this] at h
  exact bA.qE hf vT n hn (Nat.le_of_ble_eq_true iS) h
theorem bf.nQ {P:Program} {n:Nat} {c:Code} {Q:Exit->AS->Prop} {s s':AS} {C:List Prop} (k:Nat) (l:List qd) (hk:Nat.beq l.length k=true) (he:lg P n l c s=some (s',C)) (hC:bw C) (h:bf P n (q8 k c) Q s'):bf P n c Q s:=by
 rw [←Nat.eq_of_beq_eq_true hk] at h
 exact bf.QA l he hC h
theorem xl.LL {P:Program} {rs:List ResultVar} {r:AV} {s:AS} {C:List Prop} (he:oq P s rs r=some C) (hC:bw C):xl P rs r .ret s:=⟨C,he,hC⟩
section
variable {P:Program} {n:Nat} {c:Code} {Q:Exit->AS->Prop} {K:AS->Prop} {s s1 s2:AS}
theorem bf.KR {x:Operand} {b:Bool} (hc:lJ c=some x) (hx:bq s x= .val (.bool b)) (hb:b=true) (h:bf P n (pc c) Q s):bf P n c Q s:=bf.cond hc hx (fun _=>h) (fun e=>by rw [hb] at e;cases e)
theorem bf.KS {x:Operand} {b:Bool} (hc:lJ c=some x) (hx:bq s x= .val (.bool b)) (hb:b=false) (h:bf P n (pw c) Q s):bf P n c Q s:=bf.cond hc hx (fun e=>by rw [hb] at e;cases e) (fun _=>h)
theorem bf.RX {x:Operand} {p:Prop} [Decidable p] (hc:lJ c=some x) (hx:bq s x= .val (.bool (decide p))) (ht:p->bf P n (pc c) Q s) (hf:¬p->bf P n (pw c) Q s):bf P n c Q s:=bf.cond hc hx (fun e=>ht (of_decide_eq_true e)) (fun e=>hf (of_decide_eq_false e))
theorem bf.KT {α:Type} [BEq α] [LawfulBEq α] {x:Operand} {u v:α} (hc:lJ c=some x) (hx:bq s x= .val (.bool (u == v))) (ht:u=v->bf P n (pc c) Q s) (hf:u≠v->bf P n (pw c) Q s):bf P n c Q s:=bf.cond hc hx (fun e=>ht (eq_of_beq e)) (fun e=>hf (by simpa using e))
theorem bf.RW {α:Type} [BEq α] [LawfulBEq α] {x:Operand} {u v:α} (hc:lJ c=some x) (hx:bq s x= .val (.bool (u != v))) (ht:u≠v->bf P n (pc c) Q s) (hf:u=v->bf P n (pw c) Q s):bf P n c Q s:=bf.cond hc hx (fun e=>ht (by simpa using e)) (fun e=>hf (by simpa using e))
theorem bf.join (J:AS) (hc:BP c=true) (h1:bf P n (iG c) (sQ (fun s'=>bO s' J) Q) s) (h2:bf P n (dO c) Q J):bf P n c Q s:=by
 refine bf.seq hc (h1.mono fun e s' hq=>?_)
 cases e with
 | normal=>exact bf.pA hq h2
 | _=>exact hq
theorem bf.pr {ι:Type} (J:ι->AS) (Inv:ι->Prop) (hc:BP c=true) (h1:bf P n (iG c) (sQ (fun s'=>∃x,Inv x∧bO s' (J x)) Q) s) (h2:∀x,Inv x->bf P n (dO c) Q (J x)):bf P n c Q s :=
 bf.seq hc (bf.mono h1 fun e s' h=>by
  cases e with
  | normal=>obtain ⟨x,hx,hw⟩:=h;exact bf.pA hw (h2 x hx)
  | exit _=>exact h
  | ret=>exact h
  | _=>exact h)
theorem al (h:K s):sQ K Q .normal s:=h
theorem a7 {id:Nat} (h:Q (.exit id) s):sQ K Q (.exit id) s:=h
theorem aI (h:Q .ret s):sQ K Q .ret s:=h
theorem aK {id:Nat} (h:Q .normal s):PN id Q .normal s:=h
theorem ba {id:Nat} (h:Q .ret s):PN id Q .ret s:=h
theorem bp {id:Nat} (h:Q .normal s):PN id Q (.exit id) s:=by show (if _ then _ else _);rw [if_pos rfl];exact h
theorem Nl {id i:Nat} (hi:Nat.beq i id=false) (h:Q (.exit i) s):PN id Q (.exit i) s:=by show (if _ then _ else _);rw [if_neg (Nat.ne_of_beq_eq_false hi)];exact h
theorem bO.of (l:List Wk) (he:wk l s=some s1) (e:s1=s2):bO s s2:=e ▸ xn l he
theorem aF {ι:Type} {I:ι->AS} {Inv:ι->Prop} {m:ι->Nat} {x:ι} (y:ι) (h1:Inv y) (h2:m y<m x) (h3:bO s (I y)):Round I Inv m Q x .normal s:=⟨y,h1,h2,h3⟩
theorem aP {ι:Type} {I:ι->AS} {Inv:ι->Prop} {m:ι->Nat} {x:ι} {id:Nat} (h:Q (.exit id) s):Round I Inv m Q x (.exit id) s:=h
theorem dh {ι:Type} {I:ι->AS} {Inv:ι->Prop} {m:ι->Nat} {x:ι} (h:Q .ret s):Round I Inv m Q x .ret s:=h
end
def u64 (n:Int):UInt64:=UInt64.ofInt n
def u8 (n:Int):UInt8:=UInt8.ofInt n
theorem uB (n:Int):IntKind.u64.wrap n=wv (u64 n):=by
 unfold wv u64;rw [IntKind.wrap_u64]
 simp [UInt64.ofInt]
 omega
theorem KY (n:Int):IntKind.u8.wrap n=bv (u8 n):=by
 unfold bv u8;rw [IntKind.wrap_u8]
 simp [UInt8.ofInt]
 omega
abbrev aw (x:UInt64):AV:=.val (.int .u64 (wv x))
abbrev ab (x:UInt8):AV:=.val (.int .u8 (bv x))
abbrev ai (n:Int):AV:=.val (.int .i64 n)
abbrev ao (b:Bool):AV:=.val (.bool b)
abbrev di (s:List UInt8):AV:=.val (.string ⟨s.toArray⟩)
theorem eG {n:Int} (h1: -9223372036854775808≤n) (h2:n≤9223372036854775807):AV.val (.int .i64 (IntKind.i64.wrap n))= .val (.int .i64 n):=by
 rw [show IntKind.i64.wrap n=n by rw [IntKind.wrap_i64];omega]
theorem a8 (n:Int):AV.val (.int .u64 (IntKind.u64.wrap n))=aw (u64 n):=by rw [uB]
theorem jf (n:Int):AV.val (.int .u8 (IntKind.u8.wrap n))=ab (u8 n):=by rw [KY]
theorem EU (c:UInt8):AV.val (.int .u64 (IntKind.u64.wrap (bv c)))=aw c.toUInt64:=by
 rw [RZ,show IntKind.u64.wrap (wv c.toUInt64)=wv c.toUInt64 by have:=Qr c.toUInt64;have:=M8 c.toUInt64;rw [IntKind.wrap_u64];omega]
theorem je (x y:UInt64):AV.val (.int .u64 (IntKind.u64.wrap ((BitVec.ofInt IntKind.u64.bits (wv x)&&&BitVec.ofInt IntKind.u64.bits (wv y)).toNat:Nat)))=aw (x&&&y):=congrArg (fun n=>AV.val (.int .u64 n)) (NS x y)
theorem qa (x y:UInt64):AV.val (.int .u64 (IntKind.u64.wrap ((BitVec.ofInt IntKind.u64.bits (wv x)|||BitVec.ofInt IntKind.u64.bits (wv y)).toNat:Nat)))=aw (x|||y):=congrArg (fun n=>AV.val (.int .u64 n)) (Qq x y)
theorem cH (x y:UInt64):AV.val (.int .u64 (IntKind.u64.wrap ((BitVec.ofInt IntKind.u64.bits (wv x)^^^BitVec.ofInt IntKind.u64.bits (wv y)).toNat:Nat)))=aw (x^^^y):=congrArg (fun n=>AV.val (.int .u64 n)) (NL x y)
theorem M1 (x y:UInt8):AV.val (.int .u8 (IntKind.u8.wrap ((BitVec.ofInt IntKind.u8.bits (bv x)&&&BitVec.ofInt IntKind.u8.bits (bv y)).toNat:Nat)))=ab (x&&&y):=congrArg (fun n=>AV.val (.int .u8 n)) (bv_and x y)
theorem Gg (x y:UInt8):AV.val (.int .u8 (IntKind.u8.wrap ((BitVec.ofInt IntKind.u8.bits (bv x)^^^BitVec.ofInt IntKind.u8.bits (bv y)).toNat:Nat)))=ab (x^^^y):=congrArg (fun n=>AV.val (.int .u8 n)) (PB x y)
theorem fE (x:UInt64) (n:Int) (h0:0≤n) (h1:n<64):AV.val (.int .u64 ((wv x).fdiv (2^min n.toNat IntKind.u64.bits)))=aw (x>>>UInt64.ofNat n.toNat):=by
 rw [show min n.toNat IntKind.u64.bits=n.toNat from Nat.min_eq_left (by show n.toNat≤64;omega),Int.fdiv_eq_ediv_of_nonneg _ (Int.pow_nonneg (by decide)),NM x n.toNat ag]
theorem jP (x:UInt64) (n:Int) (h0:0≤n) (h1:n<64):AV.val (.int .u64 (IntKind.u64.wrap (wv x*2^min n.toNat IntKind.u64.bits)))=aw (x<<<UInt64.ofNat n.toNat):=by
 rw [show min n.toNat IntKind.u64.bits=n.toNat from Nat.min_eq_left (by show n.toNat≤64;omega),NN x n.toNat ag]
theorem PC (x:UInt8) (k:Nat) (hk:k<8):bv x/2^k=bv (x>>>UInt8.ofNat k):=by
 unfold bv
 rw [UInt8.toNat_shiftRight,UInt8.toNat_ofNat_of_lt' (by show k<2^8;omega),Nat.mod_eq_of_lt hk,Nat.shiftRight_eq_div_pow]
 simp [Int.natCast_ediv,Int.natCast_pow]
theorem PD (x:UInt8) (k:Nat) (hk:k<8):IntKind.u8.wrap (bv x*2^k)=bv (x<<<UInt8.ofNat k):=by
 unfold bv
 rw [IntKind.wrap_u8,UInt8.toNat_shiftLeft,UInt8.toNat_ofNat_of_lt' (by show k<2^8;omega),Nat.mod_eq_of_lt hk,Nat.shiftLeft_eq]
 simp [Int.natCast_emod,Int.natCast_mul,Int.natCast_pow]
theorem MZ (x:UInt8) (n:Int) (h0:0≤n) (h1:n<8):AV.val (.int .u8 ((bv x).fdiv (2^min n.toNat IntKind.u8.bits)))=ab (x>>>UInt8.ofNat n.toNat):=by
 rw [show min n.toNat IntKind.u8.bits=n.toNat from Nat.min_eq_left (by show n.toNat≤8;omega),Int.fdiv_eq_ediv_of_nonneg _ (Int.pow_nonneg (by decide)),PC x n.toNat ag]
theorem M0 (x:UInt8) (n:Int) (h0:0≤n) (h1:n<8):AV.val (.int .u8 (IntKind.u8.wrap (bv x*2^min n.toNat IntKind.u8.bits)))=ab (x<<<UInt8.ofNat n.toNat):=by
 rw [show min n.toNat IntKind.u8.bits=n.toNat from Nat.min_eq_left (by show n.toNat≤8;omega),PD x n.toNat ag]
theorem fK (x y:UInt64):AV.val (.bool (wv x == wv y))=ao (x == y):=by rw [H7]
theorem cK (x y:UInt64):AV.val (.bool (wv x != wv y))=ao (x != y):=by rw [NR]
theorem PI (x y:UInt8):AV.val (.bool (bv x == bv y))=ao (x == y):=by rw [bv_beq]
theorem AA {a b:Int} (h:0≤a) (h1:a≤9223372036854775807) (hb:1≤b):AV.val (.int .i64 (IntKind.i64.wrap (a.tdiv b)))=ai (a/b):=by
 rw [Int.tdiv_eq_ediv_of_nonneg h]
 exact eG (by have:=Int.ediv_nonneg h (by omega:0≤b);omega) (by have:=Int.ediv_le_self b h;omega)
theorem eY (a b:List UInt8):AV.val (.bool ((⟨a.toArray⟩:ByteArray).toList == (⟨b.toArray⟩:ByteArray).toList))=ao (a == b):=by simp
theorem N8 (a b:List UInt8):AV.val (.bool (!((⟨a.toArray⟩:ByteArray).toList == (⟨b.toArray⟩:ByteArray).toList)))=ao (a != b):=by
 have:=eY a b
 injection this with this;injection this with this
 rw [this];rfl
theorem oX {l:List UInt8} {k:Nat} (h:k<l.length):(ah l)[k]?=some (ab (l.getD k 0)):=by simp [ah,h]
theorem eM {l:List UInt64} {k:Nat} (h:k<l.length):(aj l)[k]?=some (aw (l.getD k 0)):=by simp [aj,h]
theorem mn {l:List Int} {k:Nat} (h:k<l.length):(ax l)[k]?=some (ai (l.getD k 0)):=by simp [ax,h]
theorem da (a b:List UInt8):ah a++ah b=ah (a++b):=by simp [ah]
theorem jr (a b:List UInt64):aj a++aj b=aj (a++b):=by simp [aj]
theorem G3 (a b:List Int):ax a++ax b=ax (a++b):=by simp [ax]
theorem kL (a:List UInt64) (k:Nat) (c:UInt64):(aj a).set k (aw c)=aj (a.set k c):=by simp [aj,List.map_set]
theorem G2 (a:List Int) (k:Nat) (c:Int):(ax a).set k (ai c)=ax (a.set k c):=by simp [ax,List.map_set]
theorem tz (a:List UInt8) (k:Nat):(ah a).take k=ah (a.take k):=by simp [ah,List.map_take]
theorem tA (a:List UInt8) (k:Nat):(ah a).drop k=ah (a.drop k):=by simp [ah,List.map_drop]
theorem uE (n:Nat):List.replicate n (AV.val (.int .u64 0))=aj (List.replicate n 0):=by simp [aj,wv]
theorem sK {n:Int} (h1:0≤n) (h2:n<18446744073709551616):AV.val (.int .u64 (IntKind.u64.wrap n))= .val (.int .u64 n):=by
 rw [show IntKind.u64.wrap n=n by rw [IntKind.wrap_u64];omega]
def ae {T:Type} (f:T->List AV) (l:List T):List AV:=l.flatMap f
section
variable {T:Type} {f:T->List AV} {e:Nat}
theorem jA (x:T) (l:List T):ae f (x::l)=f x++ae f l:=rfl
theorem fT (a b:List T):ae f a++ae f b=ae f (a++b):=by simp [ae]
theorem KF (x:T):ae f [x]=f x:=by simp [ae]
theorem aA (he:∀x,(f x).length=e) (l:List T):(ae f l).length=l.length*e:=by
 induction l with
 | nil=>simp [ae]
 | cons x l ih=>rw [jA,List.length_append,ih,he,List.length_cons,Nat.succ_mul];omega
theorem oU (he:∀x,(f x).length=e) (l:List T) (k:Nat):(ae f l).drop (k*e)=ae f (l.drop k):=by
 induction k generalizing l with
 | zero=>simp
 | succ k ih =>
  cases l with
  | nil=>simp [ae]
  | cons x l =>
   rw [jA,List.drop_succ_cons,←ih l,Nat.succ_mul,Nat.add_comm,←List.drop_drop,List.drop_append_of_le_length (by rw [he];omega),show List.drop e (f x)= [] from List.drop_eq_nil_of_le (by rw [he];omega),List.nil_append]
theorem oT (he:∀x,(f x).length=e) (l:List T) (k:Nat):(ae f l).take (k*e)=ae f (l.take k):=by
 induction k generalizing l with
 | zero=>simp [ae]
 | succ k ih =>
  cases l with
  | nil=>simp [ae]
  | cons x l =>
   rw [jA,List.take_succ_cons,jA,←ih l,Nat.succ_mul,Nat.add_comm,List.take_append,he,show e+k*e-e=k*e by omega,List.take_of_length_le (by rw [he];omega)]
theorem jz [Inhabited T] (he:∀x,(f x).length=e) {l:List T} {k:Nat} (hk:k<l.length):((ae f l).drop (k*e)).take e=f (l.getD k default):=by
 rw [oU he,List.drop_eq_getElem_cons hk,jA,List.take_append_of_le_length (by rw [he];omega),List.take_of_length_le (by rw [he];omega)]
 simp [hk]
theorem m_ [Inhabited T] (he:∀x,(f x).length=e) {l:List T} {k j:Nat} {c:AV} (hk:k<l.length) (hj:(f (l.getD k default))[j]?=some c):(ae f l)[k*e+j]?=some c:=by
 have h1:j<e:=by
  have:=(List.getElem?_eq_some_iff.1 hj).1
  rw [he] at this;exact this
 rw [←jz he hk,List.getElem?_take_of_lt h1,List.getElem?_drop] at hj
 exact hj
theorem CB [Inhabited T] (he:∀x,(f x).length=e) {l:List T} {k j z:Nat} {cs:List AV} (hk:k<l.length) (hz:j+z≤e) (hj:((f (l.getD k default)).drop j).take z=cs):((ae f l).drop (k*e+j)).take z=cs:=by
 rw [←hj,←jz he hk,List.drop_take,List.take_take,Nat.min_eq_left ag,List.drop_drop]
theorem dJ (hf:∀x,cC (f x)) (l:List T):cC (ae f l):=by
 intro x hx
 simp only [ae,List.mem_flatMap] at hx
 obtain ⟨y,_,h⟩:=hx
 exact hf y x h
end
theorem bA.len {P:Program} {f:FuncId} {args:List AV} {r:AV} (i:Nat) {e:Nat} {row:List AV} (hi:args[i]?=some (.sl e row)) (h:row.length≤e*9223372036854775807->bA P f args r):bA P f args r:=by
 intro w S vs km hS hl hr
 have cZ:i<vs.length:=by rw [hl];exact (List.getElem?_eq_some_iff.1 hi).1
 have bV:=hr i vs[i] _ (List.getElem?_eq_getElem cZ) hi
 refine h ?_ w S vs km hS hl hr
 generalize vs[i]=v at bV
 cases bV with
 | sl A n c e us row hl hn hc hm ha h =>
  rw [hn]
  refine Nat.mul_le_mul_left e ?_
  simp only [maxLen] at hm
  omega
theorem u9 {α:Type} (g:Nat->α) (j:Nat):(List.range j).map g++ [g j]=(List.range (j+1)).map g:=by rw [List.range_succ,List.map_append];rfl
theorem fS {T:Type} {f:T->List AV} (l:List T) (x:T):ae f l++f x=ae f (l++ [x]):=by rw [←fT,KF]
theorem HB {T:Type} {f:T->List AV} (g:Nat->T) (j:Nat):ae f ((List.range j).map g)++f (g j)=ae f ((List.range (j+1)).map g):=by rw [fS,u9]
end Go.Proofs.YtjgbhhnghedgdaaGreatDoor
namespace Go.Proofs.YtjgbhhnghedgdaaGreatDoor
open Go.RowKit Go.ChangeShapes Go.WideShapes Go.ChangeAt
def pz (P:Program) (t:TypeId) {T:Type} (f:T->List AV) (ok:T->Prop):Prop :=
 ∀(H:Type) (enc:TypeId×Value->H) (w:World) (fuel:Nat) (cs:List Value) (x:DataW H×List MemPlace),DataW.trod enc P w 0 (fun _=>true) true fuel t cs=some x ->
  ∃a,ok a∧(f a).length=cs.length∧ ∀(j:Nat) u y,cs[j]?=some u->(f a)[j]?=some y->cz (fun b=>b<w.heap.size) w u y
def R5 (P:Program) (t:TypeId) {T:Type} (g:T->AV) (ok:T->Prop):Prop :=
 ∀(H:Type) (enc:TypeId×Value->H) (w:World) (base:Nat) (v:Value) (d:DataW H) (ps:List MemPlace),Value.okWide P w .any base t v->DataW.Trod enc P w 0 (fun _=>true) true t v d ps ->
  ∃a,ok a∧cz (fun b=>b<w.heap.size) w v (g a)
section
variable {P:Program} {t:TypeId} {T T':Type} {f:T->List AV} {ok:T->Prop}
theorem pz.map (h:pz P t f ok) (g:T->T') {f':T'->List AV} {UO:T'->Prop} (hf:∀a,ok a->f' (g a)=f a) (ho:∀a,ok a->UO (g a)):pz P t f' UO:=by
 intro H enc w fuel cs x hx
 obtain ⟨a,h1,h2,h3⟩:=h H enc w fuel cs x hx
 exact ⟨g a,ho a h1,by rw [hf a h1];exact h2,by rw [hf a h1];exact h3⟩
theorem pJ {S:Nat->Prop} {w:World} {v:Value} {x:AV} (h:cz S w v x) (j:Nat) (u:Value) (y:AV) (hu:[v][j]?=some u) (hy:[x][j]?=some y):cz S w u y:=by
 cases j with
 | zero=>simp at hu hy;subst hu hy;exact h
 | succ j=>simp at hu
abbrev BR (n:Int):Prop:= -9223372036854775808≤n∧n≤9223372036854775807
theorem IU (ht:P.underlying t=some (.int .i64)):pz P t (fun c:Int=>[ai c]) BR:=by
 intro H enc w fuel cs x hx
 obtain ⟨n,rfl,_,hw⟩:=DataW.trod_int ht hx
 refine ⟨n,?_,rfl,pJ (.val _)⟩
 simpa [Lit.wf,IntKind.min,IntKind.max,IntKind.signed,IntKind.bits] using hw
theorem Jd {α β:Type} {g:α->Option β}:∀ {l:List α} {m:List β},l.mapM g=some m->m.length=l.length∧ ∀(i:Nat) (a:α),l[i]?=some a->g a=m[i]?:=by
 intro l
 induction l with
 | nil=>intro m h;simp at h;subst h;simp
 | cons a l ih =>
  intro m h
  simp only [List.mapM_cons,Option.bind_eq_bind,Option.bind_eq_some_iff,Option.pure_def,Option.some.injEq] at h
  obtain ⟨b,hb,m',hm,rfl⟩:=h
  obtain ⟨h1,h2⟩:=ih hm
  refine ⟨by simp [h1],fun i x hx=>?_⟩
  cases i with
  | zero=>simp at hx;subst hx;simpa using hb
  | succ i=>simpa using h2 i x (by simpa using hx)
theorem KX {w:World} {ad:Addr} {n:Nat} {cs:List Value} (h:w.cells? 0 ad n=some cs):cs.length=n∧ ∀j,j<n->w.cell? (ad.add j)=cs[j]?:=by
 simp only [World.cells?,Nat.zero_le,if_true] at h
 obtain ⟨h1,h2⟩:=Jd h
 exact ⟨by simpa using h1,fun j hj=>h2 j j (by simp [hj])⟩
theorem EA {H:Type} {enc:TypeId×Value->H} {w:World} {fuel e:Nat} (hC:pz P t f ok) (ad:Addr):∀(n:Nat) (elems:List (DataW H×List MemPlace)),n≤elems.length ->
  (∀i,i<n->(w.cells? 0 (ad.add (i*e)) e).bind (DataW.trod enc P w 0 (fun _=>true) true fuel t)=elems[i]?) ->
  ∃(l:List T) (us:List Value),l.length=n∧(∀a∈l,ok a)∧us.length=n*e∧(ae f l).length=n*e∧(∀(j:Nat) u,us[j]?=some u->w.cell? (ad.add j)=some u)∧ ∀(j:Nat) u y,us[j]?=some u->(ae f l)[j]?=some y->cz (fun b=>b<w.heap.size) w u y:=by
 intro n
 induction n with
 | zero=>intro elems _ _;exact ⟨[],[],rfl,by simp,by simp,by simp [ae],by simp,by simp⟩
 | succ n ih =>
  intro elems hn OX
  obtain ⟨l,us,h1,h2,h3,h4,h5,h6⟩:=ih elems ag (fun i hi=>OX i ag)
  have hx:=OX n ag
  rw [List.getElem?_eq_getElem ag] at hx
  rw [Option.bind_eq_some_iff] at hx
  obtain ⟨cs,x8,V7⟩:=hx
  obtain ⟨gC,WQ⟩:=KX x8
  obtain ⟨a,ha,vO,gZ⟩:=hC H enc w fuel cs _ V7
  refine ⟨l++ [a],us++cs,by simp [h1],?_,?_,?_,?_,?_⟩
  ·intro b hb
   rcases List.mem_append.1 hb with hb|hb
   ·exact h2 b hb
   ·simp at hb;subst hb;exact ha
  ·rw [List.length_append,h3,gC,Nat.add_mul];omega
  ·rw [←fS,List.length_append,h4,vO,gC,Nat.add_mul];omega
  ·intro j u hu
   by_cases hj:j<us.length
   ·rw [List.getElem?_append_left hj] at hu;exact h5 j u hu
   ·rw [List.getElem?_append_right ag] at hu
    have cZ:j-us.length<e:=by
     have:=(List.getElem?_eq_some_iff.1 hu).1;omega
    have:=WQ (j-us.length) cZ
    rw [hu,Addr.add_add] at this
    rw [←this];congr 2;omega
  ·intro j u y hu hy
   rw [←fS] at hy
   by_cases hj:j<us.length
   ·rw [List.getElem?_append_left hj] at hu
    rw [List.getElem?_append_left ag] at hy
    exact h6 j u y hu hy
   ·rw [List.getElem?_append_right ag] at hu
    rw [List.getElem?_append_right ag,h4,←h3] at hy
    exact gZ _ u y hu hy
theorem Dr {te:TypeId} {e:Nat} (ht:P.underlying t=some (.slice te)) (he:P.cellsOf te=e) (hC:pz P te f ok):pz P t (fun l:List T=>[.sl e (ae f l)]) (fun l=>∀a∈l,ok a):=by
 intro H enc w fuel cs x hx
 rcases DataW.trod_slice ht hx with ⟨rfl,_⟩|⟨a,len,cap,elems,rest,n,_,rfl,PV,_,G8,ue,OX,ic,_,_⟩
 ·exact ⟨[],by simp,rfl,pJ (i4 none 0 0 e (by simp) (Nat.le_refl _) (by simp))⟩
 ·rw [he] at ic
  obtain ⟨l,us,h1,h2,h3,h4,h5,h6⟩:=EA hC a len elems ag ic
  refine ⟨l,h2,rfl,pJ (.sl _ _ _ _ us _ (h3.trans h4.symm) (by rw [h4,Nat.mul_comm]) G8 ue (fun h0=>⟨a,rfl,?_,h5⟩) h6)⟩
  have hu:0<us.length:=ag
  have:=h5 0 us[0] (List.getElem?_eq_getElem hu)
  have hb:w.heap[(a.add 0).block]?≠none:=by
   intro hn
   rw [World.cell?,hn] at this
   cases this
  rw [hU] at hb
  exact Nat.lt_of_not_le fun hle=>hb (Array.getElem?_eq_none hle)
def QG (P:Program) (t:TypeId):Bool:=match P.underlying t with|some (.int _)|some .string|some .bool|some (.slice _)=>true|_=>false
theorem pz.one {g:T->AV} (h:pz P t (fun a=>[g a]) ok) (ht:QG P t=true):R5 P t g ok:=by
 intro H enc w base v d ps hv hd
 obtain ⟨fuel,hd⟩:=hd
 have hc:v.cells= #[v]:=by
  simp only [QG] at ht
  split at ht
  ·rename_i hu;obtain ⟨n,rfl⟩:=okWide_int hu hv;rfl
  ·rename_i hu
   simp only [Value.okWide,hu,Cell.okWide] at hv
   cases v<;>simp_all [Cell.ok]
   rfl
  ·rename_i hu
   simp only [Value.okWide,hu,Cell.okWide] at hv
   cases v<;>simp_all [Cell.ok]
   rfl
  ·rename_i hu;obtain ⟨_,_,_,rfl⟩:=okWide_slice hu hv;rfl
  ·cases ht
 rw [hc] at hd
 obtain ⟨a,h1,h2,h3⟩:=h H enc w fuel _ _ hd
 exact ⟨a,h1,h3 0 _ _ rfl rfl⟩
theorem HF (l:List Int):ae (fun c:Int=>[ai c]) l=ax l:=by
 induction l with
 | nil=>rfl
 | cons c l ih=>rw [jA,ih];rfl
theorem rQ {te:TypeId} (ht:P.underlying t=some (.slice te)) (he:P.underlying te=some (.int .i64)) (hc:P.cellsOf te=1):pz P t (fun l:List Int=>[.sl 1 (ax l)]) (fun l=>∀n∈l,BR n) :=
 (Dr ht hc (IU he)).map id (fun l _=>by rw [HF];rfl) (fun _ h=>h)
end
theorem bA.law {P:Program} {f:FuncId} {args:List AV} (h:bA P f args (ao true)) (w:World) (km:Good w) (vs:List Value) (hl:vs.length=args.length) (hr:∀(j:Nat) v x,vs[j]?=some v->args[j]?=some x->cz (fun b=>b<w.heap.size) w v x) :
  Calls P f vs.toArray w fun e w'=>e= .returned (.bool true)∧Below w.heap.size w w':=by
 refine (h w (fun b=>b<w.heap.size) vs km (fun _ h=>h) hl hr).mono fun e w' ⟨v,O,he,hb,_,_,hg⟩=>⟨?_,hb⟩
 subst he
 rcases hg with hg|⟨_,_,_,hx,_⟩
 ·rcases hg with hg|⟨_,_,_,hx,_⟩
  ·cases hg with
   | rep bV=>cases bV;rfl
  ·cases hx
 ·cases hx
theorem LN (S:Nat->Prop) (w:World) (j:Nat) (v:Value) (x:AV) (h:([]:List Value)[j]?=some v) (_:([]:List AV)[j]?=some x):cz S w v x:=by simp at h
theorem uW {S:Nat->Prop} {w:World} {v:Value} {x:AV} {vs:List Value} {xs:List AV} (h:cz S w v x) (h2:∀(j:Nat) v x,vs[j]?=some v->xs[j]?=some x->cz S w v x) (j:Nat) (u:Value) (y:AV) (hu:(v::vs)[j]?=some u) (hy:(x::xs)[j]?=some y):cz S w u y:=by
 cases j with
 | zero=>simp at hu hy;subst hu hy;exact h
 | succ j=>exact h2 j u y (by simpa using hu) (by simpa using hy)
theorem Below.Ih {H:Type} {enc:TypeId×Value->H} {P:Program} (hl:laidOutB P=true) {W W':World} (hb:Below W.heap.size W W'):∀(ts:List TypeId) (vs:List Value) (ds:List (DataW H)) (ps:List MemPlace),(ts.all fun t=>P.readableRec t && decide (t<P.types.size))=true ->
  DataW.TrodAll enc P W 0 (fun _=>true) true ts vs ds ps->DataW.TrodAll enc P W' 0 (fun b=>decide (b<W.heap.size)) true ts vs ds ps:=by
 intro ts
 induction ts with
 | nil=>intro vs ds ps _ h;cases vs<;>cases ds<;>simp_all [DataW.TrodAll]
 | cons t ts ih =>
  intro vs ds ps hr h
  rw [List.all_cons,Bool.and_eq_true,Bool.and_eq_true] at hr
  obtain ⟨v,XB,d,X4,p,q,rfl,rfl,rfl,h1,h2⟩:=trodAll_cons h
  have lt:∀x∈p,x.block<W.heap.size:=by obtain ⟨m,hm⟩:=h1;exact DataW.trod_lt m _ _ _ hm
  exact ⟨p,q,Below.trod hl hr.1.1 (of_decide_eq_true hr.1.2) h1 hb lt,ih _ _ _ hr.2 h2,rfl⟩
end Go.Proofs.YtjgbhhnghedgdaaGreatDoor
