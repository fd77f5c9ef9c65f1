import Derived.Test.YtjgbhhnghedgdaaGreatDoorZvRL
import Derived.Orders
import Derived.Tactics
import Derived.WalkKit
import Derived.ProofKit
import Derived.OpenShut
import Derived.ShutString
import Derived.ChangeOld
import Derived.Below
import Derived.RangeFuncRecord
set_option linter.all false
namespace Go.Proofs.YtjgbhhnghedgdaaGreatDoor
open Go.RowKit
def DB (P:Program) (n:Nat) (s:AS) (d:Option Nat) (src dst id:Nat):Option (AS×List Prop) :=
 match look s.H id,P.underlying src with
 | some ⟨e,true,_,cells⟩,some (.slice el)=>(match P.underlying el,Nat.beq src dst with
  | some (.int .u8),true=>(match fO n (ck id s) d (.sl e cells) with|some s'=>some (s',[0<cells.length])|none=>none)
  | _,_=>none)
 | _,_=>none
section
variable {P:Program} {n:Nat} {s:AS} {o:Oper} {h:Hint} {q:AS×List Prop}
theorem zu {w:World} {g:Nat} {cur:Array Value} {te:TypeId} {fr:Nat×Nat} (hg:w.heap[g]?=some (.cells cur te fr)) (k:Nat):(∃RX,(w.freeze ⟨g,k,none⟩ 1).heap[g]?=some (.cells cur te RX))∧(w.freeze ⟨g,k,none⟩ 1).heap.size=w.heap.size∧(∀b,b≠g->(w.freeze ⟨g,k,none⟩ 1).heap[b]?=w.heap[b]?)∧(w.freeze ⟨g,k,none⟩ 1).os=w.os∧(w.freeze ⟨g,k,none⟩ 1).tape=w.tape∧(w.freeze ⟨g,k,none⟩ 1).output=w.output:=by
 unfold World.freeze
 rw [if_neg (by decide)]
 obtain ⟨lo,hi⟩:=fr
 refine ⟨⟨if lo == hi then (k,k+1) else (min lo k,max hi (k+1)),?_⟩,by simp,fun b hb=>?_,rfl,rfl,rfl⟩
 ·simp only [Array.getElem?_modify,if_true,hg,Option.map_some]
 ·simp only [Array.getElem?_modify]
  rw [if_neg (fun e=>hb e.symm)]
theorem run_mark {w:World} {t e:TypeId} {g l c:Nat} {cur:Array Value} {te:TypeId} {fr:Nat×Nat} (ht:P.underlying t=some (.slice e)) (he:P.underlying e=some (.int .u8)) (hg:w.heap[g]?=some (.cells cur te fr)) :
  (convert t t (.slice (some ⟨g,0,none⟩) l c)).run P w= .ok (.slice (some ⟨g,0,none⟩) l c) (w.freeze ⟨g,cur.size,none⟩ 1):=by
 have Df:w.shape? g=some (te,cur.size):=by unfold World.shape?;rw [hg]
 simp [convert,run_underlying ht,run_underlying he,markStringish,Df]
theorem GH {src dst id:Nat} {x:Operand} (ho:o.op= .convert src dst x) (hx:bq s x= .ref id) (hr:DB P n s o.dst src dst id=some q):mK P n s o q.1 q.2:=by
 intro hC S0 w0 a w Q ⟨φ,hs⟩
 unfold DB at hr
 split at hr
 ·rename_i e f cells el l3 hu
  split at hr
  ·rename_i he hb
   split at hr
   ·rename_i s' ea
    injection hr with hr;subst hr
    have VO:=Nat.eq_of_beq_eq_true hb
    subst VO
    have Qr:0<cells.length:=hC.1
    have dx:=hs.bq x
    rw [hx] at dx
    generalize hv:a.eval x=v at dx
    cases dx with
    | rep bU=>cases bU
    | cm _ e' hi =>
     have oh:=bt (φ:=φ) l3
     rw [hi] at oh
     simp at oh
     omega
    | ref _ e' m g l c hi hm hc Hf bY =>
     have oh:=bt (φ:=φ) l3
     rw [hi] at oh
     simp at oh
     obtain ⟨h1,h2,h3⟩:=oh
     subst h1 h2
     have bW:φ id=some g:=h3.symm
     have aQ:=hs.rows id _ l3
     unfold bJ at aQ
     rw [bW] at aQ
     obtain ⟨cur,te,fr,hg,hf,hle,-,bw⟩:=aQ
     obtain ⟨⟨RX,k1⟩,k2,k3,k4,k5,k6⟩:=zu hg cur.size
     have bT:(execOp a.eval o).run P w= .ok (.value (.slice (some ⟨g,0,none⟩) l c)) (w.freeze ⟨g,cur.size,none⟩ 1):=by
      unfold execOp;simp only [ho,hv,Sem.run_bind,run_mark hu he hg,Result.andThen_ok];rfl
     refine cN bT ⟨erase φ id,?_⟩
     have r1:=hs.jJ id [g] (by rw [bW])
     have r2:=r1.xn (w':=w.freeze ⟨g,cur.size,none⟩ 1) (fun g' jq=>by simp at jq;rw [jq];exact (hs.cY id g bW).1.2) k4 k5 k6 ag (fun b _ hn=>k3 b (by simpa using hn))
     have r3:=r2.vV
     refine dU r3 (.rep ?_) ea
     have vJ:aP S0 (w.freeze ⟨g,cur.size,none⟩ 1) (erase φ id) [] g:=⟨by rw [k2];exact (hs.cY id g bW).2,by simp,fun i hi=>by
      unfold erase at hi
      split at hi
      ·cases hi
      ·rename_i cS;exact cS (hs.inj i id g hi bW),hs.new g (hs.cY id g bW).1.2⟩
     refine fq (r:=⟨e',true,f,cells⟩) k1 vJ cells 0 (by simpa using hle) hm hc Hf _ (fun _=>rfl) (fun j u y hu hy=>?_)
     have U1:=bw j u y (by simpa using hu) hy
     unfold bh at U1
     refine cz.mono (fun b hb=>?_) U1
     have cS:b≠g:=fun e=>hb.2.2.1 id (by rw [bW,e])
     refine ⟨⟨by rw [k2];exact hb.1,by simp,fun i hi=>?_,hb.2.2.2⟩,k3 b cS⟩
     unfold erase at hi
     split at hi
     ·cases hi
     ·exact hb.2.2.1 i hi
   ·cases hr
  ·cases hr
 ·cases hr
end
def B8 (P:Program) (n:Nat) (s:AS) (o:Oper) (h:Hint):Option (AS×List Prop) :=
 match qS P s o h with
 | some (x,C)=>(match fO n s o.dst x with|some s'=>some (s',C)|none=>none)
 | none=>none
def B9 (P:Program) (n:Nat) (s:AS) (o:Oper) (h:Hint):Option (AS×List Prop) :=
 match o.op with
 | .alloc t=>(match o.dst with|some d=>oZ P n s d t h|none=>none)
 | .box t x=>(match o.dst with|some d=>JQ P n s d t (bq s x)|none=>none)
 | .buildSlice t len parts=>(match o.dst with|some d=>wg P n s d t len parts.toList h|none=>none)
 | .makeSlice t l c=>(match bq s l,bq s c,o.dst with| .val (.int _ L),.val (.int _ C),some d=>DC P n s d t L C h|_,_,_=>none)
 | .convert src dst x=>(match bq s x,P.underlying dst,o.dst with
  | .val (.string b),some (.slice _),some d=>z_ P n s d src dst b
  | .ref id,some (.slice _),_=>DB P n s o.dst src dst id
  | _,_,_=>B8 P n s o h)
 | .store t x y=>(match o.dst with|none=>zy P s t x y h|some _=>none)
 | .call ⟨.builtin .append,⟨[x,y]⟩,⟨[t,xt]⟩⟩=>(match o.dst with|some d=>ll P n s d t xt (bq s x) (bq s y) h|none=>none)
 | .call ⟨.builtin .copy,⟨[x,y]⟩,⟨[t,xt]⟩⟩=>DO P n s o.dst t xt (bq s x) (bq s y) h
 | .call ⟨.builtin _,_,_⟩=>B8 P n s o h
 | .call ⟨c,xs,_⟩=>(match h.ln with| []=>(match callee s c with|some _=>su P n s o.dst c xs.toList h|none=>z8 P n s o.dst c xs.toList h)|_=>oY P n s o.dst c xs.toList h)
 | .makeFunc (.func f) ⟨[]⟩ ⟨xs⟩=>(match o.dst with|some d=>DF n s d f xs|none=>none)
 | _=>B8 P n s o h
section
variable {P:Program} {n:Nat} {s:AS} {o:Oper} {h:Hint} {q:AS×List Prop}
theorem wa (hr:B8 P n s o h=some q):mK P n s o q.1 q.2:=by
 unfold B8 at hr
 split at hr
 ·rename_i x C hp
  split at hr
  ·rename_i s' bY
   cases hr
   exact Ig (lk hp) bY
  ·cases hr
 ·cases hr
theorem oX (hr:B9 P n s o h=some q):mK P n s o q.1 q.2:=by
 unfold B9 at hr
 split at hr
 ·rename_i ho
  split at hr
  ·rename_i hd;exact wo ho hd hr
  ·cases hr
 ·rename_i ho
  split at hr
  ·rename_i hd;exact JP ho hd hr
  ·cases hr
 ·rename_i ho
  split at hr
  ·rename_i hd;exact B_ ho hd hr
  ·cases hr
 ·rename_i ho
  split at hr
  ·rename_i hl hc hd;exact GI ho hl hc hd hr
  ·cases hr
 ·rename_i ho
  split at hr
  ·rename_i hx _ hd;exact DR ho hx hd hr
  ·rename_i hx _;exact GH ho hx hr
  ·exact wa hr
 ·rename_i ho
  split at hr
  ·rename_i hd;exact Dy ho hd hr
  ·cases hr
 ·rename_i ho
  split at hr
  ·rename_i hd;exact tp ho hd hr
  ·cases hr
 ·rename_i ho;exact GN ho hr
 ·exact wa hr
 ·rename_i ho
  split at hr
  ·split at hr
   ·exact xZ ho hr
   ·exact DQ ho hr
  ·exact wm ho hr
 ·rename_i ho
  split at hr
  ·rename_i hd;exact GL ho hd hr
  ·cases hr
 ·exact wa hr
end
def T8 (P:Program) (n:Nat) (ops:List Oper) (s:AS) (o:Oper) (h:Hint):Option (AS×List Prop) :=
 match o.guard with
 | none=>B9 P n s o h
 | some (j,want)=>(match ops[j]? with
  | some p=>(match p.dst with
   | some d=>(match ka s d with
    | .val (.bool b)=>(match h.g == want with
     | true=>(match B9 P n s o h with|some (s',C)=>some (s',(b=h.g)::C)|none=>none)
     | false=>(match fO n s o.dst (.val (.tuple #[])) with|some s'=>some (s',[b=h.g])|none=>none))
    | .val (.tuple _)=>(match fO n s o.dst (.val (.tuple #[])) with|some s'=>some (s',[])|none=>none)
    | _=>none)
   | none=>none)
  | none=>none)
def gL (hs:List (Nat×Hint)) (i:Nat):Hint:=match look hs i with|some h=>h|none=>{}
def kp (P:Program) (n:Nat) (ops:List Oper) (hs:List (Nat×Hint)):List Oper->Nat->AS->Option (AS×List Prop)
 | [],_,s=>some (s,[])
 | o::l,i,s=>match T8 P n ops s o (gL hs i) with
  | some (s1,C)=>(match kp P n ops hs l (i+1) s1 with|some (s2,D)=>some (s2,C++D)|none=>none)
  | none=>none
section
variable {P:Program} {n:Nat} {ops:List Oper} {S0:bn} {w0:World} {Q:Exit->Act->World->Prop}
theorem qZ {I:Info} {S:Nat->Prop} {w:World} {a:Act} {d:Nat} {b:Bool} (h:Den I S w (a.tmps.getD d undef) (.val (.bool b))):a.tmps[d]?=some (.bool b):=by
 have h':=bF h
 cases ht:a.tmps[d]? with
 | none=>simp [ht,undef] at h'
 | some u=>simp [ht] at h';rw [h']
theorem mP {a:Act} {j d:Nat} {p:Oper} {b:Bool} (hp:ops[j]?=some p) (hd:p.dst=some d) (ht:a.tmps[d]?=some (.bool b)):yielded ops.toArray a.tmps j=some b:=by
 unfold yielded
 simp [hp,hd,ht]
theorem mO {a:Act} {j d:Nat} {p:Oper} {arr:Array Value} (hp:ops[j]?=some p) (hd:p.dst=some d) (ht:a.tmps.getD d undef= .tuple arr):yielded ops.toArray a.tmps j=none:=by
 unfold yielded
 simp only [List.getElem?_toArray,hp,Option.bind_some,hd]
 rw [Array.getD_eq_getD_getElem?] at ht
 cases h:a.tmps[d]? with
 | none=>rfl
 | some u=>rw [h] at ht;simp at ht;rw [ht]
theorem JO {s:AS} {o:Oper} {h:Hint} {q:AS×List Prop} (hr:T8 P n ops s o h=some q) (hC:bx q.2) {a:Act} {w:World} (hs:ie S0 w0 n s a w) (K:Act->World->Prop) (hK:∀a' w',ie S0 w0 n q.1 a' w'->K a' w') :
  if Region.wanted o (yielded ops.toArray a.tmps) then o.wp P a w K Q∨(o.asks P a w∧LetsOut Q) else K (a.put o.dst undef) w:=by
 unfold T8 at hr
 split at hr
 ·rename_i hg
  have hw:Region.wanted o (yielded ops.toArray a.tmps)=true:=by unfold Region.wanted;rw [hg]
  rw [if_pos hw]
  exact .inl (Oper.wp_mono hK (oX hr hC S0 w0 a w Q hs))
 ·rename_i j want hg
  split at hr
  ·rename_i p hp
   split at hr
   ·rename_i d hd
    split at hr
    ·rename_i b hb
     obtain ⟨φ,bY⟩:=hs
     have ht:=bY.get d
     rw [hb] at ht
     have hy:=mP (ops:=ops) hp hd (qZ ht)
     split at hr
     ·rename_i kj
      split at hr
      ·rename_i s' C he
       cases hr
       obtain ⟨Gv,hC⟩:=hC
       have hw:Region.wanted o (yielded ops.toArray a.tmps)=true:=by
        unfold Region.wanted;rw [hg];simp only [hy,Gv]
        have:h.g=want:=by simpa using kj
        rw [this];simp
       rw [if_pos hw]
       exact .inl (Oper.wp_mono hK (oX he hC S0 w0 a w Q ⟨φ,bY⟩))
      ·cases hr
     ·rename_i kj
      split at hr
      ·rename_i s' E_
       cases hr
       obtain ⟨Gv,-⟩:=hC
       have hw:¬Region.wanted o (yielded ops.toArray a.tmps)=true:=by
        unfold Region.wanted;rw [hg];simp only [hy,Gv]
        have:¬h.g=want:=by simpa using kj
        simpa using this
       rw [if_neg hw]
       exact hK _ _ ⟨φ,dU bY (.rep (.val _)) E_⟩
      ·cases hr
    ·rename_i arr hb
     obtain ⟨φ,bY⟩:=hs
     have ht:=bY.get d
     rw [hb] at ht
     have hy:=mO (ops:=ops) hp hd (bF ht)
     split at hr
     ·rename_i s' E_
      cases hr
      have hw:¬Region.wanted o (yielded ops.toArray a.tmps)=true:=by
       unfold Region.wanted;rw [hg];simp [hy]
      rw [if_neg hw]
      exact hK _ _ ⟨φ,dU bY (.rep (.val _)) E_⟩
     ·cases hr
    ·cases hr
   ·cases hr
  ·cases hr
theorem j0 {hs:List (Nat×Hint)}:∀(l:List Oper) (i:Nat) (s s':AS) (C:List Prop),kp P n ops hs l i s=some (s',C)->bx C-> ∀(a:Act) (w:World),ie S0 w0 n s a w->(∀a' w',ie S0 w0 n s' a' w'->Q .normal a' w')->wpList P ops.toArray Q l a w
 | [],i,s,s',C,he,hC,a,w,hs,hQ=>by cases he;exact hQ a w hs
 | o::l,i,s,s',C,he,hC,a,w,hs,hQ=>by
  simp only [kp] at he
  split at he
  ·rename_i s1 C1 h1
   split at he
   ·rename_i s2 D h2
    cases he
    obtain ⟨i3,hD⟩:=bO.1 hC
    have:=JO (S0:=S0) (w0:=w0) (Q:=Q) h1 i3 hs (wpList P ops.toArray Q l) (fun a' w' h'=>j0 l (i+1) s1 s' D h2 hD a' w' h' hQ)
    unfold wpList
    exact this
   ·cases he
  ·cases he
end
def Jx:AV->AV
 | .own e row=>.sl e row
 | .box row=>.ptr row 0
 | x=>x
def GA:AV->AV
 | .agg cs=>.agg (cs.map Jx)
 | x=>Jx x
def Pr:AV->AV
 | .cw cs=>.cw (cs.map GA)
 | x=>GA x
section
variable {S S':Nat->Prop} {w:World}
theorem zt (hS:∀b,S b->S' b) {v:Value} {x:AV} {O:List Nat} (hO:∀g∈O,S' g) (h:iv S w v x O):cz S' w v (Jx x):=by
 cases h with
 | rep h =>
  have:=h.mono fun b hb=>⟨hS b hb,rfl⟩
  cases h<;>exact this
 | nil e=>exact i9 none 0 0 e (by simp) (by simp) (by simp)
 | own g l c e row cur te fr hg hf hl hc hm hs h =>
  exact fq (r:=⟨e,true,false,row⟩) hg (hO g (by simp)) row 0 (by rw [hl,hs,Nat.zero_add];exact Nat.mul_le_mul_left _ hc) hl hc hm _ (fun _=>rfl) (fun j u x hu hx=>(h j u x (by simpa using hu) hx).mono fun b hb=>⟨hS b hb,rfl⟩)
 | box g row cur te fr hg hf hs h =>
  exact pN (off:=0) hg (hO g (by simp)) row ag (fun j u x hu hx=>(h j u x hu hx).mono fun b hb=>⟨hS b hb,rfl⟩)
theorem Fm {R:Value->AV->List Nat->Prop} {f:AV->AV} (hR:∀v x O,(∀g∈O,S' g)->R v x O->cz S' w v (f x)) {vs:List Value} {xs:List AV} {O:List Nat} (h:ly R vs xs O):(∀g∈O,S' g)->vs.length=(xs.map f).length∧ ∀(j:Nat) v c,vs[j]?=some v->(xs.map f)[j]?=some c->cz S' w v c:=by
 induction h with
 | nil=>intro _;exact ⟨rfl,fun j v c hv=>by simp at hv⟩
 | cons h _ ih =>
  intro hO
  obtain ⟨h1,h2⟩:=ih fun g hg=>hO g (by simp [hg])
  refine ⟨by simpa using h1,fun j v c hv hc=>?_⟩
  cases j with
  | zero=>simp at hv hc;subst hv;subst hc;exact hR _ _ _ (fun g hg=>hO g (by simp [hg])) h
  | succ j=>exact h2 j v c (by simpa using hv) (by simpa using hc)
theorem zr (hS:∀b,S b->S' b) {v:Value} {x:AV} {O:List Nat} (hO:∀g∈O,S' g) (h:oG S w v x O):cz S' w v (GA x):=by
 rcases h with h|⟨vs,cs,rfl,rfl,hL⟩
 ·by_cases hx:∃cs,x= .agg cs
  ·obtain ⟨cs,rfl⟩:=hx
   cases h with
   | rep h=>cases h with
    | agg vs _ hl h =>
     refine .agg vs _ (by simpa using hl) fun j v c hv hc=>?_
     rw [List.getElem?_map] at hc
     cases hj:cs[j]? with
     | none=>rw [hj] at hc;cases hc
     | some y=>rw [hj] at hc;injection hc with hc;subst hc;exact zt hS (O:=[]) (by simp) (.rep (h j v y hv hj))
  ·have:GA x=Jx x:=by
    cases x with
    | agg cs=>exact absurd ⟨cs,rfl⟩ hx
    | _=>rfl
   rw [this];exact zt hS hO h
 ·obtain ⟨h1,h2⟩:=Fm (S':=S') (f:=Jx) (fun v x O hO h=>zt hS hO h) hL hO
  exact .agg vs _ h1 h2
theorem Jw (hS:∀b,S b->S' b) {v:Value} {x:AV} {O:List Nat} (hO:∀g∈O,S' g) (h:tQ S w v x O):cz S' w v (Pr x):=by
 rcases h with h|⟨vs,cs,rfl,rfl,hL⟩
 ·by_cases hx:∃cs,x= .cw cs
  ·obtain ⟨cs,rfl⟩:=hx
   rcases h with h|⟨vs,KM,h1,h2,h3⟩
   ·cases h with
    | rep h=>cases h with
     | cw vs _ hl h =>
      refine .cw vs _ (by simpa using hl) fun j v c hv hc=>?_
      rw [List.getElem?_map] at hc
      cases hj:cs[j]? with
      | none=>rw [hj] at hc;cases hc
      | some y=>rw [hj] at hc;injection hc with hc;subst hc;exact zr hS (O:=[]) (by simp) (.inl (.rep (h j v y hv hj)))
   ·cases h2
  ·have:Pr x=GA x:=by
    cases x with
    | cw cs=>exact absurd ⟨cs,rfl⟩ hx
    | _=>rfl
   rw [this];exact zr hS hO h
 ·obtain ⟨h1,h2⟩:=Fm (S':=S') (f:=GA) (fun v x O hO h=>zr hS hO h) hL hO
  exact .cw vs _ h1 h2
end
def sq (P:Program) (s:AS) (o:Oper) (h:Hint):Option (AV×List Prop) :=
 match o.op with
 | .buildSlice t len parts=>(match P.underlying t with
  | some (.slice el)=>(match eH P el,(P.info? el).bind (·.zero) with
   | some (z+1),some zero=>(match fA s (z+1) 0 parts.toList,Nat.beq parts.toList.length len,Nat.ble (len*(z+1)) 16777216,Nat.beq zero.cells.size (z+1) with
    | some cells,true,true,true=>(match eh cells with
     | true=>some (.sl (z+1) (named h cells).1,(named h cells).2)
     | false=>none)
    | _,_,_,_=>none)
   | _,_=>none)
  | _=>none)
 | .makeSlice t l c=>(match bq s l,bq s c,P.underlying t with
  | .val (.int _ L),.val (.int _ C),some (.slice el)=>(match P.info? el with
   | some i=>(match i.zero,i.size with
    | some zero,z+1=>(match Nat.beq zero.cells.size (z+1) with
     | true=>some (.sl (z+1) (named h (uw (zero.cells.toList.map bC) h.k)).1,(named h (uw (zero.cells.toList.map bC) h.k)).2++ [L=(h.k:Int),C=(h.m:Int),h.k≤h.m,i.bytes*h.m≤281474976710656,h.m≤maxLen])
     | false=>none)
    | _,_=>none)
   | none=>none)
  | _,_,_=>none)
 | .call ⟨.builtin _,_,_⟩=>qS P s o h
 | .call ⟨c,xs,_⟩=>(match callee s c,h.av with
  | some f,some r=>(match gV P f,h.b with
   | true,true=>(match j9 s (xs.toList.map (bq s)),flat r with
    | some vs,some C=>some (Pr r,bG P f vs r::C)
    | _,_=>none)
   | true,false=>(match lX (xs.toList.map (bq s)) with
    | true=>some (Pr r,[bG P f (xs.toList.map (bq s)) r])
    | false=>none)
   | _,_=>none)
  | _,_=>none)
 | _=>qS P s o h
def El (P:Program) (s:AS) (o:Oper) (x:AV) (C:List Prop):Prop :=
 bx C-> ∀S0 w0 n a w φ Q (b:Act),aI S0 w0 n [] s a w φ->b.tmps=a.tmps->o.wp P b w (fun b' w'=>∃v,b'=b.put o.dst v∧Below w.heap.size w w'∧Den (az s.H φ) (aP S0 w' φ []) w' v x) Q
theorem eY {a b:Act} (h:b.tmps=a.tmps):b.eval=a.eval:=by
 funext x
 cases x<;>simp [Act.eval,h]
section
variable {P:Program} {s:AS} {o:Oper} {h:Hint} {r:AV×List Prop}
theorem vL (hp:de P s o r.1 r.2):El P s o r.1 r.2:=by
 intro hC S0 w0 n a w φ Q b hs hb
 obtain ⟨v,bT,dW⟩:=hp hC S0 w0 n [] a w φ hs
 rw [←eY hb] at bT
 exact cN bT ⟨v,rfl,Below.refl _ _,dW⟩
theorem mA {S0:bn} {w0 w w':World} {n:Nat} {a:Act} {φ:Nat->Option Nat} (hs:aI S0 w0 n [] s a w φ) (hb:Below w.heap.size w w') (b:Nat) (h:aP S0 w φ [] b∨(w.heap.size≤b∧b<w'.heap.size)):aP S0 w' φ [] b:=by
 rcases h with h|⟨h1,h2⟩
 ·exact ⟨by have:=h.1;have:=hb.size;omega,by simp,h.2.2⟩
 ·exact ⟨h2,by simp,fun i hi=>by have:=(hs.cY i b hi).2;omega,hs.new b (.inl (by have:=hs.da.size;omega))⟩
theorem xP {c:Callee} {xs:Array Operand} {ts:Array TypeId} {f:FuncId} {args:List AV} {x:AV} {C:List Prop} (ho:o.op= .call ⟨c,xs,ts⟩) (hc:callee s c=some f) (hE:gV P f=true) (nc:bx C->bG P f args x) (hl:args.length=xs.toList.length)
  (hG:bx C-> ∀S0 w0 n a w φ,aI S0 w0 n [] s a w φ-> ∃S:Nat->Prop,(∀b,S b->b<w.heap.size)∧(∀(j:Nat) v y,(xs.toList.map a.eval)[j]?=some v->args[j]?=some y->cz S w v y)∧ ∀w' v O,tQ (fun b=>S b∨(w.heap.size≤b∧b<w'.heap.size∧b ∉ O)) w' v x O->tQ (fun b=>aP S0 w φ [] b∨(w.heap.size≤b∧b<w'.heap.size∧b ∉ O)) w' v x O):El P s o (Pr x) C:=by
 intro hC S0 w0 n a w φ Q b hs hb
 have bT:=iX (P:=P) hs hc ho hE
 rw [←eY hb] at bT
 obtain ⟨S,hS,gZ,r8⟩:=hG hC S0 w0 n a w φ hs
 unfold Oper.wp
 rw [bT]
 have la:=nc hC w S (xs.toList.map a.eval) hs.da.ng hS (by simp [hl]) gZ
 have e:(xs.toList.map a.eval).toArray=xs.map b.eval:=by rw [eY hb];apply Array.ext';simp
 rw [e] at la
 refine la.mono ?_
 rintro en w' ⟨v,O,rfl,qc,iI,mv,hg⟩
 refine ⟨v,rfl,qc,.rep (Jw (fun b hb=>?_) (fun g hg=>?_) (r8 w' v O hg))⟩
 ·exact mA hs qc b (hb.imp id fun h=>⟨h.1,h.2.1⟩)
 ·exact mA hs qc g (.inr (mv g hg))
theorem xY (hr:sq P s o h=some r):El P s o r.1 r.2:=by
 unfold sq at hr
 split at hr
 ·rename_i t len parts ho
  split at hr
  ·rename_i el hu
   split at hr
   ·rename_i z zero hz hzero
    split at hr
    ·rename_i cells dk hlen vO tE
     split at hr
     ·rename_i hp
      cases hr
      intro hC S0 w0 n a w φ Q b hs hb
      have hlen:=Nat.eq_of_beq_eq_true hlen
      have vO:len*(z+1)≤16777216:=Nat.le_of_ble_eq_true vO
      have hn:(named h cells).1=cells:=(ir (C:=[]) (by rw [List.append_nil];exact hC)).1
      obtain ⟨h1,us,h2,h3,-,h4⟩:=zb hs (z+1) parts.toList 0 cells ((Array.range (len*(z+1))).map (zero.cells[· %zero.cells.size]!)) dk hp (by simp [←hlen])
      have hm:len≤maxLen:=by
       have:len≤len*(z+1):=Nat.le_mul_of_pos_right _ ag
       unfold maxLen;omega
      have bT:(execOp b.eval o).run P w= .ok (.value (.slice (some ⟨w.heap.size,0,none⟩) len len)) {w with heap:=w.heap.push (.cells us el (0,0))}:=by
       have zi:(sizeOf el).run P w= .ok (z+1) w:=run_sizeOf hz
       have nw:(parts.map fun p=>(p.1,a.eval p.2)).toList=parts.toList.map fun p=>(p.1,a.eval p.2):=by simp
       rw [eY hb]
       unfold execOp
       simp only [ho,Instr.buildSlice,Sem.run_bind,run_underlying hu,Result.andThen_ok,zi,Sem.run_ite]
       rw [if_neg ag]
       by_cases h0:len*(z+1)=0
       ·rw [if_pos h0]
        simp only [Sem.run_pure,Result.andThen_ok]
        have:(Array.range (len*(z+1))).map (fun x=>(#[]:Array Value)[x%(#[]:Array Value).size]!)=(Array.range (len*(z+1))).map (fun x=>zero.cells[x%zero.cells.size]!):=by rw [h0,iE,iE]
        rw [this,nw,h2]
        rfl
       ·rw [if_neg h0]
        simp only [il hzero,Result.andThen_ok,Sem.run_pure]
        rw [nw,h2]
        rfl
      have qc:Below w.heap.size w {w with heap:=w.heap.push (.cells us el (0,0))}:=⟨rfl,rfl,rfl,by simp,fun k hk=>cA w _ k hk⟩
      have fi:cells.length=(z+1)*len:=by rw [h1,hlen,Nat.mul_comm]
      refine cN bT ⟨_,rfl,qc,?_⟩
      simp only [hn]
      refine .rep (fq (r:=⟨z+1,true,false,cells⟩) (df w _) (mA hs qc _ (.inr ⟨Nat.le_refl _,by simp⟩)) cells 0 (by rw [h3,fi];simp [Nat.mul_comm]) fi (Nat.le_refl _) hm _ (fun _=>rfl) (fun j u x hu hx=>?_))
      exact (h4 j u x (by simpa using hu) hx).mono fun b hb=>⟨mA hs qc b (.inl hb),cA w _ b hb.1⟩
     ·cases hr
    ·cases hr
   ·cases hr
  ·cases hr
 ·rename_i t l c ho
  split at hr
  ·rename_i kl L kc C el hl hc hu
   split at hr
   ·rename_i i hi
    split at hr
    ·rename_i zero z hz dv
     split at hr
     ·rename_i hb
      cases hr
      have hb:=Nat.eq_of_beq_eq_true hb
      intro hC S0 w0 n a w φ Q b hs Ho
      obtain ⟨Lv,hC⟩:=ir hC
      obtain ⟨h1,h2,h3,h4,h5,-⟩:=hC
      have MQ:b.eval l= .int kl L:=by rw [eY Ho];exact bF (hl ▸ hs.bq l)
      have ec:b.eval c= .int kc C:=by rw [eY Ho];exact bF (hc ▸ hs.bq c)
      obtain ⟨cur,bT,uf,bw⟩:=run_make ho MQ ec hu hi hz dv hb h1 h2 h3 h4 h5 w
      have qc:Below w.heap.size w {w with heap:=w.heap.push (.cells cur el (0,0))}:=⟨rfl,rfl,rfl,by simp,fun k hk=>cA w _ k hk⟩
      have He:(zero.cells.toList.map bC).length=z+1:=by simp [hb]
      have Hi:=uv (zero.cells.toList.map bC) (z+1) He h.k
      have hle:(z+1)*h.k≤(z+1)*h.m:=Nat.mul_le_mul_left _ h3
      refine cN bT ⟨_,rfl,qc,?_⟩
      simp only [Lv]
      refine .rep (fq (r:=⟨z+1,true,false,uw (zero.cells.toList.map bC) h.k⟩) (df w _) (mA hs qc _ (.inr ⟨Nat.le_refl _,by simp⟩)) _ 0 (by rw [Hi,uf];omega) Hi h3 h5 _ (fun _=>rfl) (fun j u x hu hx=>?_))
      have h6:=yf _ (z+1) He ag _ _ _ hx
      have h7:=bw j u (by simpa using hu)
      rw [List.getElem?_map] at h6
      have h8:zero.cells.toList[j%(z+1)]?=some u:=by simpa using h7
      rw [h8] at h6;injection h6 with h6;subst h6;exact gh u
     ·cases hr
    ·cases hr
   ·cases hr
  ·cases hr
 ·exact vL (lk hr)
 ·rename_i c xs ts _ ho
  split at hr
  ·rename_i f x hc _
   split at hr
   ·rename_i hE _
    split at hr
    ·rename_i vs C hv wN
     cases hr
     refine xP ho hc hE (fun hC=>hC.1) ?_ fun hC S0 w0 n a w φ hs=>?_
     ·have key:∀(l:List AV) (m:List AV),j9 s l=some m->m.length=l.length:=by
       intro l
       induction l with
       | nil=>intro m h;cases h;rfl
       | cons y l ih =>
        intro m h
        simp only [j9] at h
        split at h
        ·rename_i y' m' _ hm
         cases h
         simp [ih m' hm]
        ·cases h
      rw [key _ _ hv];simp
     ·exact ⟨fun b=>b<w.heap.size,fun _ h=>h,(ma hs _ _ hv).2,fun w' v O hg=>ui wN hC.2 hg⟩
    ·cases hr
   ·rename_i hE _
    split at hr
    ·rename_i w6
     cases hr
     refine xP ho hc hE (fun hC=>hC.1) (by simp) fun hC S0 w0 n a w φ hs=>⟨aP S0 w φ [],fun b hb=>hb.1,fun j v x hv hx=>?_,fun w' v O hg=>hg⟩
     have NL:=ml w6 hx
     rw [List.getElem?_map] at hv hx
     cases hj:xs.toList[j]? with
     | none=>rw [hj] at hv;cases hv
     | some y =>
      rw [hj] at hv hx
      injection hv with hv;injection hx with hx;subst hv;subst hx
      exact oI (hs.bq y) NL
    ·cases hr
   ·cases hr
  ·cases hr
 ·exact vL (lk hr)
end
def oa (ds:List Nat):List (Nat×AV)->List (Nat×AV)
 | []=>[]
 | (i,x)::l=>match ds.any (Nat.beq i) with|true=>oa ds l|false=>(i,x)::oa ds l
theorem gj (ds:List Nat):∀(l:List (Nat×AV)) (i:Nat) (x:AV),look (oa ds l) i=some x->look l i=some x∧i ∉ ds
 | [],i,x,h=>by cases h
 | (k,y)::l,i,x,h=>by
  simp only [oa] at h
  have ih:=gj ds l i x
  split at h
  ·rename_i hk
   obtain ⟨h1,h2⟩:=ih h
   rw [aD]
   have cS:k≠i:=fun e=>by
    subst e
    obtain ⟨j,hj,hb⟩:=List.any_eq_true.1 hk
    have:=Nat.eq_of_beq_eq_true hb
    subst this
    exact h2 hj
   rw [if_neg cS];exact ⟨h1,h2⟩
  ·rename_i hk
   rw [aD] at h ⊢
   by_cases tH:k=i
   ·rw [if_pos tH] at h ⊢
    refine ⟨h,fun hm=>?_⟩
    have:ds.any (Nat.beq k)=true:=List.any_eq_true.2 ⟨i,hm,by rw [tH];exact Nat.beq_refl i⟩
    rw [hk] at this;cases this
   ·rw [if_neg tH] at h ⊢
    exact ih h
def jB (ops:List Oper) (g_:List AV):List Nat->List (Nat×AV)
 | []=>[]
 | d::l=>match ops[d]?,g_[d]? with
  | some p,some x=>(match p.dst with|some i=>(i,x)::jB ops g_ l|none=>jB ops g_ l)
  | _,_=>jB ops g_ l
theorem oQ (ops:List Oper) (g_:List AV):∀(l:List Nat) (i:Nat) (x:AV),look (jB ops g_ l) i=some x-> ∃d p,d∈l∧ops[d]?=some p∧p.dst=some i∧g_[d]?=some x
 | [],i,x,h=>by cases h
 | d::l,i,x,h=>by
  simp only [jB] at h
  have ih:=oQ ops g_ l i x
  have step:look (jB ops g_ l) i=some x-> ∃d' p,d'∈d::l∧ops[d']?=some p∧p.dst=some i∧g_[d']?=some x:=fun h=>by
   obtain ⟨d',p,h1,h2⟩:=ih h
   exact ⟨d',p,by simp [h1],h2⟩
  split at h
  ·rename_i p y hp hy
   split at h
   ·rename_i k hk
    rw [aD] at h
    by_cases e:k=i
    ·rw [if_pos e] at h;injection h with h;subst h;subst e
     exact ⟨d,p,by simp,hp,hk,hy⟩
    ·rw [if_neg e] at h;exact step h
   ·exact step h
  ·exact step h
def xc (s:AS) (ds:List Nat) (ops:List Oper) (g_:List AV) (o:Oper):AS:=⟨jB ops g_ (bl o)++oa ds s.F,s.H⟩
def tN (P:Program) (ops:List Oper) (s:AS) (o:Oper) (h:Hint):Option (AV×List Prop) :=
 match o.guard with
 | none=>sq P s o h
 | some (j,want)=>(match ops[j]? with
  | some p=>(match p.dst with
   | some d=>(match ka s d with
    | .val (.bool b)=>(match h.g == want with
     | true=>(match sq P s o h with|some (x,C)=>some (x,(b=h.g)::C)|none=>none)
     | false=>some (.val (.tuple #[]),[b=h.g]))
    | .val (.tuple _)=>some (.val (.tuple #[]),[])
    | _=>none)
   | none=>none)
  | none=>none)
def uj (P:Program) (s:AS) (ds:List Nat) (ops:List Oper) (hs:List (Nat×Hint)):List Oper->Nat->List AV->Option (List AV×List Prop)
 | [],_,g_=>some (g_,[])
 | o::l,i,g_=>match tN P ops (xc s ds ops g_ o) o (gL hs i) with
  | some (x,C)=>(match uj P s ds ops hs l (i+1) (g_++ [x]) with|some (jm,D)=>some (jm,C++D)|none=>none)
  | none=>none
def jr:List Oper->List AV->List (Nat×AV)
 | o::l,x::m=>(match o.dst with|some d=>(d,x)::jr l m|none=>jr l m)
 | _,_=>[]
def DN (P:Program) (n T:Nat) (ops:List Oper) (hs:List (Nat×Hint)) (s:AS):Option (AS×List Prop) :=
 match P.follows .mixedOrders,l7 ops.toArray n,po ops.toArray T with
 | true,true,true=>(match uj P s ((ops.take T).filterMap (·.dst)) ops hs (ops.take T) 0 [] with
  | some (g_,C)=>(match kp P n ops hs (ops.drop T) T ⟨jr (ops.take T) g_++oa ((ops.take T).filterMap (·.dst)) s.F,s.H⟩ with|some (s',D)=>some (s',C++D)|none=>none)
  | none=>none)
 | _,_,_=>none
section
variable {P:Program} {ops:List Oper} {S0:bn} {w0:World} {Q:Exit->Act->World->Prop}
theorem Fu {s:AS} {o:Oper} {h:Hint} {r:AV×List Prop} (hr:tN P ops s o h=some r) (hC:bx r.2) {n:Nat} {a b:Act} {w:World} {φ:Nat->Option Nat} (hs:aI S0 w0 n [] s a w φ) (hb:b.tmps=a.tmps) :
  h_ P ops.toArray Q o b w fun v w'=>w.heap.size≤w'.heap.size∧Den (az s.H φ) (aP S0 w' φ []) w' v r.1:=by
 unfold tN at hr
 unfold h_
 split at hr
 ·rename_i hg
  have hw:Region.wanted o (yielded ops.toArray b.tmps)=true:=by unfold Region.wanted;rw [hg]
  rw [if_pos hw]
  exact Oper.wp_mono (fun b' w' ⟨v,h1,h2,h3⟩=>⟨v,h1,h2,h2.size,h3⟩) (xY hr hC S0 w0 n a w φ Q b hs hb)
 ·rename_i j want hg
  split at hr
  ·rename_i p hp
   split at hr
   ·rename_i d hd
    split at hr
    ·rename_i bb r_
     have ht:=hs.get d
     rw [r_] at ht
     have hy:=mP (ops:=ops) hp hd (qZ ht)
     rw [←hb] at hy
     split at hr
     ·rename_i kj
      split at hr
      ·rename_i x C he
       cases hr
       obtain ⟨Gv,hC⟩:=hC
       have hw:Region.wanted o (yielded ops.toArray b.tmps)=true:=by
        unfold Region.wanted;rw [hg];simp only [hy,Gv]
        have:h.g=want:=by simpa using kj
        rw [this];simp
       rw [if_pos hw]
       exact Oper.wp_mono (fun b' w' ⟨v,h1,h2,h3⟩=>⟨v,h1,h2,h2.size,h3⟩) (xY he hC S0 w0 n a w φ Q b hs hb)
      ·cases hr
     ·rename_i kj
      cases hr
      obtain ⟨Gv,-⟩:=hC
      have hw:¬Region.wanted o (yielded ops.toArray b.tmps)=true:=by
       unfold Region.wanted;rw [hg];simp only [hy,Gv]
       have:¬h.g=want:=by simpa using kj
       simpa using this
      rw [if_neg hw]
      exact ⟨Nat.le_refl _,.rep (.val _)⟩
    ·rename_i arr r_
     have ht:=hs.get d
     rw [r_] at ht
     have hy:=mO (ops:=ops) hp hd (bF ht)
     rw [←hb] at hy
     cases hr
     have hw:¬Region.wanted o (yielded ops.toArray b.tmps)=true:=by
      unfold Region.wanted;rw [hg];simp [hy]
     rw [if_neg hw]
     exact ⟨Nat.le_refl _,.rep (.val _)⟩
    ·cases hr
   ·cases hr
  ·cases hr
theorem wh {s:AS} {ds:List Nat} {hs:List (Nat×Hint)}:∀(l:List Oper) (i:Nat) (g_ jm:List AV) (C:List Prop),uj P s ds ops hs l i g_=some (jm,C)->bx C->g_.length=i ->
  jm.length=i+l.length∧jm.take i=g_∧ ∀(j:Nat) (o:Oper),l[j]?=some o-> ∃x D,jm[i+j]?=some x∧tN P ops (xc s ds ops (jm.take (i+j)) o) o (gL hs (i+j))=some (x,D)∧bx D
 | [],i,g_,jm,C,he,hC,hl=>by
  cases he
  exact ⟨by simp [hl],by rw [←hl,List.take_length],fun j o h=>by simp at h⟩
 | o::l,i,g_,jm,C,he,hC,hl=>by
  simp only [uj] at he
  split at he
  ·rename_i x C1 h1
   split at he
   ·rename_i Uf D h2
    cases he
    obtain ⟨i3,hD⟩:=bO.1 hC
    obtain ⟨e1,e2,e3⟩:=wh l (i+1) (g_++ [x]) jm D h2 hD (by simp [hl])
    have e4:jm.take i=g_:=by
     have:=congrArg (List.take i) e2
     rw [List.take_take,Nat.min_eq_left ag,←hl,List.take_left] at this
     rw [←hl];exact this
    have e5:jm[i]?=some x:=by
     have h3:(jm.take (i+1))[i]?=some x:=by rw [e2,List.getElem?_append_right ag,hl];simp
     exact bZ _ _ _ _ h3
    refine ⟨by rw [e1,List.length_cons];omega,e4,fun j p hp=>?_⟩
    cases j with
    | zero =>
     simp at hp;subst hp
     exact ⟨x,C1,by simpa using e5,by simp only [Nat.add_zero];rw [e4];exact h1,i3⟩
    | succ j =>
     obtain ⟨y,D',h5,h6,h7⟩:=e3 j p (by simpa using hp)
     rw [show i+1+j=i+(j+1) by omega] at h5 h6
     exact ⟨y,D',h5,h6,h7⟩
   ·cases he
  ·cases he
theorem k8:∀(l:List Oper) (m:List AV) (i:Nat) (x:AV),look (jr l m) i=some x-> ∃(k:Nat) (o:Oper),l[k]?=some o∧o.dst=some i∧m[k]?=some x
 | [],m,i,x,h=>by simp [jr,look] at h
 | o::l,[],i,x,h=>by simp [jr,look] at h
 | o::l,y::m,i,x,h=>by
  simp only [jr] at h
  have step:look (jr l m) i=some x-> ∃(k:Nat) (p:Oper),(o::l)[k]?=some p∧p.dst=some i∧(y::m)[k]?=some x:=fun h=>by
   obtain ⟨k,p,h1,h2,h3⟩:=k8 l m i x h
   exact ⟨k+1,p,by simpa using h1,h2,by simpa using h3⟩
  split at h
  ·rename_i d hd
   rw [aD] at h
   by_cases e:d=i
   ·rw [if_pos e] at h;injection h with h;subst h;subst e
    exact ⟨0,o,rfl,hd,rfl⟩
   ·rw [if_neg e] at h;exact step h
  ·exact step h
theorem mr (ops:List Oper) (T:Nat) (p:Oper×Nat):p∈ops.zipIdx.take T↔(p.2<T∧ops[p.2]?=some p.1):=by
 rw [List.mem_iff_getElem?]
 constructor
 ·rintro ⟨x,hx⟩
  rw [List.getElem?_take] at hx
  split at hx
  ·rename_i BB
   rw [List.getElem?_zipIdx] at hx
   cases ho:ops[x]? with
   | none=>rw [ho] at hx;simp at hx
   | some q=>rw [ho] at hx;simp at hx;subst hx;exact ⟨by simpa using BB,by simpa using ho⟩
  ·cases hx
 ·rintro ⟨h1,h2⟩
  refine ⟨p.2,?_⟩
  rw [List.getElem?_take,if_pos h1,List.getElem?_zipIdx,h2];simp
theorem kJ (ops:List Oper) (T i:Nat):i ∉ (ops.take T).filterMap (·.dst)↔ ∀(j:Nat) (p:Oper),j<T->ops[j]?=some p->p.dst≠some i:=by
 constructor
 ·intro h j p hj hp hd
  refine h (List.mem_filterMap.2 ⟨p,?_,hd⟩)
  exact List.mem_of_getElem? (i:=j) (by rw [List.getElem?_take,if_pos hj];exact hp)
 ·intro h hm
  obtain ⟨p,hp,hd⟩:=List.mem_filterMap.1 hm
  obtain ⟨j,hj⟩:=List.getElem?_of_mem hp
  rw [List.getElem?_take] at hj
  split at hj
  ·rename_i RK;exact h j p RK hj hd
  ·cases hj
theorem GM {n T:Nat} {hs:List (Nat×Hint)} {s s':AS} {C:List Prop} (he:DN P n T ops hs s=some (s',C)) (hC:bx C) {a:Act} {w:World} (gw:ie S0 w0 n s a w) (hQ:∀a' w',ie S0 w0 n s' a' w'->Q .normal a' w'):P.follows .mixedOrders=true∧wpAny P .any ops.toArray Q ops.toArray.size (Array.replicate ops.toArray.size false) a {w with drawn:=w.drawn+1}:=by
 unfold DN at he
 split at he
 ·rename_i hm hB hT
  split at he
  ·rename_i g_ C1 Dm
   split at he
   ·rename_i s2 D pB
    cases he
    obtain ⟨i3,hD⟩:=bO.1 hC
    obtain ⟨φ,km⟩:=gw
    have gG:aI S0 w0 n [] s a w.drew φ:=km.grow ((Below.refl _ _).drew)
    obtain ⟨hlen,-,gM⟩:=wh _ 0 [] g_ C1 Dm i3 rfl
    simp only [Nat.zero_add] at hlen gM
    obtain ⟨cW,iI,wM⟩:=gl hB
    unfold po at hT
    simp only [Bool.and_eq_true,decide_eq_true_eq] at hT
    obtain ⟨⟨⟨Hq,LQ⟩,LP⟩,LO⟩:=hT
    have TI:T<ops.length:=by simpa using Hq
    have TH:g_.length=T:=by rw [hlen,List.length_take];omega
    let F:Nat->Value->World->Prop:=fun k v w'=>w.heap.size≤w'.heap.size∧ ∀x,g_[k]?=some x->Den (az s.H φ) (aP S0 w' φ []) w' v x
    have vG:∀k v w1 w2,Below w1.heap.size w1 w2->F k v w1->F k v w2:=by
     intro k v w1 w2 hb ⟨h1,h2⟩
     refine ⟨Nat.le_trans h1 hb.size,fun x hx=>(h2 x hx).mono (fun _ _ h=>h) (fun b hS=>⟨⟨by have:=hS.1;have:=hb.size;omega,hS.2⟩,hb.block b hS.1⟩) (fun id e m g hi=>?_)⟩
     obtain ⟨r,-,-,-,bW⟩:=aS hi
     have:=(km.cY id g bW).2
     unfold aW;rw [hb.block g ag]
    refine ⟨hm,Cy Hq LQ LP LO km.j8 hB F vG ?_ ?_ ops.toArray.size _ a _ ⟨(Below.refl _ _).drew,by simp,?_,rfl,rfl,?_,?_,fun _ _=>rfl⟩ (fun j _=>by simp only [List.size_toArray];exact getD_replicate_false _ _) (by simp)⟩
    ·
     intro k o w7 ho a' w' hb js fK
     have rZ:ops[k]?=some o:=by simpa using ho
     obtain ⟨x,Dk,hx,eE,RW⟩:=gM k o (by rw [List.getElem?_take,if_pos w7];exact rZ)
     have ld:Below w.heap.size w w':=hb
     have hg:=km.grow ld
     have KG:aI S0 w0 a'.tmps.size [] (xc s ((ops.take T).filterMap (·.dst)) ops (g_.take k) o) ⟨a'.tmps,S0.tq⟩ w' φ:=by
      refine ⟨rfl,rfl,hg.da,fun i av hi=>?_,hg.rows,hg.only,hg.inj,hg.cY,hg.apart,hg.new⟩
      show Den (az s.H φ) _ _ _ _
      unfold xc at hi
      rw [bL] at hi
      cases Gs:look (jB ops (g_.take k) (bl o)) i with
      | some y =>
       rw [Gs] at hi
       simp at hi;subst hi
       obtain ⟨d,p,h1,h2,h3,h4⟩:=oQ _ _ _ _ _ Gs
       rcases js d h1 with hF|⟨q,hq,hn⟩
       ·have iG:sO ops.toArray a' d=a'.tmps.getD i undef:=by
         unfold sO
         have:(ops.toArray[d]?).bind (·.dst)=some i:=by simp [h2,h3]
         rw [this]
        rw [iG] at hF
        exact hF.2 y (bZ _ _ _ _ h4)
       ·have gY:ops[d]?=some q:=by simpa using hq
        rw [h2] at gY;injection gY with gY;subst gY
        rw [h3] at hn;cases hn
      | none =>
       rw [Gs] at hi
       simp at hi
       obtain ⟨h1,h2⟩:=gj _ _ _ _ hi
       have hk:=fK i (fun j p hj hp=>(kJ ops T i).1 h2 j p hj (by simpa using hp))
       have pf:a'.tmps.getD i undef=a.tmps.getD i undef:=hk
       show Den _ _ _ (a'.tmps.getD i undef) av
       rw [pf]
       exact hg.cC i av h1
     have:=Fu (Q:=Q) (ops:=ops) eE RW KG (b:=a') rfl
     unfold h_ at this ⊢
     split
     ·rename_i hw
      rw [if_pos hw] at this
      exact Oper.wp_mono (fun b' w2 ⟨v,h1,h2,h3,h4⟩=>⟨v,h1,h2,Nat.le_trans ld.size h3,fun y hy=>by rw [hx] at hy;injection hy with hy;subst hy;exact h4⟩) this
     ·rename_i hw
      rw [if_neg hw] at this
      exact ⟨ld.size,fun y hy=>by rw [hx] at hy;injection hy with hy;subst hy;exact this.2⟩
    ·
     intro vs w' hb zm
     have ld:Below w.heap.size w w':=hb
     have hg:=km.grow ld
     have jZ:=jV vs (ops.zipIdx.take T) a (by
      have h1:(ops.zipIdx.take T).filterMap (·.1.dst)=(ops.take T).filterMap (·.dst):=by
       conv=>rhs;rw [←List.zipIdx_map_fst 0 ops,←List.map_take]
       rw [List.filterMap_map];rfl
      rw [h1]
      exact List.Nodup.sublist ((List.take_sublist T ops).filterMap _) (by simpa using iI))
     show wpList P ops.toArray Q (ops.drop T) (eZ (ops.zipIdx.take T) vs a) w'
     refine j0 (S0:=S0) (w0:=w0) _ _ _ _ _ pB hD _ _ ⟨φ,?_⟩ hQ
     refine ⟨jZ.1.trans km.j8,jZ.2.1.trans km.ke,hg.da,fun i av hi=>?_,hg.rows,hg.only,hg.inj,hg.cY,hg.apart,hg.new⟩
     show Den (az s.H φ) _ _ _ _
     rw [bL] at hi
     cases hh:look (jr (ops.take T) g_) i with
     | some y =>
      rw [hh] at hi
      simp at hi;subst hi
      obtain ⟨k,o,h1,h2,h3⟩:=k8 _ _ _ _ hh
      have w7:k<T:=by have:=(List.getElem?_eq_some_iff.1 h3).1;omega
      have ho:ops[k]?=some o:=bZ _ _ _ _ h1
      have hv:=jZ.2.2.1 (o,k) ((mr ops T _).2 ⟨w7,ho⟩) i h2 (by rw [km.j8];exact wM k o i (by simpa using ho) h2)
      have:(eZ (ops.zipIdx.take T) vs a).tmps.getD i undef=vs k:=by
       simp [hv]
      rw [this]
      exact (zm k w7).2 y h3
     | none =>
      rw [hh] at hi
      simp at hi
      obtain ⟨h1,h2⟩:=gj _ _ _ _ hi
      have hv:=jZ.2.2.2 i (fun p hp hd=>(kJ ops T i).1 h2 p.2 p.1 ((mr ops T p).1 hp).1 ((mr ops T p).1 hp).2 hd)
      have:(eZ (ops.zipIdx.take T) vs a).tmps.getD i undef=a.tmps.getD i undef:=by
       simp [hv]
      rw [this]
      exact hg.cC i av h1
    ·intro k o hk;rw [getD_replicate_false] at hk;cases hk
    ·intro k o s hk;rw [getD_replicate_false] at hk;cases hk
    ·intro k o hk;rw [getD_replicate_false] at hk;cases hk
   ·cases he
  ·cases he
 ·cases he
end
def bQ (s s':AS):Prop:=∀S0 w0 n a w,ie S0 w0 n s a w->ie S0 w0 n s' a w
def CD (P:Program):Code->(Exit->Act->World->Prop)->Act->World->Prop
 | .skip,Q,a,w=>Q .normal a w
 | .region _ ops false,Q,a,w=>wpList P ops Q ops.toList a w
 | .region _ ops true,Q,a,w=>P.follows .mixedOrders=true∧wpAny P .any ops Q ops.size (Array.replicate ops.size false) a {w with drawn:=w.drawn+1}
 | .seq x y,Q,a,w=>CD P x (Exit.then (CD P y Q) Q) a w
 | .cond c x y,Q,a,w=>∃t:Bool,a.eval c= .bool t∧(t=true->CD P x Q a w)∧(t=false->CD P y Q a w)
 | .block id c,Q,a,w=>CD P c (Exit.inBlock id Q) a w
 | .loop c,Q,a,w=>∃(J:Nat->Act->World->Prop) (k0:Nat),J k0 a w∧ ∀k a w,J k a w->CD P c (Exit.then (fun a' w'=>∃k',k'<k∧J k' a' w') Q) a w
 | .exit id,Q,a,w=>Q (.exit id) a w
 | .ret,Q,a,w=>Q .ret a w
 | .rangeFunc g ps x b,Q,a,w=>(Code.rangeFunc g ps x b).wp P Q a w
 | _,_,_,_=>False
section
variable {P:Program} {Q Q':Exit->Act->World->Prop}
theorem m9 (hQ:∀e a w,Q e a w->Q' e a w) (h:LetsOut Q):LetsOut Q':=let ⟨a,w,h⟩:=h;⟨a,w,hQ _ _ _ h⟩
theorem xH {o:Oper} {a:Act} {w:World} {K K':Act->World->Prop} (hK:∀a w,K a w->K' a w) (hQ:∀e a w,Q e a w->Q' e a w) (hh:o.wp P a w K Q):o.wp P a w K' Q':=by
 unfold Oper.wp at *
 generalize (execOp a.eval o).run P w=r at *
 cases r with
 | ok n w' =>
  cases n<;>simp only [Oper.upon] at hh ⊢ <;>
   first
    | exact hK _ _ hh
    | exact Calls.mono hh (fun e fJ he=>by cases e<;>first|exact hK _ _ he|exact hQ _ _ _ he|exact m9 hQ he)
    | exact Rows.mono hh (fun _ _ he=>hK _ _ he)
 | halt x w'=>cases x<;>simp only [Oper.upon] at hh ⊢ <;>first|exact hQ _ _ _ hh|exact hh
theorem ks {ops:Array Oper} (hQ:∀e a w,Q e a w->Q' e a w):∀(l:List Oper) (a:Act) (w:World),wpList P ops Q l a w->wpList P ops Q' l a w
 | [],a,w,h=>hQ _ _ _ h
 | o::l,a,w,h=>by
  unfold wpList at h ⊢
  split at h
  ·rename_i hw
   rw [if_pos hw]
   exact h.imp (xH (ks hQ l) hQ) fun ⟨h1,h2⟩=>⟨h1,m9 hQ h2⟩
  ·rename_i hw
   rw [if_neg hw]
   exact ks hQ l _ _ h
theorem Cx {ops:Array Oper} {i:Nat} {a:Act} {w:World} {K K':Act->World->Prop} (hK:∀a w,K a w->K' a w) (hQ:∀e a w,Q e a w->Q' e a w) (hh:wpOp P ops Q i K a w):wpOp P ops Q' i K' a w:=by
 unfold wpOp at *
 split
 ·exact hK _ _ (by simpa [*] using hh)
 ·rename_i o ho
  simp only [ho] at hh
  split
  ·rename_i hw;simp only [hw,if_true] at hh;exact hh.imp (xH hK hQ) fun ⟨h1,h2⟩=>⟨h1,m9 hQ h2⟩
  ·rename_i hw;simp only [hw] at hh;exact hK _ _ hh
theorem sM {md:Region.Mode} {ops:Array Oper} (hQ:∀e a w,Q e a w->Q' e a w):∀(fuel:Nat) (listed:Array Bool) (a:Act) (w:World),wpAny P md ops Q fuel listed a w->wpAny P md ops Q' fuel listed a w
 | 0,_,_,_,h=>⟨h.1,hQ _ _ _ h.2⟩
 | fuel+1,listed,a,w,h=>⟨fun h0=>hQ _ _ _ (h.1 h0),fun i hi=>Cx (sM hQ fuel _) hQ (h.2 i hi)⟩
theorem mc {K K':Act->World->Prop} (hK:∀a w,K a w->K' a w) (hQ:∀e a w,Q e a w->Q' e a w) (e:Exit) (a:Act) (w:World) (h:Exit.then K Q e a w):Exit.then K' Q' e a w:=by
 cases e<;>first|exact hK _ _ h|exact hQ _ _ _ h
theorem zh {id:Nat} (hQ:∀e a w,Q e a w->Q' e a w) (e:Exit) (a:Act) (w:World) (h:Exit.inBlock id Q e a w):Exit.inBlock id Q' e a w:=by
 cases e with
 | exit i =>
  simp only [Exit.inBlock] at h ⊢
  split
  ·rename_i hi;rw [if_pos hi] at h;exact hQ _ _ _ h
  ·rename_i hi;rw [if_neg hi] at h;exact hQ _ _ _ h
 | _=>exact hQ _ _ _ h
theorem eG:∀(c:Code) (Q Q':Exit->Act->World->Prop),(∀e a w,Q e a w->Q' e a w)-> ∀(a:Act) (w:World),CD P c Q a w->CD P c Q' a w
 | .skip,_,_,hQ,a,w,h=>hQ _ _ _ h
 | .region _ ops false,_,_,hQ,a,w,h=>ks hQ _ _ _ h
 | .region _ ops true,_,_,hQ,a,w,h=>⟨h.1,sM hQ _ _ _ _ h.2⟩
 | .seq x y,_,_,hQ,a,w,h=>eG x _ _ (mc (eG y _ _ hQ) hQ) a w h
 | .cond c x y,_,_,hQ,a,w,⟨t,h1,h2,h3⟩=>⟨t,h1,fun e=>eG x _ _ hQ a w (h2 e),fun e=>eG y _ _ hQ a w (h3 e)⟩
 | .block id c,_,_,hQ,a,w,h=>eG c _ _ (zh hQ) a w h
 | .loop c,_,_,hQ,a,w,⟨J,k0,h0,h⟩=>⟨J,k0,h0,fun k a w hJ=>eG c _ _ (mc (fun _ _ h=>h) hQ) a w (h k a w hJ)⟩
 | .exit id,_,_,hQ,a,w,h=>hQ _ _ _ h
 | .ret,_,_,hQ,a,w,h=>hQ _ _ _ h
 | .rangeFunc g ps x b,_,_,hQ,a,w,h=>wp_mono h hQ
 | .scope _,_,_,_,_,_,h=>h.elim
 | .label _,_,_,_,_,_,h=>h.elim
 | .goto _,_,_,_,_,_,h=>h.elim
 | .refuse _,_,_,_,_,_,h=>h.elim
end
theorem EX {P:Program} {c:Code} {Q:Exit->Act->World->Prop} {a:Act} {w:World} (J:Nat->Act->World->Prop) (k0:Nat) (h0:J k0 a w)
  (round:∀k a w,J k a w->c.wp P (Exit.then (fun a' w'=>∃k',k'<k∧J k' a' w') Q) a w):(Code.loop c).wp P Q a w:=by
 intro b k cs
 have key:∀n a w,J n a w-> ∃e a' w',Q e a' w'∧Arrives P (lone (b.at a (.code c:: .inLoop c::k)) cs w) b k cs e a' w':=by
  intro n
  induction n using Nat.strongRecOn with
  | _ n ih =>
   intro a w hJ
   obtain ⟨e,G8,FK,hq,tL⟩:=round n a w hJ b (.inLoop c::k) cs
   cases e with
   | normal =>
    obtain ⟨k',cW,Oj⟩:=hq
    obtain ⟨T7,Ue,R_,Qm,LN⟩:=ih k' cW G8 FK Oj
    exact ⟨T7,Ue,R_,Qm,.of_steps (Steps.trans tL (.one step_inLoop)) LN⟩
   | exit id=>exact ⟨_,G8,FK,hq,.pass (x:=.inLoop c) rfl (fun _ _=>.inl (by simp)) tL⟩
   | goto l=>exact ⟨_,G8,FK,hq,.pass (x:=.inLoop c) rfl (fun _ _=>.inl (by simp)) tL⟩
   | ret=>exact ⟨_,G8,FK,hq,.pass (x:=.inLoop c) rfl (fun _ _=>.inl (by simp)) tL⟩
   | panic ch=>exact ⟨_,G8,FK,hq,.pass (x:=.inLoop c) rfl (fun _ _=>.inl (by simp)) tL⟩
   | outgrown=>exact ⟨_,G8,FK,hq,.pass (x:=.inLoop c) rfl (fun _ _=>.inl (by simp)) tL⟩
 obtain ⟨e,a',w',hq,tL⟩:=key k0 a w h0
 exact ⟨e,a',w',hq,.of_steps (.one step_loop) tL⟩
theorem kR {P:Program}:∀(c:Code) (Q:Exit->Act->World->Prop) (a:Act) (w:World),CD P c Q a w->c.wp P Q a w
 | .skip,_,a,w,h=>wp_skip h
 | .region _ ops false,_,a,w,h=>wp_region_list h
 | .region _ ops true,_,a,w,h=>wp_region_any h.1 h.2
 | .seq x y,Q,a,w,h=>wp_seq (kR x _ a w (eG x _ _ (mc (kR y Q) fun _ _ _ h=>h) a w h))
 | .cond c x y,Q,a,w,⟨t,h1,h2,h3⟩=>wp_cond_split h1 (fun e=>kR x Q a w (h2 e)) (fun e=>kR y Q a w (h3 e))
 | .block id c,_,a,w,h=>wp_block (kR c _ a w h)
 | .loop c,_,a,w,⟨J,k0,h0,h⟩=>EX J k0 h0 fun k a w hJ=>kR c _ a w (h k a w hJ)
 | .exit id,_,a,w,h=>wp_exit h
 | .ret,_,a,w,h=>wp_ret h
 | .rangeFunc g ps x b,_,a,w,h=>h
 | .scope _,_,_,_,h=>h.elim
 | .label _,_,_,_,h=>h.elim
 | .goto _,_,_,_,h=>h.elim
 | .refuse _,_,_,_,h=>h.elim
def mark (r:Nat):Deferred:={target:=.collected r,args:= #[]}
structure lC (S0:bn) (w0:World) (S1:bn) (w1:World) (ms:List Nat):Prop where
 kept:Kept S0 w0 w1
 sub:∀b,S1.S b->S0.S b
 X:∀b,S1.X b->w0.heap.size≤b∨S0.X b
 fix:S1.fix=S0.fix
 tq:S1.tq=ms.map mark++S0.tq
 nodup:ms.Nodup
 marks:∀r∈ms,w0.heap.size≤r∧r<w1.heap.size∧w1.heap[r]?=some (.deferred (some []))∧ ¬S1.S r∧ ¬S1.X r
theorem lC.refl {S0:bn} {w0 w:World} (h:Kept S0 w0 w):lC S0 w0 S0 w0 []:=⟨⟨rfl,rfl,rfl,Nat.le_refl _,fun _ _ _=>rfl,h.g0,h.gx⟩,fun _ h=>h,fun _ h=>.inr h,rfl,rfl,List.nodup_nil,fun _ h=>by cases h⟩
theorem Kept.trans {S0 S1:bn} {w0 w1 w2:World} (h:Kept S0 w0 w1) (k:Kept S1 w1 w2) (hX:∀b,S1.X b->w0.heap.size≤b∨S0.X b):Kept S0 w0 w2 :=
 ⟨k.os.trans h.os,k.tape.trans h.tape,k.output.trans h.output,Nat.le_trans h.size k.size,fun b hb hx=>(k.block b (Nat.lt_of_lt_of_le hb h.size) fun Sw=>(hX b Sw).elim (fun h=>ag) hx).trans (h.block b hb hx),h.g0,h.gx⟩
theorem lC.trans {S0 S1 S2:bn} {w0 w1 w2:World} {ms Rw:List Nat} (h:lC S0 w0 S1 w1 ms) (k:lC S1 w1 S2 w2 Rw):lC S0 w0 S2 w2 (Rw++ms) where
 kept:=h.kept.trans k.kept h.X
 sub:=fun b hb=>h.sub b (k.sub b hb)
 X:=fun b hb=>(k.X b hb).elim (fun hb=>.inl (Nat.le_trans h.kept.size hb)) fun hb=>h.X b hb
 fix:=k.fix.trans h.fix
 tq:=by rw [k.tq,h.tq,List.map_append,List.append_assoc]
 nodup:=by
  rw [List.nodup_append]
  refine ⟨k.nodup,h.nodup,fun a ha b hb e=>?_⟩
  subst e
  have:=(k.marks a ha).1
  have:=(h.marks a hb).2.1
  omega
 marks:=fun r hr=>by
  rcases List.mem_append.1 hr with hr|hr
  ·obtain ⟨h1,h2⟩:=k.marks r hr
   exact ⟨Nat.le_trans h.kept.size h1,h2⟩
  ·obtain ⟨h1,h2,h3,h4,h5⟩:=h.marks r hr
   exact ⟨h1,Nat.lt_of_lt_of_le h2 k.kept.size,(k.kept.block r h2 h5).trans h3,fun hs=>h4 (k.sub r hs),fun hx=>(k.X r hx).elim (fun h=>ag) h5⟩
def nA (S0:bn) (w0:World) (n:Nat) (s:AS) (a:Act) (w:World):Prop:=∃S1 w1 ms,lC S0 w0 S1 w1 ms∧ie S1 w1 n s a w
theorem ie.one {S0:bn} {w0:World} {n:Nat} {s:AS} {a:Act} {w:World} (h:ie S0 w0 n s a w):nA S0 w0 n s a w:=⟨S0,w0,[],lC.refl h.choose_spec.da,h⟩
theorem nA.after {S0 S1:bn} {w0 w1:World} {ms:List Nat} {n:Nat} {s:AS} {a:Act} {w:World} (he:lC S0 w0 S1 w1 ms) (h:nA S1 w1 n s a w):nA S0 w0 n s a w :=
 let ⟨S2,w2,_,h1,h2⟩:=h;⟨S2,w2,_,he.trans h1,h2⟩
def bg (P:Program) (n:Nat) (c:Code) (Q:Exit->AS->Prop) (s:AS):Prop :=
 ∀S0 w0 a w,ie S0 w0 n s a w->CD P c (fun e a' w'=>∃s',Q e s'∧nA S0 w0 n s' a' w') a w
theorem bg.Vh {P:Program} {n:Nat} {c:Code} {Q:Exit->AS->Prop} {s:AS} (h:bg P n c Q s) {S0:bn} {w0:World} {a:Act} {w:World} (hs:nA S0 w0 n s a w):CD P c (fun e a' w'=>∃s',Q e s'∧nA S0 w0 n s' a' w') a w:=by
 obtain ⟨S1,w1,ms,h1,h2⟩:=hs
 exact eG _ _ _ (fun e a' w' ⟨s',hq,bY⟩=>⟨s',hq,bY.after h1⟩) _ _ (h S1 w1 a w h2)
def sK (K:AS->Prop) (Q:Exit->AS->Prop):Exit->AS->Prop
 | .normal,s=>K s
 | e,s=>Q e s
def OX (id:Nat) (Q:Exit->AS->Prop):Exit->AS->Prop
 | .exit pe,s=>if pe=id then Q .normal s else Q (.exit pe) s
 | e,s=>Q e s
def iK:Code->Code
 | .seq a _=>a
 | c=>c
def dV:Code->Code
 | .seq _ b=>b
 | c=>c
def pn:Code->Code
 | .cond _ a _=>a
 | c=>c
def pC:Code->Code
 | .cond _ _ b=>b
 | c=>c
def fL:Code->Code
 | .block _ b=>b
 | .loop b=>b
 | .scope b=>b
 | c=>c
def Bx:Code->Bool
 | .seq _ _=>true
 | _=>false
def lO:Code->Option Operand
 | .cond x _ _=>some x
 | _=>none
def Kj:Code->Option Nat
 | .block id _=>some id
 | _=>none
def IM:Code->Bool
 | .loop _=>true
 | _=>false
def MP:Code->Option Nat
 | .exit id=>some id
 | _=>none
def IL:Code->Bool
 | .ret=>true
 | _=>false
def Da:Code->Bool
 | .skip=>true
 | _=>false
section
variable {P:Program} {n:Nat} {c:Code} {Q:Exit->AS->Prop} {s:AS}
theorem bg.seq (hc:Bx c=true) (h:bg P n (iK c) (sK (bg P n (dV c) Q) Q) s):bg P n c Q s:=by
 cases c with
 | seq x y =>
  intro S0 w0 a w hs
  refine eG x _ _ (fun e a' w' ⟨s',hq,bY⟩=>?_) a w (h S0 w0 a w hs)
  cases e with
  | normal=>exact bg.Vh hq bY
  | _=>exact ⟨s',hq,bY⟩
 | _=>cases hc
theorem bg.cond {x:Operand} {b:Bool} (hc:lO c=some x) (hx:bq s x= .val (.bool b)) (ht:b=true->bg P n (pn c) Q s) (hf:b=false->bg P n (pC c) Q s):bg P n c Q s:=by
 cases c with
 | cond y p q =>
  cases hc
  intro S0 w0 a w hs
  have hv:a.eval x= .bool b:=by
   obtain ⟨φ,bY⟩:=hs
   exact bF (hx ▸ bY.bq x)
  exact ⟨b,hv,fun e=>ht e S0 w0 a w hs,fun e=>hf e S0 w0 a w hs⟩
 | _=>cases hc
theorem bg.block {id:Nat} (hc:Kj c=some id) (h:bg P n (fL c) (OX id Q) s):bg P n c Q s:=by
 cases c with
 | block pe b =>
  cases hc
  intro S0 w0 a w hs
  refine eG b _ _ (fun e a' w' ⟨s',hq,bY⟩=>?_) a w (h S0 w0 a w hs)
  cases e with
  | exit i =>
   simp only [OX] at hq
   simp only [Exit.inBlock]
   split
   ·rename_i hi;rw [if_pos hi] at hq;exact ⟨s',hq,bY⟩
   ·rename_i hi;rw [if_neg hi] at hq;exact ⟨s',hq,bY⟩
  | _=>exact ⟨s',hq,bY⟩
 | _=>cases hc
theorem bg.exit {id:Nat} (hc:MP c=some id) (h:Q (.exit id) s):bg P n c Q s:=by
 cases c with
 | exit i=>cases hc;intro S0 w0 a w hs;exact ⟨s,h,hs.one⟩
 | _=>cases hc
theorem bg.ret (hc:IL c=true) (h:Q .ret s):bg P n c Q s:=by
 cases c with
 | ret=>intro S0 w0 a w hs;exact ⟨s,h,hs.one⟩
 | _=>cases hc
theorem bg.skip (hc:Da c=true) (h:Q .normal s):bg P n c Q s:=by
 cases c with
 | skip=>intro S0 w0 a w hs;exact ⟨s,h,hs.one⟩
 | _=>cases hc
theorem bg.nL {s':AS} (hw:bQ s s') (h:bg P n c Q s'):bg P n c Q s:=fun S0 w0 a w hs=>h S0 w0 a w (hw S0 w0 n a w hs)
theorem bg.mono {Q':Exit->AS->Prop} (h:bg P n c Q s) (hq:∀e s,Q e s->Q' e s):bg P n c Q' s:=fun S0 w0 a w hs=>eG c _ _ (fun e _ _ ⟨s',h1,h2⟩=>⟨s',hq e s' h1,h2⟩) a w (h S0 w0 a w hs)
def Round {ι:Type} (I:ι->AS) (Inv:ι->Prop) (m:ι->Nat) (Q:Exit->AS->Prop) (x:ι):Exit->AS->Prop:=sK (fun s'=>∃y,Inv y∧m y<m x∧bQ s' (I y)) Q
theorem bg.loop {ι:Type} (I:ι->AS) (Inv:ι->Prop) (m:ι->Nat) (hc:IM c=true) (x0:ι) (h0:Inv x0) (hw:bQ s (I x0)) (h:∀x,Inv x->bg P n (fL c) (Round I Inv m Q x) (I x)):bg P n c Q s:=by
 cases c with
 | loop b =>
  intro S0 w0 a w hs
  refine ⟨fun k a w=>∃x,Inv x∧m x=k∧nA S0 w0 n (I x) a w,m x0,⟨x0,h0,rfl,(hw S0 w0 n a w hs).one⟩,?_⟩
  rintro k a w ⟨x,hx,rfl,hs⟩
  refine eG b _ _ (fun e a' w' ⟨s',hq,bY⟩=>?_) a w (bg.Vh (h x hx) hs)
  cases e with
  | normal =>
   obtain ⟨y,hy,cW,VB⟩:=hq
   obtain ⟨S1,w1,ms,h1,h2⟩:=bY
   exact ⟨m y,cW,y,hy,rfl,S1,w1,ms,h1,VB S1 w1 n a' w' h2⟩
  | _=>exact ⟨s',hq,bY⟩
 | _=>cases hc
end
structure qa where
 hs:List (Nat×Hint):=[]
 T:Nat:=0
def tl (P:Program) (n:Nat) (c:Code) (x:qa) (s:AS):Option (AS×List Prop) :=
 match c with
 | .region _ ⟨l⟩ false=>kp P n l x.hs l 0 s
 | .region _ ⟨l⟩ true=>DN P n x.T l x.hs s
 | _=>none
def lj (P:Program) (n:Nat):List qa->Code->AS->Option (AS×List Prop)
 | [],_,s=>some (s,[])
 | x::l,c,s=>match Bx c with
  | true=>(match tl P n (iK c) x s with
   | some (s1,C)=>(match lj P n l (dV c) s1 with|some (s2,D)=>some (s2,C++D)|none=>none)
   | none=>none)
  | false=>none
def qY:Nat->Code->Code
 | 0,c=>c
 | k+1,c=>qY k (dV c)
section
variable {P:Program} {n:Nat} {c:Code} {Q:Exit->AS->Prop} {s s':AS} {C:List Prop}
theorem B7 {x:qa} (he:tl P n c x s=some (s',C)) (hC:bx C) (h:Q .normal s'):bg P n c Q s:=by
 intro S0 w0 a w hs
 unfold tl at he
 split at he
 ·exact j0 (S0:=S0) (w0:=w0) _ _ _ _ _ he hC a w hs fun a' w' bY=>⟨s',h,bY.one⟩
 ·exact GM (S0:=S0) (w0:=w0) he hC hs fun a' w' bY=>⟨s',h,bY.one⟩
 ·cases he
theorem bg.PL (x:qa) (he:tl P n c x s=some (s',C)) (hC:bx C) (h:Q .normal s'):bg P n c Q s:=B7 he hC h
theorem bg.PI:∀(l:List qa) {c:Code} {s s':AS} {C:List Prop},lj P n l c s=some (s',C)->bx C->bg P n (qY l.length c) Q s'->bg P n c Q s
 | [],c,s,s',C,he,hC,h=>by cases he;exact h
 | x::l,c,s,s',C,he,hC,h=>by
  simp only [lj] at he
  split at he
  ·rename_i SI
   split at he
   ·rename_i s1 C1 h1
    split at he
    ·rename_i s2 D h2
     cases he
     obtain ⟨i3,hD⟩:=bO.1 hC
     exact bg.seq SI (B7 h1 i3 (bg.PI l h2 hD h))
    ·cases he
   ·cases he
  ·cases he
end
def kv (a b:Nat):AV->AV
 | .ref i=>match Nat.beq i a with|true=>.ref b|false=>.ref i
 | .pre i n=>match Nat.beq i a with|true=>.pre b n|false=>.pre i n
 | .jE i o n=>match Nat.beq i a with|true=>.jE b o n|false=>.jE i o n
 | .addr i o=>match Nat.beq i a with|true=>.addr b o|false=>.addr i o
 | .agg _=>.dead
 | .cw _=>.dead
 | x=>x
def F7 (a b:Nat):AV->AV
 | .agg cs=>.agg (cs.map (kv a b))
 | x=>kv a b x
def Nn (a b:Nat):AV->AV
 | .cw cs=>.cw (cs.map (F7 a b))
 | x=>F7 a b x
def fo (a b:Nat) (r:Row):Row:=match r.pure with|true=>r|false=>⟨r.e,false,r.full,r.cells.map (kv a b)⟩
def pJ {α:Type} (a b:Nat):List (Nat×α)->List (Nat×α)
 | []=>[]
 | (k,x)::l=>match Nat.beq k a with|true=>(b,x)::pJ a b l|false=>(k,x)::pJ a b l
def rename (a b:Nat) (s:AS):AS:=⟨eD (Nn a b) s.F,eD (fo a b) (pJ a b s.H)⟩
theorem n9 {α:Type} (a b:Nat):∀(l:List (Nat×α)),look l b=none-> ∀i,look (pJ a b l) i=if i=b then look l a else if i=a then none else look l i
 | [],_,i=>by simp [pJ,look]
 | (k,x)::l,hb,i=>by
  rw [aD] at hb
  have Td:k≠b:=fun e=>by rw [if_pos e] at hb;cases hb
  rw [if_neg Td] at hb
  have ih:=n9 a b l hb i
  rcases bI k a with ⟨h,e⟩|⟨h,e⟩
  ·simp only [pJ,h,aD,ih]
   by_cases hi:i=b
   ·subst hi;simp [e]
   ·by_cases NU:i=a
    ·have U6:b≠a:=fun e'=>hi (by rw [e',NU])
     simp [NU,U6,Ne.symm U6]
    ·have:k≠i:=fun e'=>NU (by rw [←e',e])
     simp [hi,NU,Ne.symm hi,this]
  ·simp only [pJ,h,aD,ih]
   by_cases hi:i=b
   ·subst hi;simp [Td,e]
   ·by_cases NU:i=a
    ·subst NU;simp [hi,e]
    ·simp [hi,NU]
section
variable {S0:bn} {w0 w:World} {n:Nat} {s:AS} {a:Act} {φ:Nat->Option Nat}
theorem cF (x y:Nat) (r:Row):(fo x y r).e=r.e∧(fo x y r).cells.length=r.cells.length∧(fo x y r).pure=r.pure∧(fo x y r).full=r.full:=by
 unfold fo
 cases h:r.pure<;>simp [h]
theorem aI.K9 (h:aI S0 w0 n [] s a w φ) (x y:Nat) (P3:y<1000000000000) (cS:x≠y) (hy:look s.H y=none):∃ b_,aI S0 w0 n [] (rename x y s) a w b_:=by
 let b_:Nat->Option Nat:=fun i=>if i=y then φ x else if i=x then none else φ i
 have Sr:φ y=none:=h.only y hy
 have nf:∀i g,b_ i=some g-> ∃j,φ j=some g∧(i=y->j=x)∧(i≠y->j=i):=by
  intro i g hi
  by_cases e:i=y
  ·have:φ x=some g:=by simpa [b_,e] using hi
   exact ⟨x,this,fun _=>rfl,fun h=>absurd e h⟩
  ·by_cases e2:i=x
   ·simp [b_,e2,cS] at hi
   ·have:φ i=some g:=by simpa [b_,e,e2] using hi
    exact ⟨i,this,fun h=>absurd h e,fun _=>rfl⟩
 have Jm:∀b,aP S0 w φ [] b->aP S0 w b_ [] b:=by
  intro b ⟨h1,h2,h3,h4⟩
  refine ⟨h1,h2,fun i hi=>?_,h4⟩
  obtain ⟨j,hj,-⟩:=nf i b hi
  exact h3 j hj
 have kn:∀i,look (rename x y s).H i=(if i=y then look s.H x else if i=x then none else look s.H i).map (fo x y):=by
  intro i
  unfold rename
  rw [cy,n9 x y _ hy]
 have hI:∀i z,az s.H φ i=some z->az (rename x y s).H b_ (if i=x then y else i)=some z:=by
  intro i z hi
  obtain ⟨e,m,b⟩:=z
  obtain ⟨r,hl,h1,h2,h3⟩:=aS hi
  by_cases e1:i=x
  ·subst e1
   rw [if_pos rfl,bt (r:=fo i y r) (by rw [kn,if_pos rfl,hl];rfl),(cF i y r).1,(cF i y r).2.1,h1,h2]
   simp [b_,h3]
  ·have e2:i≠y:=fun e=>by subst e;rw [hy] at hl;cases hl
   rw [if_neg e1,bt (r:=fo x y r) (by rw [kn,if_neg e2,if_neg e1,hl];rfl),(cF x y r).1,(cF x y r).2.1,h1,h2]
   simp [b_,e1,e2,h3]
 have tM:∀b,aP S0 w φ [] b->aP S0 w b_ [] b∧w.heap[b]?=w.heap[b]?:=fun b h=>⟨Jm b h,rfl⟩
 have ok:kg (az s.H φ) (az (rename x y s).H b_) (aP S0 w φ []) (aP S0 w b_ []) w (kv x y):=by
  refine ⟨fun v av hv h1 h2=>?_,fun _=>rfl,fun _=>rfl⟩
  have pick:∀i z,az s.H φ i=some z->(Nat.beq i x=true∧az (rename x y s).H b_ y=some z)∨(Nat.beq i x=false∧az (rename x y s).H b_ i=some z):=by
   intro i z hi
   have:=hI i z hi
   rcases bI i x with ⟨hb,e⟩|⟨hb,e⟩
   ·rw [if_pos e] at this;exact .inl ⟨hb,this⟩
   ·rw [if_neg e] at this;exact .inr ⟨hb,this⟩
  cases hv with
  | rep h=>cases h with
   | val v=>exact .rep (.val v)
   | nil=>exact .rep .nil
   | agg vs cs _ _=>exact absurd rfl (h1 cs)
   | cw vs cs _ _=>exact absurd rfl (h2 cs)
   | arr vs cs hl h=>exact .rep ((cz.arr vs cs hl h).mono tM)
   | sl A n c e us row hl hn hc hm ha h=>exact .rep ((cz.sl A n c e us row hl hn hc hm ha h).mono tM)
   | sg A n e us row hl hn hm ha h=>exact .rep ((cz.sg A n e us row hl hn hm ha h).mono tM)
   | ptr ad us row off hl hs ha h=>exact .rep ((cz.ptr ad us row off hl hs ha h).mono tM)
   | mI f vs cs hl h=>exact .rep ((cz.mI f vs cs hl h).mono tM)
  | agg vs cs _ _=>exact absurd rfl (h1 cs)
  | cw vs cs _ _=>exact absurd rfl (h2 cs)
  | ref i e m g l c hi hm hc hx hs=>rcases pick i _ hi with ⟨hb,jx⟩|⟨hb,jx⟩<;>simp only [kv,hb]<;>exact .ref _ e m g l c jx hm hc hx hs
  | cm i e hi=>rcases pick i _ hi with ⟨hb,jx⟩|⟨hb,jx⟩<;>simp only [kv,hb]<;>exact .cm _ e jx
  | pre i k e m g l c hi hn hm hc hx hs=>rcases pick i _ hi with ⟨hb,jx⟩|⟨hb,jx⟩<;>simp only [kv,hb]<;>exact .pre _ k e m g l c jx hn hm hc hx hs
  | dP i e hi=>rcases pick i _ hi with ⟨hb,jx⟩|⟨hb,jx⟩<;>simp only [kv,hb]<;>exact .dP _ e jx
  | jE i off k e m l c g A hi hn hm hc hx ha=>rcases pick i _ hi with ⟨hb,jx⟩|⟨hb,jx⟩<;>simp only [kv,hb]<;>exact .jE _ off k e m l c g A jx hn hm hc hx ha
  | addr i off e m g hi=>rcases pick i _ hi with ⟨hb,jx⟩|⟨hb,jx⟩<;>simp only [kv,hb]<;>exact .addr _ off e m g jx
  | dead v=>exact .dead _
 have C3:∀z:AV,(∀cs,z≠ .agg cs)->F7 x y z=kv x y z:=by
  intro z hz
  cases z with
  | agg cs=>exact absurd rfl (hz cs)
  | _=>rfl
 have CZ:∀z:AV,(∀cs,z≠ .cw cs)->Nn x y z=F7 x y z:=by
  intro z hz
  cases z with
  | cw cs=>exact absurd rfl (hz cs)
  | _=>rfl
 refine ⟨b_,h.j8,h.ke,h.da,fun i av hi=>?_,fun i r hr=>?_,fun i hi=>?_,fun i j g hi hj=>?_,fun i g hi=>?_,fun i g hi=>by simp,h.new⟩
 ·unfold rename at hi
  rw [cy] at hi
  cases hl:look s.F i with
  | none=>rw [hl] at hi;cases hi
  | some z =>
   rw [hl] at hi;injection hi with hi;subst hi
   exact ok.two (h.cC i z hl) (fun _=>rfl) C3 (fun _=>rfl) CZ
 ·rw [kn] at hr
  have:∃j q,look s.H j=some q∧b_ i=φ j∧r=fo x y q:=by
   by_cases e:i=y
   ·rw [if_pos e] at hr
    cases hl:look s.H x with
    | none=>rw [hl] at hr;cases hr
    | some q=>rw [hl] at hr;injection hr with hr;exact ⟨x,q,hl,by simp [b_,e],hr.symm⟩
   ·rw [if_neg e] at hr
    by_cases e2:i=x
    ·rw [if_pos e2] at hr;cases hr
    ·rw [if_neg e2] at hr
     cases hl:look s.H i with
     | none=>rw [hl] at hr;cases hr
     | some q=>rw [hl] at hr;injection hr with hr;exact ⟨i,q,hl,by simp [b_,e,e2],hr.symm⟩
  obtain ⟨j,q,hq,NB,rfl⟩:=this
  have aQ:=h.rows j q hq
  rw [NB]
  unfold bJ at aQ ⊢
  cases hb:φ j with
  | none =>
   rw [hb] at aQ
   have:=(cF x y q).2.1
   simp only at aQ ⊢
   rw [aQ] at this;exact List.length_eq_zero_iff.1 this
  | some g =>
   rw [hb] at aQ
   obtain ⟨cur,te,fr,hg,hf,hlen,nr,hc⟩:=aQ
   refine ⟨cur,te,fr,hg,hf,by rw [(cF x y q).2.1];exact hlen,by rw [(cF x y q).2.1,(cF x y q).2.2.2];exact nr,fun j u z hu hz=>?_⟩
   rw [(cF x y q).2.2.1]
   unfold bh
   cases hp:q.pure with
   | true =>
    have:fo x y q=q:=by unfold fo;rw [hp]
    rw [this] at hz
    have:=hc j u z hu hz
    unfold bh at this;rw [hp] at this
    exact this.mono tM
   | false =>
    have:(fo x y q).cells=q.cells.map (kv x y):=by unfold fo;rw [hp]
    rw [this,List.getElem?_map] at hz
    cases hj:q.cells[j]? with
    | none=>rw [hj] at hz;cases hz
    | some z' =>
     rw [hj] at hz;injection hz with hz;subst hz
     have:=hc j u z' hu hj
     unfold bh at this;rw [hp] at this
     exact ok.all this
 ·rw [kn] at hi
  by_cases e:i=y
  ·rw [if_pos e] at hi
   cases hl:look s.H x with
   | none=>simp [b_,e,h.only x hl]
   | some q=>rw [hl] at hi;cases hi
  ·rw [if_neg e] at hi
   by_cases e2:i=x
   ·simp [b_,e2,cS]
   ·rw [if_neg e2] at hi
    cases hl:look s.H i with
    | none=>simp [b_,e,e2,h.only i hl]
    | some q=>rw [hl] at hi;cases hi
 ·obtain ⟨i',h1,h2,h3⟩:=nf i g hi
  obtain ⟨j',h4,h5,h6⟩:=nf j g hj
  have e:=h.inj i' j' g h1 h4
  by_cases ei:i=y<;>by_cases ej:j=y
  ·rw [ei,ej]
  ·have:=h2 ei;have:=h6 ej
   have:j=x:=ag
   subst this
   simp [b_,cS] at hj
  ·have:=h3 ei;have:=h5 ej
   have:i=x:=ag
   subst this
   simp [b_,cS] at hi
  ·have:=h3 ei;have:=h6 ej;omega
 ·obtain ⟨j,h1,h2,h3⟩:=nf i g hi
  have:=h.cY j g h1
  refine ⟨⟨?_,this.1.2⟩,this.2⟩
  by_cases e:i=y
  ·exact .inl ag
  ·rw [←h3 e];exact this.1.1
end
inductive Wk where
 | gR (id:Nat)
 | uX (a b:Nat)
 | nil (slot id e:Nat)
 | aa (cC ids:List Nat)
 | loose (id:Nat)
def nq (s:AS):List Nat->List (Nat×AV)
 | []=>[]
 | i::l=>(i,ka s i)::nq s l
def s6 (H:List (Nat×Row)):List Nat->List (Nat×Row)
 | []=>[]
 | i::l=>match look H i with|some r=>(i,r)::s6 H l|none=>s6 H l
def gv (ids:List Nat):List (Nat×Row)->List Nat
 | []=>[]
 | (k,_)::l=>match ids.any (Nat.beq k) with|true=>gv ids l|false=>k::gv ids l
def Es (s:AS) (id:Nat):Option AS:=match look s.H id with|some r=>some ⟨s.F,(id,⟨r.e,r.pure,false,r.cells⟩)::cR s.H id⟩|none=>none
def M_ (s:AS):Wk->Option AS
 | .gR id=>(match look s.H id with|some r=>(match r.pure with|true=>some (gR id r s)|false=>none)|none=>none)
 | .uX x y=>(match Nat.beq x y,Nat.ble y 999999999999 with|false,true=>some (rename x y (ck y s))|_,_=>none)
 | .nil i id e=>(match ka s i with| .nil=>some (lT ⟨(ck id s).F,(id,⟨e,true,false,[]⟩)::(ck id s).H⟩ i (.ref id))|_=>none)
 | .aa is ids=>some ⟨(aR ⟨nq s is,s.H⟩ (gv ids s.H)).F,s6 (aR ⟨nq s is,s.H⟩ (gv ids s.H)).H ids⟩
 | .loose id=>Es s id
def wk:List Wk->AS->Option AS
 | [],s=>some s
 | x::l,s=>match M_ s x with|some s1=>wk l s1|none=>none
theorem vr (s:AS):∀(l:List Nat) (i:Nat) (x:AV),look (nq s l) i=some x->x=ka s i
 | [],i,x,h=>by cases h
 | k::l,i,x,h=>by
  simp only [nq,aD] at h
  by_cases e:k=i
  ·rw [if_pos e] at h;injection h with h;rw [←h,e]
  ·rw [if_neg e] at h;exact vr s l i x h
theorem vq (H:List (Nat×Row)):∀(l:List Nat) (i:Nat),look (s6 H l) i=if i∈l then look H i else none
 | [],i=>by simp [s6,look]
 | k::l,i=>by
  simp only [s6]
  have ih:=vq H l i
  cases hk:look H k with
  | none =>
   rw [ih]
   by_cases e:i=k
   ·subst e;simp [hk]
   ·simp [e]
  | some r =>
   simp only [aD,ih]
   by_cases e:k=i
   ·subst e;simp [hk]
   ·simp [e,Ne.symm e]
theorem n0 (ids:List Nat):∀(H:List (Nat×Row)) (i:Nat),i ∉ ids->look H i=none∨i∈gv ids H
 | [],i,_=>.inl rfl
 | (k,r)::H,i,hi=>by
  simp only [gv,aD]
  by_cases e:k=i
  ·subst e
   right
   have:ids.any (Nat.beq k)=false:=by
    cases hb:ids.any (Nat.beq k) with
    | false=>rfl
    | true =>
     obtain ⟨j,hj,KH⟩:=List.any_eq_true.1 hb
     have:=Nat.eq_of_beq_eq_true KH
     subst this;exact absurd hj hi
   rw [this];simp
  ·rw [if_neg e]
   rcases n0 ids H i hi with h|h
   ·exact .inl h
   ·right
    split
    ·exact h
    ·simp [h]
theorem uo {I:Info} {S:Nat->Prop} {w:World} {v:Value} (h:Den I S w v .nil):v= .slice none 0 0:=by
 cases h with|rep h=>cases h;rfl
theorem M9 {s s':AS} {x:Wk} (he:M_ s x=some s'):bQ s s':=by
 intro S0 w0 n a w ⟨φ,hs⟩
 cases x with
 | gR id =>
  simp only [M_] at he
  split at he
  ·rename_i r hr
   split at he
   ·rename_i hp;cases he;exact ⟨_,hs.Mn hr hp⟩
   ·cases he
  ·cases he
 | uX x y =>
  simp only [M_] at he
  split at he
  ·rename_i hb cW
   cases he
   have cS:x≠y:=Nat.ne_of_beq_eq_false hb
   have cW:=Nat.le_of_ble_eq_true cW
   obtain ⟨b_,h⟩:=(hs.mT y).K9 x y ag cS (du y)
   exact ⟨b_,h⟩
  ·cases he
 | nil i id e =>
  simp only [M_] at he
  split at he
  ·rename_i hn
   cases he
   have hv:=hs.get i
   rw [hn] at hv
   have Hh:a.tmps.getD i undef= .slice none 0 0:=uo hv
   have h1:=hs.mT id
   have h2:=h1.sI (id:=id) (r:=⟨e,true,false,[]⟩) (du id) rfl
   refine ⟨erase φ id,h2.j8,h2.ke,h2.da,fun j av hj=>?_,h2.rows,h2.only,h2.inj,h2.cY,h2.apart,h2.new⟩
   rw [rW] at hj
   by_cases e':i=j
   ·rw [if_pos e'] at hj;injection hj with hj;subst hj;subst e'
    rw [Hh]
    exact .cm id e (by
     show az ((id,⟨e,true,false,[]⟩)::(ck id s).H) _ id=_
     rw [bt (r:=⟨e,true,false,[]⟩) (by rw [aD,if_pos rfl]),h1.only id (du id)];rfl)
   ·rw [if_neg e'] at hj;exact h2.cC j av hj
  ·cases he
 | aa is ids =>
  simp only [M_] at he
  cases he
  have h1:aI S0 w0 n [] ⟨nq s is,s.H⟩ a w φ:=by
   refine ⟨hs.j8,hs.ke,hs.da,fun i av hi=>?_,hs.rows,hs.only,hs.inj,hs.cY,hs.apart,hs.new⟩
   rw [vr s is i av hi]
   exact hs.get i
  obtain ⟨b_,h2,-,h3⟩:=jb (gv ids s.H) ⟨nq s is,s.H⟩ φ [] h1
  have gr:∀i,i ∉ ids->look (aR ⟨nq s is,s.H⟩ (gv ids s.H)).H i=none:=fun i hi=>h3 i (n0 ids s.H i hi)
  have kn:∀i,look (s6 (aR ⟨nq s is,s.H⟩ (gv ids s.H)).H ids) i=look (aR ⟨nq s is,s.H⟩ (gv ids s.H)).H i:=by
   intro i
   rw [vq]
   by_cases hi:i∈ids
   ·rw [if_pos hi]
   ·rw [if_neg hi,gr i hi]
  have hI:az (s6 (aR ⟨nq s is,s.H⟩ (gv ids s.H)).H ids) b_=az (aR ⟨nq s is,s.H⟩ (gv ids s.H)).H b_:=by
   funext i;unfold az;rw [kn]
  refine ⟨b_,h2.j8,h2.ke,h2.da,fun i av hi=>?_,fun i r hr=>?_,fun i hi=>?_,h2.inj,h2.cY,h2.apart,h2.new⟩
  ·simp only [hI];exact h2.cC i av hi
  ·simp only [hI];simp only [kn] at hr;exact h2.rows i r hr
  ·simp only [kn] at hi;exact h2.only i hi
 | loose id =>
  simp only [M_,Es] at he
  split at he
  ·rename_i r hr
   cases he
   have l3:∀i,look ((id,(⟨r.e,r.pure,false,r.cells⟩:Row))::cR s.H id) i=if id=i then some ⟨r.e,r.pure,false,r.cells⟩ else look s.H i:=by
    intro i
    rw [aD,bH]
    by_cases e:id=i<;>simp [e]
   have hI:az ((id,(⟨r.e,r.pure,false,r.cells⟩:Row))::cR s.H id) φ=az s.H φ:=by
    funext i
    unfold az
    rw [l3]
    by_cases e:id=i
    ·subst e;rw [if_pos rfl,hr];rfl
    ·rw [if_neg e]
   refine ⟨φ,hs.j8,hs.ke,hs.da,fun i av hi=>?_,fun i q hq=>?_,fun i hi=>?_,hs.inj,hs.cY,hs.apart,hs.new⟩
   ·simp only [hI];exact hs.cC i av hi
   ·simp only [hI]
    simp only [l3] at hq
    by_cases e:id=i
    ·subst e
     rw [if_pos rfl] at hq;injection hq with hq;subst hq
     have aQ:=hs.rows id r hr
     unfold bJ at aQ ⊢
     cases bW:φ id with
     | none=>rw [bW] at aQ;exact aQ
     | some g =>
      rw [bW] at aQ
      obtain ⟨cur,te,fr,hg,hf,hl,-,hc⟩:=aQ
      exact ⟨cur,te,fr,hg,hf,hl,fun h=>(by cases h),hc⟩
    ·rw [if_neg e] at hq;exact hs.rows i q hq
   ·simp only [l3] at hi
    by_cases e:id=i
    ·rw [if_pos e] at hi;cases hi
    ·rw [if_neg e] at hi;exact hs.only i hi
  ·cases he
theorem uD:∀(l:List Wk) {s s':AS},wk l s=some s'->bQ s s'
 | [],s,s',he=>by cases he;exact fun _ _ _ _ _ h=>h
 | x::l,s,s',he=>by
  simp only [wk] at he
  split at he
  ·rename_i s1 h1
   exact fun S0 w0 n a w h=>uD l he S0 w0 n a w (M9 h1 S0 w0 n a w h)
  ·cases he
theorem bg.wk {P:Program} {n:Nat} {c:Code} {Q:Exit->AS->Prop} {s s':AS} (l:List Wk) (he:wk l s=some s') (h:bg P n c Q s'):bg P n c Q s:=bg.nL (uD l he) h
def BZ (s:AS):AV->AV->Option (List Nat×List Prop)
 | .val u,.val v=>some ([],[u=v])
 | .nil,.nil=>some ([],[])
 | .nil,.own _ row=>some ([],[row= []])
 | .nil,.sl _ row=>some ([],[row= []])
 | .sl e row,.sl e' FX=>(match Nat.beq e e' with|true=>some ([],[row=FX])|false=>none)
 | .arr cs,.arr KM=>some ([],[cs=KM])
 | .ptr row off,.ptr FX C5=>some ([],[row=FX,off=C5])
 | .mI f cs,.mI f' KM=>(match Nat.beq f f' with|true=>some ([],[cs=KM])|false=>none)
 | .ref id,.own e row=>(match look s.H id with|some ⟨e',true,_,cells⟩=>(match Nat.beq e e' with|true=>some ([id],[cells=row])|false=>none)|_=>none)
 | .pre id k,.own e row=>(match look s.H id with|some ⟨e',true,_,cells⟩=>(match Nat.beq e e' with|true=>some ([id],[cells.take k=row])|false=>none)|_=>none)
 | .addr id off,.box row=>(match look s.H id,off with|some ⟨_,false,true,cells⟩,0=>(match eh cells with|true=>some ([id],[cells=row])|false=>none)|_,_=>none)
 | _,_=>none
def BU (f:AV->AV->Option (List Nat×List Prop)):List AV->List AV->Option (List Nat×List Prop)
 | [],[]=>some ([],[])
 | x::xs,r::rs=>match f x r,BU f xs rs with|some (a,C),some (b,D)=>some (a++b,C++D)|_,_=>none
 | _,_=>none
def BW (s:AS):AV->AV->Option (List Nat×List Prop)
 | .agg xs,.agg rs=>BU (BZ s) xs rs
 | x,r=>BZ s x r
def lM (s:AS):AV->AV->Option (List Nat×List Prop)
 | .cw xs,.cw rs=>BU (BW s) xs rs
 | x,r=>BW s x r
section
variable {S0:bn} {w0 w:World} {n:Nat} {s:AS} {a:Act} {φ:Nat->Option Nat}
def blocks (φ:Nat->Option Nat):List Nat->List Nat
 | []=>[]
 | i::l=>match φ i with|some g=>g::blocks φ l|none=>blocks φ l
theorem Eg (φ:Nat->Option Nat) (l m:List Nat):blocks φ (l++m)=blocks φ l++blocks φ m:=by
 induction l with
 | nil=>rfl
 | cons i l ih =>
  simp only [List.cons_append,blocks]
  cases φ i<;>simp [ih]
theorem iD {φ:Nat->Option Nat} {g:Nat}:∀ {l:List Nat},g∈blocks φ l-> ∃i∈l,φ i=some g
 | [],h=>by cases h
 | i::l,h=>by
  simp only [blocks] at h
  split at h
  ·rename_i g' jq
   rcases List.mem_cons.1 h with rfl|h
   ·exact ⟨i,by simp,jq⟩
   ·obtain ⟨j,h1,h2⟩:=iD h
    exact ⟨j,by simp [h1],h2⟩
  ·obtain ⟨j,h1,h2⟩:=iD h
   exact ⟨j,by simp [h1],h2⟩
theorem kx (hs:aI S0 w0 n [] s a w φ):∀ {l:List Nat},l.Nodup->(blocks φ l).Nodup
 | [],_=>List.nodup_nil
 | i::l,h=>by
  rw [List.nodup_cons] at h
  simp only [blocks]
  split
  ·rename_i g hg
   rw [List.nodup_cons]
   refine ⟨fun hm=>?_,kx hs h.2⟩
   obtain ⟨j,h1,h2⟩:=iD hm
   have:=hs.inj i j g hg h2
   subst this;exact h.1 h1
  ·exact kx hs h.2
theorem BX (hs:aI S0 w0 n [] s a w φ) {v:Value} {x r:AV} {ids:List Nat} {C:List Prop} (hx:Den (az s.H φ) (aP S0 w φ []) w v x) (hg:BZ s x r=some (ids,C)) (hC:bx C):iv (aP S0 w φ []) w v r (blocks φ ids):=by
 have own:∀(id e l c g:Nat) (fu:Bool) (cells row:List AV),look s.H id=some ⟨e,true,fu,cells⟩->φ id=some g->row.length=e*l->l≤c->c≤maxLen->aW w g=e*c->(∀(j:Nat) x,row[j]?=some x->cells[j]?=some x)->iv (aP S0 w φ []) w (.slice (some ⟨g,0,none⟩) l c) (.own e row) (blocks φ [id]):=by
  intro id e l c g fu cells row hr bW hl hc hm fi De
  obtain ⟨cur,te,fr,hg,hf,hle,bw⟩:=kU hs hr rfl bW
  have:blocks φ [id]= [g]:=by simp [blocks,bW]
  rw [this]
  exact .own g l c e row cur te fr hg hf hl hc hm (by unfold aW at fi;rw [hg] at fi;exact fi) fun j u x hu hx=>bw j u x hu (De j x hx)
 have Iq:∀(id e:Nat),φ id=none->iv (aP S0 w φ []) w (.slice none 0 0) (.own e []) (blocks φ [id]):=by
  intro id e bW
  have:blocks φ [id]= []:=by simp [blocks,bW]
  rw [this];exact .nil e
 unfold BZ at hg
 split at hg
 ·cases hg;have:=hC.1;subst this;exact .rep (by cases hx with|rep h=>exact h)
 ·cases hg;exact .rep (by cases hx with|rep h=>exact h)
 ·cases hg;have:=hC.1;subst this;rw [uo hx];exact .nil _
 ·cases hg;have:=hC.1;subst this;rw [uo hx];exact .rep (i9 none 0 0 _ (by simp) (by simp) (by simp))
 ·split at hg
  ·rename_i hb
   cases hg
   have:=hC.1
   subst this
   rw [←Nat.eq_of_beq_eq_true hb]
   exact .rep (pX hx)
  ·cases hg
 ·cases hg;have:=hC.1;subst this;exact .rep (by cases hx with|rep h=>exact h)
 ·cases hg
  obtain ⟨h1,h2,-⟩:=hC
  subst h1;subst h2
  exact .rep (by cases hx with|rep h=>exact h)
 ·split at hg
  ·rename_i hb
   cases hg
   have:=hC.1
   subst this
   rw [←Nat.eq_of_beq_eq_true hb]
   exact .rep (by cases hx with|rep h=>exact h)
  ·cases hg
 ·rename_i id e row
  split at hg
  ·rename_i e' fu cells hr
   split at hg
   ·rename_i hb
    have hb:=Nat.eq_of_beq_eq_true hb
    cases hg
    have:=hC.1
    subst this
    subst hb
    cases hx with
    | rep h=>cases h
    | ref _ e2 m g l c hi hm hc hx bY =>
     obtain ⟨r',iH,h1,h2,bW⟩:=aS hi
     rw [hr] at iH;injection iH with iH;subst iH
     simp only at h1 h2
     exact own id e l c g fu cells cells hr bW (by rw [h2,hm,h1]) hc hx (by rw [h1];exact bY) (fun _ _ h=>h)
    | cm _ e2 hi =>
     obtain ⟨r',iH,h1,h2,bW⟩:=aS hi
     rw [hr] at iH;injection iH with iH;subst iH
     simp only at h2
     have:cells= []:=List.length_eq_zero_iff.1 h2
     subst this
     exact Iq id e bW
   ·cases hg
  ·cases hg
 ·rename_i id k e row
  split at hg
  ·rename_i e' fu cells hr
   split at hg
   ·rename_i hb
    have hb:=Nat.eq_of_beq_eq_true hb
    cases hg
    have:=hC.1
    subst this
    subst hb
    cases hx with
    | rep h=>cases h
    | pre _ _ e2 m g l c hi hn hm hc hx bY =>
     obtain ⟨r',iH,h1,h2,bW⟩:=aS hi
     rw [hr] at iH;injection iH with iH;subst iH
     simp only at h1 h2
     exact own id e l c g fu cells (cells.take k) hr bW (by rw [List.length_take,h2,h1,←hn];omega) hc hx (by rw [h1];exact bY) (fun j x h=>bZ _ _ _ _ h)
    | dP _ e2 hi =>
     obtain ⟨r',iH,h1,h2,bW⟩:=aS hi
     simp only [List.take_zero]
     exact Iq id e bW
   ·cases hg
  ·cases hg
 ·rename_i id off row
  split at hg
  ·rename_i e cells hr
   split at hg
   ·rename_i hp
    cases hg
    have:=hC.1
    subst this
    obtain ⟨e2,m,g,hi,hv⟩:=j6 hx
    obtain ⟨r',iH,h1,h2,bW⟩:=aS hi
    have aQ:=hs.rows id _ hr
    rw [bW] at aQ
    obtain ⟨cur,te,fr,u1,u2,u3,u4,u5⟩:=aQ
    have:blocks φ [id]= [g]:=by simp [blocks,bW]
    rw [this,hv]
    refine .box g cells cur te fr u1 u2 (u4 rfl) fun j u x hu hx=>?_
    have hd:Den (az s.H φ) (aP S0 w φ []) w u x:=u5 j u x hu hx
    exact (e_ hd (iR hp hx)).1
   ·cases hg
  ·cases hg
 ·cases hg
theorem vS {f:AV->AV->Option (List Nat×List Prop)} {R:Value->AV->List Nat->Prop} (hf:∀v x r ids C,Den (az s.H φ) (aP S0 w φ []) w v x->f x r=some (ids,C)->bx C->R v r (blocks φ ids)):∀(vs:List Value) (xs rs:List AV) (ids:List Nat) (C:List Prop),vs.length=xs.length->(∀(j:Nat) v c,vs[j]?=some v->xs[j]?=some c->Den (az s.H φ) (aP S0 w φ []) w v c)->BU f xs rs=some (ids,C)->bx C->ly R vs rs (blocks φ ids)
 | vs,[],rs,ids,C,hl,hd,hg,hC=>by
  cases vs with
  | cons=>simp at hl
  | nil =>
   cases rs with
   | nil=>cases hg;exact .nil
   | cons=>cases hg
 | vs,x::xs,[],ids,C,hl,hd,hg,hC=>by cases hg
 | [],x::xs,r::rs,ids,C,hl,hd,hg,hC=>by simp at hl
 | v::vs,x::xs,r::rs,ids,C,hl,hd,hg,hC=>by
  simp only [BU] at hg
  split at hg
  ·rename_i a C1 b D h1 h2
   cases hg
   obtain ⟨i3,hD⟩:=bO.1 hC
   rw [Eg]
   exact .cons (hf v x r a C1 (hd 0 v x rfl rfl) h1 i3) (vS hf vs xs rs b D (by simpa using hl) (fun j v c hv hc=>hd (j+1) v c (by simpa using hv) (by simpa using hc)) h2 hD)
  ·cases hg
theorem BV (hs:aI S0 w0 n [] s a w φ) {v:Value} {x r:AV} {ids:List Nat} {C:List Prop} (hx:Den (az s.H φ) (aP S0 w φ []) w v x) (hg:BW s x r=some (ids,C)) (hC:bx C):oG (aP S0 w φ []) w v r (blocks φ ids):=by
 unfold BW at hg
 split at hg
 ·obtain ⟨vs,rfl,hl,hd⟩:=kD hx
  exact .inr ⟨vs,_,rfl,rfl,vS (f:=BZ s) (R:=iv (aP S0 w φ []) w) (fun v x r ids C h1 h2 h3=>BX hs h1 h2 h3) vs _ _ ids C hl hd hg hC⟩
 ·exact .inl (BX hs hx hg hC)
theorem qP (hs:aI S0 w0 n [] s a w φ) {v:Value} {x r:AV} {ids:List Nat} {C:List Prop} (hx:Den (az s.H φ) (aP S0 w φ []) w v x) (hg:lM s x r=some (ids,C)) (hC:bx C):tQ (aP S0 w φ []) w v r (blocks φ ids):=by
 unfold lM at hg
 split at hg
 ·obtain ⟨vs,rfl,hl,hd⟩:=Af hx
  exact .inr ⟨vs,_,rfl,rfl,vS (f:=BW s) (R:=oG (aP S0 w φ []) w) (fun v x r ids C h1 h2 h3=>BV hs h1 h2 h3) vs _ _ ids C hl hd hg hC⟩
 ·exact .inl (BV hs hx hg hC)
end
def H3 (P:Program) (s:AS):ResultVar->Option (AV×List Prop)
 | .tmp t=>some (ka s t,[])
 | .cell x t=>(match ka s x with
  | .addr id off=>(match look s.H id with
   | some r=>(match IP P t,r.pure,off with
    | true,true,0=>(match eH P t with|some z=>some (.arr r.cells,[r.cells.length=z])|none=>none)
    | _,_,_=>pV P t r.pure r.cells off {})
   | none=>none)
  | _=>none)
def FY (P:Program) (s:AS):List ResultVar->Option (List AV×List Prop)
 | []=>some ([],[])
 | x::l=>match H3 P s x,FY P s l with|some (y,C),some (m,D)=>some (y::m,C++D)|_,_=>none
def ov (P:Program) (s:AS) (rs:List ResultVar) (r:AV):Option (List Prop) :=
 match FY P s rs with
 | some (xs,C)=>(match (match xs with| [x]=>lM s x r|xs=>lM s (.cw xs) r) with
  | some (ids,D)=>(match nodupB ids with|true=>some (C++D)|false=>none)
  | none=>none)
 | none=>none
section
variable {P:Program} {S0:bn} {w0 w:World} {n:Nat} {s:AS} {a:Act} {φ:Nat->Option Nat}
def nT (a:Act):ResultVar->Sem Value
 | .tmp t=>pure (a.tmps.getD t undef)
 | .cell b t=>do loadVar t (←asAddr (a.tmps.getD b undef))
theorem H2 (hs:aI S0 w0 n [] s a w φ) {x:ResultVar} {y:AV} {C:List Prop} (he:H3 P s x=some (y,C)) (hC:bx C) :
  ∃v,(nT a x).run P w= .ok v w∧Den (az s.H φ) (aP S0 w φ []) w v y:=by
 cases x with
 | tmp t=>cases he;exact ⟨_,rfl,hs.get t⟩
 | cell b t =>
  simp only [H3] at he
  split at he
  ·rename_i id off hb
   split at he
   ·rename_i r hr
    have hx:=hs.get b
    rw [hb] at hx
    obtain ⟨e,m,g,hi,hv⟩:=j6 hx
    obtain ⟨r',iH,-,-,bW⟩:=aS hi
    obtain ⟨cur,te,fr,hg,hf,hle,hc⟩:=CO hs hr bW
    have rd:∀(z:AV×List Prop) (h:Hint),pV P t r.pure r.cells off h=some z->bx z.2-> ∃v,(nT a (.cell b t)).run P w= .ok v w∧Den (az s.H φ) (aP S0 w φ []) w v z.1:=by
     intro z h hz WN
     obtain ⟨v,h1,h2⟩:=sm (I:=az s.H φ) (S:=aP S0 w φ []) hz WN ⟨g,off,none⟩ cur.toList hle (fun j u hu=>by rw [mJ,cell_of_row w g _ cur te fr hg];simpa using hu) (fun j u x hu hx=>hc j u x (by simpa using hu) hx)
     exact ⟨v,by simp only [nT];rw [hv];simp [asAddr,h1],h2⟩
    split at he
    ·rename_i tL hp
     split at he
     ·rename_i z hz
      cases he
      have hlen:=hC.1
      unfold IP at tL
      split at tL
      ·rename_i k el hu
       refine rd (.arr r.cells,[(r.cells.drop 0).take z=r.cells,r.cells.length=z]) {av:=some (.arr r.cells)} ?_ ⟨by rw [List.drop_zero,List.take_of_length_le ag],hlen,trivial⟩
       unfold pV
       rw [hz,hu,hp]
      ·cases tL
     ·cases he
    ·exact rd _ _ he hC
   ·cases he
  ·cases he
theorem yx (hs:aI S0 w0 n [] s a w φ):∀(l:List ResultVar) (ys:List AV) (C:List Prop),FY P s l=some (ys,C)->bx C ->
  ∃vs:List Value,(l.mapM (nT a)).run P w= .ok vs w∧vs.length=ys.length∧ ∀(j:Nat) v c,vs[j]?=some v->ys[j]?=some c->Den (az s.H φ) (aP S0 w φ []) w v c
 | [],ys,C,he,hC=>by cases he;exact ⟨[],rfl,rfl,fun j v c hv=>by simp at hv⟩
 | x::l,ys,C,he,hC=>by
  simp only [FY] at he
  split at he
  ·rename_i y C1 m D h1 h2
   cases he
   obtain ⟨i3,hD⟩:=bO.1 hC
   obtain ⟨v,KE,NH⟩:=H2 hs h1 i3
   obtain ⟨vs,h3,h4,h5⟩:=yx hs l m D h2 hD
   refine ⟨v::vs,?_,by simp [h4],fun j u c hu hc=>?_⟩
   ·rw [List.mapM_cons,Sem.run_bind,KE]
    simp only [Result.andThen_ok]
    rw [Sem.run_bind,h3]
    rfl
   ·cases j with
    | zero=>simp at hu hc;subst hu;subst hc;exact NH
    | succ j=>exact h5 j u c (by simpa using hu) (by simpa using hc)
  ·cases he
theorem JG (hs:aI S0 w0 n [] s a w φ) {fn:Func} {r:AV} {C:List Prop} (he:ov P s fn.results.toList r=some C) (hC:bx C) :
  ∃v O,(results fn a.tmps).run P w= .ok v w∧O.Nodup∧(∀g∈O,∃i,φ i=some g)∧tQ (aP S0 w φ []) w v r O:=by
 unfold ov at he
 split at he
 ·rename_i xs C1 hr
  split at he
  ·rename_i ids D hg
   split at he
   ·rename_i hn
    cases he
    obtain ⟨i3,hD⟩:=bO.1 hC
    obtain ⟨vs,bT,hl,hd⟩:=yx hs _ _ _ hr i3
    have hm:(fn.results.mapM (nT a)).run P w= .ok vs.toArray w:=by
     rw [Array.mapM_eq_mapM_toList,Sem.run_map,bT];rfl
    have I4:(results fn a.tmps).run P w= .ok (if h:vs.toArray.size=1 then vs.toArray[0] else .tuple vs.toArray) w:=by
     have he:results fn a.tmps=(do let vs ←fn.results.mapM (nT a);pure (if h:vs.size=1 then vs[0] else .tuple vs):Sem Value):=by
      unfold results
      congr 1
     rw [he,Sem.run_bind,hm]
     rfl
    refine ⟨_,blocks φ ids,I4,kx hs (gT hn),fun g hg=>(iD hg).imp fun i h=>h.2,?_⟩
    split at hg
    ·rename_i x
     cases vs with
     | nil=>simp at hl
     | cons v vs =>
      have:vs= []:=by simpa using hl
      subst this
      exact qP hs (hd 0 v x rfl rfl) hg hD
    ·rename_i cS
     have dv:¬vs.toArray.size=1:=by
      intro h1
      have h2:xs.length=1:=by rw [←hl];simpa using h1
      obtain ⟨x,rfl⟩:=List.length_eq_one_iff.1 h2
      exact cS x rfl
     rw [dif_neg dv]
     exact qP hs (.cw vs xs hl hd) hg hD
   ·cases he
  ·cases he
 ·cases he
end
def lx:Nat->List AV->List (Nat×AV)
 | _,[]=>[]
 | i,x::l=>(i,x)::lx (i+1) l
theorem m5:∀(l:List AV) (i j:Nat) (x:AV),look (lx i l) j=some x-> ∃k,j=i+k∧l[k]?=some x
 | [],i,j,x,h=>by cases h
 | y::l,i,j,x,h=>by
  simp only [lx,aD] at h
  by_cases e:i=j
  ·rw [if_pos e] at h;exact ⟨0,ag,by simpa using h⟩
  ·rw [if_neg e] at h
   obtain ⟨k,h1,h2⟩:=m5 l (i+1) j x h
   exact ⟨k+1,ag,by simpa using h2⟩
def xf (P:Program) (rs:List ResultVar) (r:AV):Exit->AS->Prop
 | .normal,s=>∃C,ov P s rs r=some C∧bx C
 | .ret,s=>∃C,ov P s rs r=some C∧bx C
 | _,_=>False
theorem m_ {P:Program} {fn:Func} {tmps:Array Value} {R:Ending->World->Prop}:∀(ms:List Nat) (w:World),ms.Nodup->(∀r∈ms,w.heap[r]?=some (.deferred (some []))) ->
  (∀w',w'.os=w.os->w'.tape=w.tape->w'.output=w.output->w'.heap.size=w.heap.size->(∀b,b ∉ ms->w'.heap[b]?=w.heap[b]?)-> ∃v,(results fn tmps).run P w'= .ok v w'∧R (.returned v) w') ->
  LeavesInM Fence.wide 0 P fn tmps R (ms.map mark) .returning w
 | [],w,_,_,h=>h w rfl rfl rfl rfl fun _ _=>rfl
 | r::ms,w,nd,hm,h=>by
  rw [List.nodup_cons] at nd
  refine ⟨by simp,.inl ⟨r,w.putObj r (.deferred none),rfl,run_takeDeferred (hm r (by simp)),?_⟩⟩
  refine m_ ms _ nd.2 (fun r' iH=>?_) (fun w' h1 h2 h3 h4 h5=>h w' h1 h2 h3 (by rw [h4];exact World.putObj_size) fun b hb=>?_)
  ·rw [World.putObj_heap_other fun e=>nd.1 (by rw [←e];exact iH)];exact hm r' (by simp [iH])
  ·simp only [List.mem_cons,not_or] at hb
   rw [h5 b hb.2,World.putObj_heap_other hb.1]
theorem nA.close {Z:bn} {w w' fJ:World} {n:Nat} {s:AS} {a:Act} (hd:Z.tq= []) (mw:∀b,(w.heap.size≤b∨Z.X b)->Z.S b) {S1:bn} {w1:World} {ms:List Nat} (hE:lC Z w S1 w1 ms) {φ:Nat->Option Nat} (hs:aI S1 w1 n [] s a w' φ)
  (h1:fJ.os=w'.os) (h2:fJ.tape=w'.tape) (h3:fJ.output=w'.output) (h4:fJ.heap.size=w'.heap.size) (h5:∀b,b ∉ ms->fJ.heap[b]?=w'.heap[b]?):aI Z w n [] s ⟨a.tmps,[]⟩ fJ φ:=by
 have hS:∀b,S1.S b->fJ.heap[b]?=w'.heap[b]?:=fun b hb=>h5 b fun hm=>(hE.marks b hm).2.2.2.1 hb
 have hF:∀b,aP S1 w' φ [] b->aP Z fJ φ [] b∧fJ.heap[b]?=w'.heap[b]?:=fun b hb=>⟨⟨by rw [h4];exact hb.1,hb.2.1,hb.2.2.1,hE.sub b hb.2.2.2⟩,hS b hb.2.2.2⟩
 have bW:∀id g,φ id=some g->fJ.heap[g]?=w'.heap[g]?:=fun id g hg=>hS g (hs.new g (hs.cY id g hg).1.2)
 have hL:∀id e m g,az s.H φ id=some (e,m,some g)->aW fJ g=aW w' g:=fun id e m g hi=>by
  obtain ⟨_,-,-,-,hg⟩:=aS hi
  unfold aW;rw [bW id g hg]
 refine ⟨hs.j8,hd.symm,?_,fun i av hi=>(hs.cC i av hi).mono (fun _ _ h=>h) hF hL,fun id r hr=>?_,hs.only,hs.inj,fun id g hg=>⟨⟨?_,?_⟩,by rw [h4];exact (hs.cY id g hg).2⟩,fun _ _ _ h=>(by cases h),mw⟩
 ·have k:=hE.kept.trans hs.da hE.X
  exact ⟨h1.trans k.os,h2.trans k.tape,h3.trans k.output,by rw [h4];exact k.size,fun b hb hx=>(h5 b fun hm=>by have:=(hE.marks b hm).1;omega).trans (k.block b hb hx),k.g0,k.gx⟩
 ·have aQ:=hs.rows id r hr
  unfold bJ at aQ ⊢
  cases hg:φ id with
  | none=>rw [hg] at aQ;exact aQ
  | some g =>
   rw [hg] at aQ
   obtain ⟨cur,te,fr,u1,u2,u3,u4,u5⟩:=aQ
   refine ⟨cur,te,fr,(bW id g hg).trans u1,u2,u3,u4,fun j u x hu hx=>?_⟩
   have:=u5 j u x hu hx
   unfold bh at this ⊢
   cases hp:r.pure with
   | true=>rw [hp] at this;exact this.mono hF
   | false=>rw [hp] at this;exact this.mono (fun _ _ h=>h) hF hL
 ·exact (hs.cY id g hg).1.1.imp (fun h=>h) fun h=>by rw [←hE.fix];exact h
 ·rcases (hs.cY id g hg).1.2 with h|h
  ·exact .inl (Nat.le_trans hE.kept.size h)
  ·exact hE.X g h
theorem ri {P:Program} {f:FuncId} {fn:Func} {c:Code} {args:Array Value} {w:World} {R:Ending->World->Prop} (hf:P.funcs[f]?=some fn) (hb:fn.body=some c) {Z:bn} {n:Nat} (hd:Z.tq= []) (mw:∀b,(w.heap.size≤b∨Z.X b)->Z.S b) {Q:Exit->AS->Prop} (hQ:∀e s,Q e s->e= .normal∨e= .ret)
  (h:CD P c (fun e a' w'=>∃s',Q e s'∧nA Z w n s' a' w') {tmps:=args++Array.replicate (fn.ntmps-args.size) undef,defers:=[]} w)
  (kA:∀e s' (a':Act) w',Q e s'->a'.defers= []->ie Z w n s' a' w'-> ∃v,(results fn a'.tmps).run P w'= .ok v w'∧R (.returned v) w'):Calls P f args w R:=by
 refine callsIn_wide.1 (callsIn_of_wp_marks (F:=Fence.wide) (n:=0) hf hb trivial ?_)
 refine wpIn_wide.2 (wp_mono (kR _ _ _ _ h) fun e a' w' ⟨s',hq,S1,w1,ms,hE,φ,hs⟩=>?_)
 have fin:LeavesInM Fence.wide 0 P fn a'.tmps R a'.defers .returning w':=by
  have N_:a'.defers=ms.map mark:=by rw [hs.ke,hE.tq,hd,List.append_nil]
  rw [N_]
  refine m_ ms w' hE.nodup (fun r hr=>?_) (fun fJ h1 h2 h3 h4 h5=>kA e s' ⟨a'.tmps,[]⟩ fJ hq rfl ⟨φ,nA.close hd mw hE hs h1 h2 h3 h4 h5⟩)
  obtain ⟨-,k2,k3,-,k5⟩:=hE.marks r hr
  exact (hs.da.block r k2 k5).trans k3
 rcases hQ e s' hq with rfl|rfl
 ·exact fin
 ·exact fin
theorem bG.qA {P:Program} {f:FuncId} {fn:Func} {c:Code} {args:List AV} {r:AV} (hf:P.funcs[f]?=some fn) (hb:fn.body=some c) (n:Nat) (hn:fn.ntmps=n) (gZ:args.length≤n) (h:bg P n c (xf P fn.results.toList r) ⟨lx 0 args,[]⟩):bG P f args r:=by
 intro w S vs ko hS hl bU
 let Z:bn:=⟨fun b=>S b∨w.heap.size≤b,fun _=>False,fun _=>none,[]⟩
 have MO:aI Z w n [] ⟨lx 0 args,[]⟩ {tmps:=vs.toArray++Array.replicate (fn.ntmps-vs.toArray.size) undef,defers:=[]} w (fun _=>none):=by
  refine ⟨by simp;omega,rfl,⟨rfl,rfl,rfl,Nat.le_refl _,fun _ _ _=>rfl,ko,fun _ _ h=>h⟩,fun i av hi=>?_,fun id r hr=>(by cases hr),fun _ _=>rfl,fun _ _ _ h=>(by cases h),fun _ _ h=>(by cases h),fun _ _ h=>(by cases h),fun b hb=>Or.inr (hb.elim id fun h=>h.elim)⟩
  obtain ⟨k,rfl,hk⟩:=m5 args 0 i av hi
  have iY:k<vs.length:=by have:=(List.getElem?_eq_some_iff.1 hk).1;omega
  have hv:vs[k]?=some vs[k]:=List.getElem?_eq_getElem iY
  have e:(vs.toArray++Array.replicate (fn.ntmps-vs.toArray.size) undef).getD (0+k) undef=vs[k]:=by
   rw [Nat.zero_add,Array.getD_eq_getD_getElem?,Array.getElem?_append_left (by simpa using iY)]
   simp [iY]
  simp only [e]
  exact .rep ((bU k vs[k] av hv hk).mono fun b hb=>⟨⟨hS b hb,by simp,fun _ h=>(by cases h),Or.inl hb⟩,rfl⟩)
 refine ri hf hb (Z:=Z) rfl (fun b hb=>Or.inr (hb.elim id fun h=>h.elim)) (Q:=xf P fn.results.toList r) (fun e s hq=>by cases e<;>first|exact .inl rfl|exact .inr rfl|exact hq.elim) (h Z w _ w ⟨_,MO⟩) fun e s' a' w' hq hd ⟨φ,bY⟩=>?_
 have hq:∃C,ov P s' fn.results.toList r=some C∧bx C:=by cases e<;>first|exact hq|exact hq.elim
 obtain ⟨C,he,hC⟩:=hq
 obtain ⟨v,O,bT,iI,hO,hg⟩:=JG bY he hC
 refine ⟨v,bT,v,O,rfl,bY.da.below (fun _ h=>h),iI,fun g hg=>?_,hg.mono fun b hb=>?_⟩
 ·obtain ⟨i,hi⟩:=hO g hg
  exact ⟨(bY.cY i g hi).1.2.elim id fun h=>h.elim,(bY.cY i g hi).2⟩
 ·rcases hb.2.2.2 with h1|h1
  ·exact .inl h1
  ·exact .inr ⟨h1,hb.1,fun hm=>by obtain ⟨i,hi⟩:=hO b hm;exact hb.2.2.1 i hi⟩
def dE (fn:Func):Code:=match fn.body with|some c=>c|none=>.skip
theorem bG.Im {P:Program} {f:FuncId} {fn:Func} {args:List AV} {r:AV} (hf:P.funcs[f]?=some fn) (hb:fn.body.isSome=true) (n:Nat) (hn:fn.ntmps=n) (gZ:Nat.ble args.length n=true) (h:bg P n (dE fn) (xf P fn.results.toList r) ⟨lx 0 args,[]⟩):bG P f args r:=by
 cases vN:fn.body with
 | none=>rw [vN] at hb;cases hb
 | some c =>
  have:dE fn=c:=by unfold dE;rw [vN]
  rw [this] at h
  exact bG.qA hf vN n hn (Nat.le_of_ble_eq_true gZ) h
theorem bg.mj {P:Program} {n:Nat} {c:Code} {Q:Exit->AS->Prop} {s s':AS} {C:List Prop} (k:Nat) (l:List qa) (hk:Nat.beq l.length k=true) (he:lj P n l c s=some (s',C)) (hC:bx C) (h:bg P n (qY k c) Q s'):bg P n c Q s:=by
 rw [←Nat.eq_of_beq_eq_true hk] at h
 exact bg.PI l he hC h
theorem xf.K6 {P:Program} {rs:List ResultVar} {r:AV} {s:AS} {C:List Prop} (he:ov P s rs r=some C) (hC:bx C):xf P rs r .ret s:=⟨C,he,hC⟩
section
variable {P:Program} {n:Nat} {c:Code} {Q:Exit->AS->Prop} {K:AS->Prop} {s s1 s2:AS}
theorem bg.Ka {x:Operand} {b:Bool} (hc:lO c=some x) (hx:bq s x= .val (.bool b)) (hb:b=true) (h:bg P n (pn c) Q s):bg P n c Q s:=bg.cond hc hx (fun _=>h) (fun e=>by rw [hb] at e;cases e)
theorem bg.Kb {x:Operand} {b:Bool} (hc:lO c=some x) (hx:bq s x= .val (.bool b)) (hb:b=false) (h:bg P n (pC c) Q s):bg P n c Q s:=bg.cond hc hx (fun e=>by rw [hb] at e;cases e) (fun _=>h)
theorem bg.Re {x:Operand} {p:Prop} [Decidable p] (hc:lO c=some x) (hx:bq s x= .val (.bool (decide p))) (ht:p->bg P n (pn c) Q s) (hf:¬p->bg P n (pC c) Q s):bg P n c Q s:=bg.cond hc hx (fun e=>ht (of_decide_eq_true e)) (fun e=>hf (of_decide_eq_false e))
theorem bg.Kc {α:Type} [BEq α] [LawfulBEq α] {x:Operand} {u v:α} (hc:lO c=some x) (hx:bq s x= .val (.bool (u == v))) (ht:u=v->bg P n (pn c) Q s) (hf:u≠v->bg P n (pC c) Q s):bg P n c Q s:=bg.cond hc hx (fun e=>ht (eq_of_beq e)) (fun e=>hf (by simpa using e))
theorem bg.Rd {α:Type} [BEq α] [LawfulBEq α] {x:Operand} {u v:α} (hc:lO c=some x) (hx:bq s x= .val (.bool (u != v))) (ht:u≠v->bg P n (pn c) Q s) (hf:u=v->bg P n (pC c) Q s):bg P n c Q s:=bg.cond hc hx (fun e=>ht (by simpa using e)) (fun e=>hf (by simpa using e))
theorem bg.join (J:AS) (hc:Bx c=true) (h1:bg P n (iK c) (sK (fun s'=>bQ s' J) Q) s) (h2:bg P n (dV c) Q J):bg P n c Q s:=by
 refine bg.seq hc (h1.mono fun e s' hq=>?_)
 cases e with
 | normal=>exact bg.nL hq h2
 | _=>exact hq
theorem bg.ob {ι:Type} (J:ι->AS) (Inv:ι->Prop) (hc:Bx c=true) (h1:bg P n (iK c) (sK (fun s'=>∃x,Inv x∧bQ s' (J x)) Q) s) (h2:∀x,Inv x->bg P n (dV c) Q (J x)):bg P n c Q s :=
 bg.seq hc (bg.mono h1 fun e s' h=>by
  cases e with
  | normal=>obtain ⟨x,hx,hw⟩:=h;exact bg.nL hw (h2 x hx)
  | exit _=>exact h
  | ret=>exact h
  | _=>exact h)
theorem al (h:K s):sK K Q .normal s:=h
theorem a6 {id:Nat} (h:Q (.exit id) s):sK K Q (.exit id) s:=h
theorem aK (h:Q .ret s):sK K Q .ret s:=h
theorem aJ {id:Nat} (h:Q .normal s):OX id Q .normal s:=h
theorem bc {id:Nat} (h:Q .ret s):OX id Q .ret s:=h
theorem bm {id:Nat} (h:Q .normal s):OX id Q (.exit id) s:=by show (if _ then _ else _);rw [if_pos rfl];exact h
theorem PX {id i:Nat} (hi:Nat.beq i id=false) (h:Q (.exit i) s):OX id Q (.exit i) s:=by show (if _ then _ else _);rw [if_neg (Nat.ne_of_beq_eq_false hi)];exact h
theorem bQ.of (l:List Wk) (he:wk l s=some s1) (e:s1=s2):bQ s s2:=e ▸ uD l he
theorem aH {ι:Type} {I:ι->AS} {Inv:ι->Prop} {m:ι->Nat} {x:ι} (y:ι) (h1:Inv y) (h2:m y<m x) (h3:bQ s (I y)):Round I Inv m Q x .normal s:=⟨y,h1,h2,h3⟩
theorem aM {ι:Type} {I:ι->AS} {Inv:ι->Prop} {m:ι->Nat} {x:ι} {id:Nat} (h:Q (.exit id) s):Round I Inv m Q x (.exit id) s:=h
theorem dN {ι:Type} {I:ι->AS} {Inv:ι->Prop} {m:ι->Nat} {x:ι} (h:Q .ret s):Round I Inv m Q x .ret s:=h
end
def u64 (n:Int):UInt64:=UInt64.ofInt n
def u8 (n:Int):UInt8:=UInt8.ofInt n
theorem Az (n:Int):IntKind.u64.wrap n=wv (u64 n):=by
 unfold wv u64;rw [IntKind.wrap_u64]
 simp [UInt64.ofInt]
 omega
theorem Kh (n:Int):IntKind.u8.wrap n=bv (u8 n):=by
 unfold bv u8;rw [IntKind.wrap_u8]
 simp [UInt8.ofInt]
 omega
abbrev aw (x:UInt64):AV:=.val (.int .u64 (wv x))
abbrev ab (x:UInt8):AV:=.val (.int .u8 (bv x))
abbrev ai (n:Int):AV:=.val (.int .i64 n)
abbrev ao (b:Bool):AV:=.val (.bool b)
abbrev cV (s:List UInt8):AV:=.val (.string ⟨s.toArray⟩)
theorem eN {n:Int} (h1: -9223372036854775808≤n) (h2:n≤9223372036854775807):AV.val (.int .i64 (IntKind.i64.wrap n))= .val (.int .i64 n):=by
 rw [show IntKind.i64.wrap n=n by rw [IntKind.wrap_i64];omega]
theorem a7 (n:Int):AV.val (.int .u64 (IntKind.u64.wrap n))=aw (u64 n):=by rw [Az]
theorem ji (n:Int):AV.val (.int .u8 (IntKind.u8.wrap n))=ab (u8 n):=by rw [Kh]
theorem Ei (c:UInt8):AV.val (.int .u64 (IntKind.u64.wrap (bv c)))=aw c.toUInt64:=by
 rw [Rh,show IntKind.u64.wrap (wv c.toUInt64)=wv c.toUInt64 by have:=Pz c.toUInt64;have:=Mj c.toUInt64;rw [IntKind.wrap_u64];omega]
theorem jh (x y:UInt64):AV.val (.int .u64 (IntKind.u64.wrap ((BitVec.ofInt IntKind.u64.bits (wv x)&&&BitVec.ofInt IntKind.u64.bits (wv y)).toNat:Nat)))=aw (x&&&y):=congrArg (fun n=>AV.val (.int .u64 n)) (M7 x y)
theorem p8 (x y:UInt64):AV.val (.int .u64 (IntKind.u64.wrap ((BitVec.ofInt IntKind.u64.bits (wv x)|||BitVec.ofInt IntKind.u64.bits (wv y)).toNat:Nat)))=aw (x|||y):=congrArg (fun n=>AV.val (.int .u64 n)) (Px x y)
theorem cI (x y:UInt64):AV.val (.int .u64 (IntKind.u64.wrap ((BitVec.ofInt IntKind.u64.bits (wv x)^^^BitVec.ofInt IntKind.u64.bits (wv y)).toNat:Nat)))=aw (x^^^y):=congrArg (fun n=>AV.val (.int .u64 n)) (M0 x y)
theorem Mg (x y:UInt8):AV.val (.int .u8 (IntKind.u8.wrap ((BitVec.ofInt IntKind.u8.bits (bv x)&&&BitVec.ofInt IntKind.u8.bits (bv y)).toNat:Nat)))=ab (x&&&y):=congrArg (fun n=>AV.val (.int .u8 n)) (bv_and x y)
theorem FB (x y:UInt8):AV.val (.int .u8 (IntKind.u8.wrap ((BitVec.ofInt IntKind.u8.bits (bv x)^^^BitVec.ofInt IntKind.u8.bits (bv y)).toNat:Nat)))=ab (x^^^y):=congrArg (fun n=>AV.val (.int .u8 n)) (OL x y)
theorem fB (x:UInt64) (n:Int) (h0:0≤n) (h1:n<64):AV.val (.int .u64 ((wv x).fdiv (2^min n.toNat IntKind.u64.bits)))=aw (x>>>UInt64.ofNat n.toNat):=by
 rw [show min n.toNat IntKind.u64.bits=n.toNat from Nat.min_eq_left (by show n.toNat≤64;omega),Int.fdiv_eq_ediv_of_nonneg _ (Int.pow_nonneg (by decide)),M1 x n.toNat ag]
theorem jP (x:UInt64) (n:Int) (h0:0≤n) (h1:n<64):AV.val (.int .u64 (IntKind.u64.wrap (wv x*2^min n.toNat IntKind.u64.bits)))=aw (x<<<UInt64.ofNat n.toNat):=by
 rw [show min n.toNat IntKind.u64.bits=n.toNat from Nat.min_eq_left (by show n.toNat≤64;omega),M3 x n.toNat ag]
theorem OM (x:UInt8) (k:Nat) (hk:k<8):bv x/2^k=bv (x>>>UInt8.ofNat k):=by
 unfold bv
 rw [UInt8.toNat_shiftRight,UInt8.toNat_ofNat_of_lt' (by show k<2^8;omega),Nat.mod_eq_of_lt hk,Nat.shiftRight_eq_div_pow]
 simp [Int.natCast_ediv,Int.natCast_pow]
theorem OO (x:UInt8) (k:Nat) (hk:k<8):IntKind.u8.wrap (bv x*2^k)=bv (x<<<UInt8.ofNat k):=by
 unfold bv
 rw [IntKind.wrap_u8,UInt8.toNat_shiftLeft,UInt8.toNat_ofNat_of_lt' (by show k<2^8;omega),Nat.mod_eq_of_lt hk,Nat.shiftLeft_eq]
 simp [Int.natCast_emod,Int.natCast_mul,Int.natCast_pow]
theorem Me (x:UInt8) (n:Int) (h0:0≤n) (h1:n<8):AV.val (.int .u8 ((bv x).fdiv (2^min n.toNat IntKind.u8.bits)))=ab (x>>>UInt8.ofNat n.toNat):=by
 rw [show min n.toNat IntKind.u8.bits=n.toNat from Nat.min_eq_left (by show n.toNat≤8;omega),Int.fdiv_eq_ediv_of_nonneg _ (Int.pow_nonneg (by decide)),OM x n.toNat ag]
theorem Mf (x:UInt8) (n:Int) (h0:0≤n) (h1:n<8):AV.val (.int .u8 (IntKind.u8.wrap (bv x*2^min n.toNat IntKind.u8.bits)))=ab (x<<<UInt8.ofNat n.toNat):=by
 rw [show min n.toNat IntKind.u8.bits=n.toNat from Nat.min_eq_left (by show n.toNat≤8;omega),OO x n.toNat ag]
theorem fe (x y:UInt64):AV.val (.bool (wv x == wv y))=ao (x == y):=by rw [Hv]
theorem cG (x y:UInt64):AV.val (.bool (wv x != wv y))=ao (x != y):=by rw [M6]
theorem OT (x y:UInt8):AV.val (.bool (bv x == bv y))=ao (x == y):=by rw [bv_beq]
theorem Ak {a b:Int} (h:0≤a) (h1:a≤9223372036854775807) (hb:1≤b):AV.val (.int .i64 (IntKind.i64.wrap (a.tdiv b)))=ai (a/b):=by
 rw [Int.tdiv_eq_ediv_of_nonneg h]
 exact eN (by have:=Int.ediv_nonneg h (by omega:0≤b);omega) (by have:=Int.ediv_le_self b h;omega)
theorem fF (a b:List UInt8):AV.val (.bool ((⟨a.toArray⟩:ByteArray).toList == (⟨b.toArray⟩:ByteArray).toList))=ao (a == b):=by simp
theorem HJ (a b:List UInt8):AV.val (.bool (!((⟨a.toArray⟩:ByteArray).toList == (⟨b.toArray⟩:ByteArray).toList)))=ao (a != b):=by
 have:=fF a b
 injection this with this;injection this with this
 rw [this];rfl
theorem o_ {l:List UInt8} {k:Nat} (h:k<l.length):(aj l)[k]?=some (ab (l.getD k 0)):=by simp [aj,h]
theorem dX {l:List UInt64} {k:Nat} (h:k<l.length):(ah l)[k]?=some (aw (l.getD k 0)):=by simp [ah,h]
theorem k_ {l:List Int} {k:Nat} (h:k<l.length):(au l)[k]?=some (ai (l.getD k 0)):=by simp [au,h]
theorem db (a b:List UInt8):aj a++aj b=aj (a++b):=by simp [aj]
theorem jt (a b:List UInt64):ah a++ah b=ah (a++b):=by simp [ah]
theorem Gl (a b:List Int):au a++au b=au (a++b):=by simp [au]
theorem kO (a:List UInt64) (k:Nat) (c:UInt64):(ah a).set k (aw c)=ah (a.set k c):=by simp [ah,List.map_set]
theorem Gk (a:List Int) (k:Nat) (c:Int):(au a).set k (ai c)=au (a.set k c):=by simp [au,List.map_set]
theorem tt (a:List UInt8) (k:Nat):(aj a).take k=aj (a.take k):=by simp [aj,List.map_take]
theorem tu (a:List UInt8) (k:Nat):(aj a).drop k=aj (a.drop k):=by simp [aj,List.map_drop]
theorem uC (n:Nat):List.replicate n (AV.val (.int .u64 0))=ah (List.replicate n 0):=by simp [ah,wv]
theorem sE {n:Int} (h1:0≤n) (h2:n<18446744073709551616):AV.val (.int .u64 (IntKind.u64.wrap n))= .val (.int .u64 n):=by
 rw [show IntKind.u64.wrap n=n by rw [IntKind.wrap_u64];omega]
def af {T:Type} (f:T->List AV) (l:List T):List AV:=l.flatMap f
section
variable {T:Type} {f:T->List AV} {e:Nat}
theorem jA (x:T) (l:List T):af f (x::l)=f x++af f l:=rfl
theorem fb (a b:List T):af f a++af f b=af f (a++b):=by simp [af]
theorem JY (x:T):af f [x]=f x:=by simp [af]
theorem aE (he:∀x,(f x).length=e) (l:List T):(af f l).length=l.length*e:=by
 induction l with
 | nil=>simp [af]
 | cons x l ih=>rw [jA,List.length_append,ih,he,List.length_cons,Nat.succ_mul];omega
theorem mE (he:∀x,(f x).length=e) (l:List T) (k:Nat):(af f l).drop (k*e)=af f (l.drop k):=by
 induction k generalizing l with
 | zero=>simp
 | succ k ih =>
  cases l with
  | nil=>simp [af]
  | cons x l =>
   rw [jA,List.drop_succ_cons,←ih l,Nat.succ_mul,Nat.add_comm,←List.drop_drop,List.drop_append_of_le_length (by rw [he];omega),show List.drop e (f x)= [] from List.drop_eq_nil_of_le (by rw [he];omega),List.nil_append]
theorem mD (he:∀x,(f x).length=e) (l:List T) (k:Nat):(af f l).take (k*e)=af f (l.take k):=by
 induction k generalizing l with
 | zero=>simp [af]
 | succ k ih =>
  cases l with
  | nil=>simp [af]
  | cons x l =>
   rw [jA,List.take_succ_cons,jA,←ih l,Nat.succ_mul,Nat.add_comm,List.take_append,he,show e+k*e-e=k*e by omega,List.take_of_length_le (by rw [he];omega)]
theorem kM [Inhabited T] (he:∀x,(f x).length=e) {l:List T} {k:Nat} (hk:k<l.length):((af f l).drop (k*e)).take e=f (l.getD k default):=by
 rw [mE he,List.drop_eq_getElem_cons hk,jA,List.take_append_of_le_length (by rw [he];omega),List.take_of_length_le (by rw [he];omega)]
 simp [hk]
theorem o7 [Inhabited T] (he:∀x,(f x).length=e) {l:List T} {k j:Nat} {c:AV} (hk:k<l.length) (hj:(f (l.getD k default))[j]?=some c):(af f l)[k*e+j]?=some c:=by
 have h1:j<e:=by
  have:=(List.getElem?_eq_some_iff.1 hj).1
  rw [he] at this;exact this
 rw [←kM he hk,List.getElem?_take_of_lt h1,List.getElem?_drop] at hj
 exact hj
theorem JX [Inhabited T] (he:∀x,(f x).length=e) {l:List T} {k j z:Nat} {cs:List AV} (hk:k<l.length) (hz:j+z≤e) (hj:((f (l.getD k default)).drop j).take z=cs):((af f l).drop (k*e+j)).take z=cs:=by
 rw [←hj,←kM he hk,List.drop_take,List.take_take,Nat.min_eq_left ag,List.drop_drop]
theorem dm (hf:∀x,cp (f x)) (l:List T):cp (af f l):=by
 intro x hx
 simp only [af,List.mem_flatMap] at hx
 obtain ⟨y,_,h⟩:=hx
 exact hf y x h
end
theorem bG.len {P:Program} {f:FuncId} {args:List AV} {r:AV} (i:Nat) {e:Nat} {row:List AV} (hi:args[i]?=some (.sl e row)) (h:row.length≤e*9223372036854775807->bG P f args r):bG P f args r:=by
 intro w S vs ko hS hl hr
 have cW:i<vs.length:=by rw [hl];exact (List.getElem?_eq_some_iff.1 hi).1
 have bU:=hr i vs[i] _ (List.getElem?_eq_getElem cW) hi
 refine h ?_ w S vs ko hS hl hr
 generalize vs[i]=v at bU
 cases bU with
 | sl A n c e us row hl hn hc hm ha h =>
  rw [hn]
  refine Nat.mul_le_mul_left e ?_
  simp only [maxLen] at hm
  omega
theorem u9 {α:Type} (g:Nat->α) (j:Nat):(List.range j).map g++ [g j]=(List.range (j+1)).map g:=by rw [List.range_succ,List.map_append];rfl
theorem fR {T:Type} {f:T->List AV} (l:List T) (x:T):af f l++f x=af f (l++ [x]):=by rw [←fb,JY]
theorem GU {T:Type} {f:T->List AV} (g:Nat->T) (j:Nat):af f ((List.range j).map g)++f (g j)=af f ((List.range (j+1)).map g):=by rw [fR,u9]
end Go.Proofs.YtjgbhhnghedgdaaGreatDoor
namespace Go.Proofs.YtjgbhhnghedgdaaGreatDoor
open Go.RowKit Go.ChangeShapes Go.WideShapes Go.ChangeAt
def nt (P:Program) (t:TypeId) {T:Type} (f:T->List AV) (ok:T->Prop):Prop :=
 ∀(H:Type) (enc:TypeId×Value->H) (w:World) (fuel:Nat) (cs:List Value) (x:DataW H×List MemPlace),DataW.trod enc P w 0 (fun _=>true) true fuel t cs=some x ->
  ∃a,ok a∧(f a).length=cs.length∧ ∀(j:Nat) u y,cs[j]?=some u->(f a)[j]?=some y->cz (fun b=>b<w.heap.size) w u y
def Rm (P:Program) (t:TypeId) {T:Type} (g:T->AV) (ok:T->Prop):Prop :=
 ∀(H:Type) (enc:TypeId×Value->H) (w:World) (base:Nat) (v:Value) (d:DataW H) (ps:List MemPlace),Value.okWide P w .any base t v->DataW.Trod enc P w 0 (fun _=>true) true t v d ps ->
  ∃a,ok a∧cz (fun b=>b<w.heap.size) w v (g a)
section
variable {P:Program} {t:TypeId} {T T':Type} {f:T->List AV} {ok:T->Prop}
theorem nt.map (h:nt P t f ok) (g:T->T') {f':T'->List AV} {Uu:T'->Prop} (hf:∀a,ok a->f' (g a)=f a) (ho:∀a,ok a->Uu (g a)):nt P t f' Uu:=by
 intro H enc w fuel cs x hx
 obtain ⟨a,h1,h2,h3⟩:=h H enc w fuel cs x hx
 exact ⟨g a,ho a h1,by rw [hf a h1];exact h2,by rw [hf a h1];exact h3⟩
theorem kX {S:Nat->Prop} {w:World} {v:Value} {x:AV} (h:cz S w v x) (j:Nat) (u:Value) (y:AV) (hu:[v][j]?=some u) (hy:[x][j]?=some y):cz S w u y:=by
 cases j with
 | zero=>simp at hu hy;subst hu hy;exact h
 | succ j=>simp at hu
theorem F9 (ht:P.underlying t=some (.int .u64)):nt P t (fun c:UInt64=>[aw c]) (fun _=>True):=by
 intro H enc w fuel cs x hx
 obtain ⟨n,rfl,_,hw⟩:=DataW.trod_int ht hx
 obtain ⟨c,rfl⟩:=KQ n hw
 exact ⟨c,trivial,rfl,kX (.val _)⟩
abbrev xN (n:Int):Prop:= -9223372036854775808≤n∧n≤9223372036854775807
theorem qs (ht:P.underlying t=some (.int .i64)):nt P t (fun c:Int=>[ai c]) xN:=by
 intro H enc w fuel cs x hx
 obtain ⟨n,rfl,_,hw⟩:=DataW.trod_int ht hx
 refine ⟨n,?_,rfl,kX (.val _)⟩
 simpa [Lit.wf,IntKind.min,IntKind.max,IntKind.signed,IntKind.bits] using hw
theorem Bh (ht:P.underlying t=some .string):nt P t (fun s:List UInt8=>[cV s]) (fun s=>s.length≤9223372036854775807):=by
 intro H enc w fuel cs x hx
 obtain ⟨s,rfl,_,hs⟩:=DataW.trod_string ht hx
 refine ⟨s.data.toList,?_,rfl,kX ?_⟩
 ·show s.data.toList.length≤_;rw [Array.length_toList];exact hs
 ·show cz _ _ _ (.val (.string ⟨s.data.toList.toArray⟩));rw [show (⟨s.data.toList.toArray⟩:ByteArray)=s by simp];exact .val _
theorem Ix {α β:Type} {g:α->Option β}:∀ {l:List α} {m:List β},l.mapM g=some m->m.length=l.length∧ ∀(i:Nat) (a:α),l[i]?=some a->g a=m[i]?:=by
 intro l
 induction l with
 | nil=>intro m h;simp at h;subst h;simp
 | cons a l ih =>
  intro m h
  simp only [List.mapM_cons,Option.bind_eq_bind,Option.bind_eq_some_iff,Option.pure_def,Option.some.injEq] at h
  obtain ⟨b,hb,m',hm,rfl⟩:=h
  obtain ⟨h1,h2⟩:=ih hm
  refine ⟨by simp [h1],fun i x hx=>?_⟩
  cases i with
  | zero=>simp at hx;subst hx;simpa using hb
  | succ i=>simpa using h2 i x (by simpa using hx)
theorem Kg {w:World} {ad:Addr} {n:Nat} {cs:List Value} (h:w.cells? 0 ad n=some cs):cs.length=n∧ ∀j,j<n->w.cell? (ad.add j)=cs[j]?:=by
 simp only [World.cells?,Nat.zero_le,if_true] at h
 obtain ⟨h1,h2⟩:=Ix h
 exact ⟨by simpa using h1,fun j hj=>h2 j j (by simp [hj])⟩
theorem DZ {H:Type} {enc:TypeId×Value->H} {w:World} {fuel e:Nat} (hC:nt P t f ok) (ad:Addr):∀(n:Nat) (elems:List (DataW H×List MemPlace)),n≤elems.length ->
  (∀i,i<n->(w.cells? 0 (ad.add (i*e)) e).bind (DataW.trod enc P w 0 (fun _=>true) true fuel t)=elems[i]?) ->
  ∃(l:List T) (us:List Value),l.length=n∧(∀a∈l,ok a)∧us.length=n*e∧(af f l).length=n*e∧(∀(j:Nat) u,us[j]?=some u->w.cell? (ad.add j)=some u)∧ ∀(j:Nat) u y,us[j]?=some u->(af f l)[j]?=some y->cz (fun b=>b<w.heap.size) w u y:=by
 intro n
 induction n with
 | zero=>intro elems _ _;exact ⟨[],[],rfl,by simp,by simp,by simp [af],by simp,by simp⟩
 | succ n ih =>
  intro elems hn LH
  obtain ⟨l,us,h1,h2,h3,h4,h5,h6⟩:=ih elems ag (fun i hi=>LH i ag)
  have hx:=LH n ag
  rw [List.getElem?_eq_getElem ag] at hx
  rw [Option.bind_eq_some_iff] at hx
  obtain ⟨cs,uf,VJ⟩:=hx
  obtain ⟨fi,Wt⟩:=Kg uf
  obtain ⟨a,ha,wN,gu⟩:=hC H enc w fuel cs _ VJ
  refine ⟨l++ [a],us++cs,by simp [h1],?_,?_,?_,?_,?_⟩
  ·intro b hb
   rcases List.mem_append.1 hb with hb|hb
   ·exact h2 b hb
   ·simp at hb;subst hb;exact ha
  ·rw [List.length_append,h3,fi,Nat.add_mul];omega
  ·rw [←fR,List.length_append,h4,wN,fi,Nat.add_mul];omega
  ·intro j u hu
   by_cases hj:j<us.length
   ·rw [List.getElem?_append_left hj] at hu;exact h5 j u hu
   ·rw [List.getElem?_append_right ag] at hu
    have cW:j-us.length<e:=by
     have:=(List.getElem?_eq_some_iff.1 hu).1;omega
    have:=Wt (j-us.length) cW
    rw [hu,Addr.add_add] at this
    rw [←this];congr 2;omega
  ·intro j u y hu hy
   rw [←fR] at hy
   by_cases hj:j<us.length
   ·rw [List.getElem?_append_left hj] at hu
    rw [List.getElem?_append_left ag] at hy
    exact h6 j u y hu hy
   ·rw [List.getElem?_append_right ag] at hu
    rw [List.getElem?_append_right ag,h4,←h3] at hy
    exact gu _ u y hu hy
theorem CT {te:TypeId} {e:Nat} (ht:P.underlying t=some (.slice te)) (he:P.cellsOf te=e) (hC:nt P te f ok):nt P t (fun l:List T=>[.sl e (af f l)]) (fun l=>∀a∈l,ok a):=by
 intro H enc w fuel cs x hx
 rcases DataW.trod_slice ht hx with ⟨rfl,_⟩|⟨a,len,cap,elems,rest,n,_,rfl,O6,_,Gr,ug,LH,gM,_,_⟩
 ·exact ⟨[],by simp,rfl,kX (i9 none 0 0 e (by simp) (Nat.le_refl _) (by simp))⟩
 ·rw [he] at gM
  obtain ⟨l,us,h1,h2,h3,h4,h5,h6⟩:=DZ hC a len elems ag gM
  refine ⟨l,h2,rfl,kX (.sl _ _ _ _ us _ (h3.trans h4.symm) (by rw [h4,Nat.mul_comm]) Gr ug (fun h0=>⟨a,rfl,?_,h5⟩) h6)⟩
  have hu:0<us.length:=ag
  have:=h5 0 us[0] (List.getElem?_eq_getElem hu)
  have hb:w.heap[(a.add 0).block]?≠none:=by
   intro hn
   rw [World.cell?,hn] at this
   cases this
  rw [gX] at hb
  exact Nat.lt_of_not_le fun hle=>hb (Array.getElem?_eq_none hle)
def PR (P:Program) (t:TypeId):Bool:=match P.underlying t with|some (.int _)|some .string|some .bool|some (.slice _)=>true|_=>false
theorem nt.one {g:T->AV} (h:nt P t (fun a=>[g a]) ok) (ht:PR P t=true):Rm P t g ok:=by
 intro H enc w base v d ps hv hd
 obtain ⟨fuel,hd⟩:=hd
 have hc:v.cells= #[v]:=by
  simp only [PR] at ht
  split at ht
  ·rename_i hu;obtain ⟨n,rfl⟩:=okWide_int hu hv;rfl
  ·rename_i hu
   simp only [Value.okWide,hu,Cell.okWide] at hv
   cases v<;>simp_all [Cell.ok]
   rfl
  ·rename_i hu
   simp only [Value.okWide,hu,Cell.okWide] at hv
   cases v<;>simp_all [Cell.ok]
   rfl
  ·rename_i hu;obtain ⟨_,_,_,rfl⟩:=okWide_slice hu hv;rfl
  ·cases ht
 rw [hc] at hd
 obtain ⟨a,h1,h2,h3⟩:=h H enc w fuel _ _ hd
 exact ⟨a,h1,h3 0 _ _ rfl rfl⟩
theorem GY (l:List Int):af (fun c:Int=>[ai c]) l=au l:=by
 induction l with
 | nil=>rfl
 | cons c l ih=>rw [jA,ih];rfl
theorem F_ {te:TypeId} (ht:P.underlying t=some (.slice te)) (he:P.underlying te=some (.int .i64)) (hc:P.cellsOf te=1):nt P t (fun l:List Int=>[.sl 1 (au l)]) (fun l=>∀n∈l,xN n) :=
 (CT ht hc (qs he)).map id (fun l _=>by rw [GY];rfl) (fun _ h=>h)
end
theorem bG.law {P:Program} {f:FuncId} {args:List AV} (h:bG P f args (ao true)) (w:World) (ko:Good w) (vs:List Value) (hl:vs.length=args.length) (hr:∀(j:Nat) v x,vs[j]?=some v->args[j]?=some x->cz (fun b=>b<w.heap.size) w v x) :
  Calls P f vs.toArray w fun e w'=>e= .returned (.bool true)∧Below w.heap.size w w':=by
 refine (h w (fun b=>b<w.heap.size) vs ko (fun _ h=>h) hl hr).mono fun e w' ⟨v,O,he,hb,_,_,hg⟩=>⟨?_,hb⟩
 subst he
 rcases hg with hg|⟨_,_,_,hx,_⟩
 ·rcases hg with hg|⟨_,_,_,hx,_⟩
  ·cases hg with
   | rep bU=>cases bU;rfl
  ·cases hx
 ·cases hx
theorem K8 (S:Nat->Prop) (w:World) (j:Nat) (v:Value) (x:AV) (h:([]:List Value)[j]?=some v) (_:([]:List AV)[j]?=some x):cz S w v x:=by simp at h
theorem mi {S:Nat->Prop} {w:World} {v:Value} {x:AV} {vs:List Value} {xs:List AV} (h:cz S w v x) (h2:∀(j:Nat) v x,vs[j]?=some v->xs[j]?=some x->cz S w v x) (j:Nat) (u:Value) (y:AV) (hu:(v::vs)[j]?=some u) (hy:(x::xs)[j]?=some y):cz S w u y:=by
 cases j with
 | zero=>simp at hu hy;subst hu hy;exact h
 | succ j=>exact h2 j u y (by simpa using hu) (by simpa using hy)
theorem Below.HG {H:Type} {enc:TypeId×Value->H} {P:Program} (hl:laidOutB P=true) {W W':World} (hb:Below W.heap.size W W'):∀(ts:List TypeId) (vs:List Value) (ds:List (DataW H)) (ps:List MemPlace),(ts.all fun t=>P.readableRec t && decide (t<P.types.size))=true ->
  DataW.TrodAll enc P W 0 (fun _=>true) true ts vs ds ps->DataW.TrodAll enc P W' 0 (fun b=>decide (b<W.heap.size)) true ts vs ds ps:=by
 intro ts
 induction ts with
 | nil=>intro vs ds ps _ h;cases vs<;>cases ds<;>simp_all [DataW.TrodAll]
 | cons t ts ih =>
  intro vs ds ps hr h
  rw [List.all_cons,Bool.and_eq_true,Bool.and_eq_true] at hr
  obtain ⟨v,Xp,d,X0,p,q,rfl,rfl,rfl,h1,h2⟩:=trodAll_cons h
  have lt:∀x∈p,x.block<W.heap.size:=by obtain ⟨m,hm⟩:=h1;exact DataW.trod_lt m _ _ _ hm
  exact ⟨p,q,Below.trod hl hr.1.1 (of_decide_eq_true hr.1.2) h1 hb lt,ih _ _ _ hr.2 h2,rfl⟩
end Go.Proofs.YtjgbhhnghedgdaaGreatDoor
