import Derived.Test.YtjgbhhnghedgdaaGreatDoorZmRL
import Derived.Orders
import Derived.Tactics
import Derived.WalkKit
import Derived.ProofKit
import Derived.OpenShut
import Derived.ShutString
import Derived.ChangeOld
import Derived.Below
import Derived.RangeFuncRecord
set_option linter.all false
namespace Go.Proofs.YtjgbhhnghedgdaaGreatDoor
open Go.RowKit
def Ds (P:Program) (n:Nat) (s:AS) (d:Option Nat) (src dst id:Nat):Option (AS×List Prop) :=
 match look s.H id,P.underlying src with
 | some ⟨e,true,_,cells⟩,some (.slice el)=>(match P.underlying el,Nat.beq src dst with
  | some (.int .u8),true=>(match gr n (cp id s) d (.sl e cells) with|some s'=>some (s',[0<cells.length])|none=>none)
  | _,_=>none)
 | _,_=>none
section
variable {P:Program} {n:Nat} {s:AS} {o:Oper} {h:Hint} {q:AS×List Prop}
theorem yY {w:World} {g:Nat} {cur:Array Value} {te:TypeId} {fr:Nat×Nat} (hg:w.heap[g]?=some (.cells cur te fr)) (k:Nat):(∃Rn,(w.freeze ⟨g,k,none⟩ 1).heap[g]?=some (.cells cur te Rn))∧(w.freeze ⟨g,k,none⟩ 1).heap.size=w.heap.size∧(∀b,b≠g->(w.freeze ⟨g,k,none⟩ 1).heap[b]?=w.heap[b]?)∧(w.freeze ⟨g,k,none⟩ 1).os=w.os∧(w.freeze ⟨g,k,none⟩ 1).tape=w.tape∧(w.freeze ⟨g,k,none⟩ 1).output=w.output:=by
 unfold World.freeze
 rw [if_neg (by decide)]
 obtain ⟨lo,hi⟩:=fr
 refine ⟨⟨if lo == hi then (k,k+1) else (min lo k,max hi (k+1)),?_⟩,by simp,fun b hb=>?_,rfl,rfl,rfl⟩
 ·simp only [Array.getElem?_modify,if_true,hg,Option.map_some]
 ·simp only [Array.getElem?_modify]
  rw [if_neg (fun e=>hb e.symm)]
theorem run_mark {w:World} {t e:TypeId} {g l c:Nat} {cur:Array Value} {te:TypeId} {fr:Nat×Nat} (ht:P.underlying t=some (.slice e)) (he:P.underlying e=some (.int .u8)) (hg:w.heap[g]?=some (.cells cur te fr)) :
  (convert t t (.slice (some ⟨g,0,none⟩) l c)).run P w= .ok (.slice (some ⟨g,0,none⟩) l c) (w.freeze ⟨g,cur.size,none⟩ 1):=by
 have C8:w.shape? g=some (te,cur.size):=by unfold World.shape?;rw [hg]
 simp [convert,run_underlying ht,run_underlying he,markStringish,C8]
theorem Gx {src dst id:Nat} {x:Operand} (ho:o.op= .convert src dst x) (hx:bp s x= .ref id) (hr:Ds P n s o.dst src dst id=some q):mi P n s o q.1 q.2:=by
 intro hC S0 w0 a w Q ⟨φ,hs⟩
 unfold Ds at hr
 split at hr
 ·rename_i e f cells el lH hu
  split at hr
  ·rename_i he hb
   split at hr
   ·rename_i s' ez
    injection hr with hr;subst hr
    have U1:=Nat.eq_of_beq_eq_true hb
    subst U1
    have PY:0<cells.length:=hC.1
    have dx:=hs.bp x
    rw [hx] at dx
    generalize hv:a.eval x=v at dx
    cases dx with
    | rep b_=>cases b_
    | cD _ e' hi =>
     have nN:=bu (φ:=φ) lH
     rw [hi] at nN
     simp at nN
     omega
    | ref _ e' m g l c hi hm hc G8 b7 =>
     have nN:=bu (φ:=φ) lH
     rw [hi] at nN
     simp at nN
     obtain ⟨h1,h2,h3⟩:=nN
     subst h1 h2
     have ct:φ id=some g:=h3.symm
     have aR:=hs.rows id _ lH
     unfold bR at aR
     rw [ct] at aR
     obtain ⟨cur,te,fr,hg,hf,hle,-,bw⟩:=aR
     obtain ⟨⟨Rn,k1⟩,k2,k3,k4,k5,k6⟩:=yY hg cur.size
     have cw:(execOp a.eval o).run P w= .ok (.value (.slice (some ⟨g,0,none⟩) l c)) (w.freeze ⟨g,cur.size,none⟩ 1):=by
      unfold execOp;simp only [ho,hv,Sem.run_bind,run_mark hu he hg,Result.andThen_ok];rfl
     refine cU cw ⟨erase φ id,?_⟩
     have r1:=hs.jx id [g] (by rw [ct])
     have r2:=r1.wK (w':=w.freeze ⟨g,cur.size,none⟩ 1) (fun g' ja=>by simp at ja;rw [ja];exact (hs.cY id g ct).1.2) k4 k5 k6 ah (fun b _ hn=>k3 b (by simpa using hn))
     have r3:=r2.vf
     refine dX r3 (.rep ?_) ez
     have uX:aQ S0 (w.freeze ⟨g,cur.size,none⟩ 1) (erase φ id) [] g:=⟨by rw [k2];exact (hs.cY id g ct).2,by simp,fun i hi=>by
      unfold erase at hi
      split at hi
      ·cases hi
      ·rename_i cW;exact cW (hs.inj i id g hi ct),hs.new g (hs.cY id g ct).1.2⟩
     refine fe (r:=⟨e',true,f,cells⟩) k1 uX cells 0 (by simpa using hle) hm hc G8 _ (fun _=>rfl) (fun j u y hu hy=>?_)
     have T_:=bw j u y (by simpa using hu) hy
     unfold bh at T_
     refine cB.mono (fun b hb=>?_) T_
     have cW:b≠g:=fun e=>hb.2.2.1 id (by rw [ct,e])
     refine ⟨⟨by rw [k2];exact hb.1,by simp,fun i hi=>?_,hb.2.2.2⟩,k3 b cW⟩
     unfold erase at hi
     split at hi
     ·cases hi
     ·exact hb.2.2.1 i hi
   ·cases hr
  ·cases hr
 ·cases hr
end
def BT (P:Program) (n:Nat) (s:AS) (o:Oper) (h:Hint):Option (AS×List Prop) :=
 match qv P s o h with
 | some (x,C)=>(match gr n s o.dst x with|some s'=>some (s',C)|none=>none)
 | none=>none
def BU (P:Program) (n:Nat) (s:AS) (o:Oper) (h:Hint):Option (AS×List Prop) :=
 match o.op with
 | .alloc t=>(match o.dst with|some d=>ow P n s d t h|none=>none)
 | .box t x=>(match o.dst with|some d=>JC P n s d t (bp s x)|none=>none)
 | .buildSlice t len parts=>(match o.dst with|some d=>vm P n s d t len parts.toList h|none=>none)
 | .makeSlice t l c=>(match bp s l,bp s c,o.dst with| .val (.int _ L),.val (.int _ C),some d=>Dt P n s d t L C h|_,_,_=>none)
 | .convert src dst x=>(match bp s x,P.underlying dst,o.dst with
  | .val (.string b),some (.slice _),some d=>zl P n s d src dst b
  | .ref id,some (.slice _),_=>Ds P n s o.dst src dst id
  | _,_,_=>BT P n s o h)
 | .store t x y=>(match o.dst with|none=>y8 P s t x y h|some _=>none)
 | .call ⟨.builtin .append,⟨[x,y]⟩,⟨[t,xt]⟩⟩=>(match o.dst with|some d=>kV P n s d t xt (bp s x) (bp s y) h|none=>none)
 | .call ⟨.builtin .copy,⟨[x,y]⟩,⟨[t,xt]⟩⟩=>DF P n s o.dst t xt (bp s x) (bp s y) h
 | .call ⟨.builtin _,_,_⟩=>BT P n s o h
 | .call ⟨c,xs,_⟩=>(match h.ln with| []=>(match callee s c with|some _=>rQ P n s o.dst c xs.toList h|none=>zk P n s o.dst c xs.toList h)|_=>ov P n s o.dst c xs.toList h)
 | .makeFunc (.func f) ⟨[]⟩ ⟨xs⟩=>(match o.dst with|some d=>Dw n s d f xs|none=>none)
 | _=>BT P n s o h
section
variable {P:Program} {n:Nat} {s:AS} {o:Oper} {h:Hint} {q:AS×List Prop}
theorem vl (hr:BT P n s o h=some q):mi P n s o q.1 q.2:=by
 unfold BT at hr
 split at hr
 ·rename_i x C hp
  split at hr
  ·rename_i s' b7
   cases hr
   exact H3 (kU hp) b7
  ·cases hr
 ·cases hr
theorem ou (hr:BU P n s o h=some q):mi P n s o q.1 q.2:=by
 unfold BU at hr
 split at hr
 ·rename_i ho
  split at hr
  ·rename_i hd;exact vr ho hd hr
  ·cases hr
 ·rename_i ho
  split at hr
  ·rename_i hd;exact JB ho hd hr
  ·cases hr
 ·rename_i ho
  split at hr
  ·rename_i hd;exact BV ho hd hr
  ·cases hr
 ·rename_i ho
  split at hr
  ·rename_i hl hc hd;exact Gy ho hl hc hd hr
  ·cases hr
 ·rename_i ho
  split at hr
  ·rename_i hx _ hd;exact DI ho hx hd hr
  ·rename_i hx _;exact Gx ho hx hr
  ·exact vl hr
 ·rename_i ho
  split at hr
  ·rename_i hd;exact Dp ho hd hr
  ·cases hr
 ·rename_i ho
  split at hr
  ·rename_i hd;exact sF ho hd hr
  ·cases hr
 ·rename_i ho;exact GG ho hr
 ·exact vl hr
 ·rename_i ho
  split at hr
  ·split at hr
   ·exact xr ho hr
   ·exact DH ho hr
  ·exact vq ho hr
 ·rename_i ho
  split at hr
  ·rename_i hd;exact GD ho hd hr
  ·cases hr
 ·exact vl hr
end
def Tg (P:Program) (n:Nat) (ops:List Oper) (s:AS) (o:Oper) (h:Hint):Option (AS×List Prop) :=
 match o.guard with
 | none=>BU P n s o h
 | some (j,want)=>(match ops[j]? with
  | some p=>(match p.dst with
   | some d=>(match jU s d with
    | .val (.bool b)=>(match h.g == want with
     | true=>(match BU P n s o h with|some (s',C)=>some (s',(b=h.g)::C)|none=>none)
     | false=>(match gr n s o.dst (.val (.tuple #[])) with|some s'=>some (s',[b=h.g])|none=>none))
    | .val (.tuple _)=>(match gr n s o.dst (.val (.tuple #[])) with|some s'=>some (s',[])|none=>none)
    | _=>none)
   | none=>none)
  | none=>none)
def gC (hs:List (Nat×Hint)) (i:Nat):Hint:=match look hs i with|some h=>h|none=>{}
def j8 (P:Program) (n:Nat) (ops:List Oper) (hs:List (Nat×Hint)):List Oper->Nat->AS->Option (AS×List Prop)
 | [],_,s=>some (s,[])
 | o::l,i,s=>match Tg P n ops s o (gC hs i) with
  | some (s1,C)=>(match j8 P n ops hs l (i+1) s1 with|some (s2,D)=>some (s2,C++D)|none=>none)
  | none=>none
section
variable {P:Program} {n:Nat} {ops:List Oper} {S0:bn} {w0:World} {Q:Exit->Act->World->Prop}
theorem qE {I:Info} {S:Nat->Prop} {w:World} {a:Act} {d:Nat} {b:Bool} (h:Den I S w (a.tmps.getD d undef) (.val (.bool b))):a.tmps[d]?=some (.bool b):=by
 have h':=bM h
 cases ht:a.tmps[d]? with
 | none=>simp [ht,undef] at h'
 | some u=>simp [ht] at h';rw [h']
theorem mn {a:Act} {j d:Nat} {p:Oper} {b:Bool} (hp:ops[j]?=some p) (hd:p.dst=some d) (ht:a.tmps[d]?=some (.bool b)):yielded ops.toArray a.tmps j=some b:=by
 unfold yielded
 simp [hp,hd,ht]
theorem mm {a:Act} {j d:Nat} {p:Oper} {arr:Array Value} (hp:ops[j]?=some p) (hd:p.dst=some d) (ht:a.tmps.getD d undef= .tuple arr):yielded ops.toArray a.tmps j=none:=by
 unfold yielded
 simp only [List.getElem?_toArray,hp,Option.bind_some,hd]
 rw [Array.getD_eq_getD_getElem?] at ht
 cases h:a.tmps[d]? with
 | none=>rfl
 | some u=>rw [h] at ht;simp at ht;rw [ht]
theorem JA {s:AS} {o:Oper} {h:Hint} {q:AS×List Prop} (hr:Tg P n ops s o h=some q) (hC:bz q.2) {a:Act} {w:World} (hs:ix S0 w0 n s a w) (K:Act->World->Prop) (hK:∀a' w',ix S0 w0 n q.1 a' w'->K a' w') :
  if Region.wanted o (yielded ops.toArray a.tmps) then o.wp P a w K Q∨(o.asks P a w∧LetsOut Q) else K (a.put o.dst undef) w:=by
 unfold Tg at hr
 split at hr
 ·rename_i hg
  have hw:Region.wanted o (yielded ops.toArray a.tmps)=true:=by unfold Region.wanted;rw [hg]
  rw [if_pos hw]
  exact .inl (Oper.wp_mono hK (ou hr hC S0 w0 a w Q hs))
 ·rename_i j want hg
  split at hr
  ·rename_i p hp
   split at hr
   ·rename_i d hd
    split at hr
    ·rename_i b hb
     obtain ⟨φ,b7⟩:=hs
     have ht:=b7.get d
     rw [hb] at ht
     have hy:=mn (ops:=ops) hp hd (qE ht)
     split at hr
     ·rename_i j0
      split at hr
      ·rename_i s' C he
       cases hr
       obtain ⟨Gn,hC⟩:=hC
       have hw:Region.wanted o (yielded ops.toArray a.tmps)=true:=by
        unfold Region.wanted;rw [hg];simp only [hy,Gn]
        have:h.g=want:=by simpa using j0
        rw [this];simp
       rw [if_pos hw]
       exact .inl (Oper.wp_mono hK (ou he hC S0 w0 a w Q ⟨φ,b7⟩))
      ·cases hr
     ·rename_i j0
      split at hr
      ·rename_i s' EZ
       cases hr
       obtain ⟨Gn,-⟩:=hC
       have hw:¬Region.wanted o (yielded ops.toArray a.tmps)=true:=by
        unfold Region.wanted;rw [hg];simp only [hy,Gn]
        have:¬h.g=want:=by simpa using j0
        simpa using this
       rw [if_neg hw]
       exact hK _ _ ⟨φ,dX b7 (.rep (.val _)) EZ⟩
      ·cases hr
    ·rename_i arr hb
     obtain ⟨φ,b7⟩:=hs
     have ht:=b7.get d
     rw [hb] at ht
     have hy:=mm (ops:=ops) hp hd (bM ht)
     split at hr
     ·rename_i s' EZ
      cases hr
      have hw:¬Region.wanted o (yielded ops.toArray a.tmps)=true:=by
       unfold Region.wanted;rw [hg];simp [hy]
      rw [if_neg hw]
      exact hK _ _ ⟨φ,dX b7 (.rep (.val _)) EZ⟩
     ·cases hr
    ·cases hr
   ·cases hr
  ·cases hr
theorem jQ {hs:List (Nat×Hint)}:∀(l:List Oper) (i:Nat) (s s':AS) (C:List Prop),j8 P n ops hs l i s=some (s',C)->bz C-> ∀(a:Act) (w:World),ix S0 w0 n s a w->(∀a' w',ix S0 w0 n s' a' w'->Q .normal a' w')->wpList P ops.toArray Q l a w
 | [],i,s,s',C,he,hC,a,w,hs,hQ=>by cases he;exact hQ a w hs
 | o::l,i,s,s',C,he,hC,a,w,hs,hQ=>by
  simp only [j8] at he
  split at he
  ·rename_i s1 C1 h1
   split at he
   ·rename_i s2 D h2
    cases he
    obtain ⟨iJ,hD⟩:=bT.1 hC
    have:=JA (S0:=S0) (w0:=w0) (Q:=Q) h1 iJ hs (wpList P ops.toArray Q l) (fun a' w' h'=>jQ l (i+1) s1 s' D h2 hD a' w' h' hQ)
    unfold wpList
    exact this
   ·cases he
  ·cases he
end
def Jk:AV->AV
 | .own e row=>.sl e row
 | .box row=>.ptr row 0
 | x=>x
def Gs:AV->AV
 | .agg cs=>.agg (cs.map Jk)
 | x=>Jk x
def O7:AV->AV
 | .bk cs=>.bk (cs.map Gs)
 | x=>Gs x
section
variable {S S':Nat->Prop} {w:World}
theorem yX (hS:∀b,S b->S' b) {v:Value} {x:AV} {O:List Nat} (hO:∀g∈O,S' g) (h:ib S w v x O):cB S' w v (Jk x):=by
 cases h with
 | rep h =>
  have:=h.mono fun b hb=>⟨hS b hb,rfl⟩
  cases h<;>exact this
 | nil e=>exact iN none 0 0 e (by simp) (by simp) (by simp)
 | own g l c e row cur te fr hg hf hl hc hm hs h =>
  exact fe (r:=⟨e,true,false,row⟩) hg (hO g (by simp)) row 0 (by rw [hl,hs,Nat.zero_add];exact Nat.mul_le_mul_left _ hc) hl hc hm _ (fun _=>rfl) (fun j u x hu hx=>(h j u x (by simpa using hu) hx).mono fun b hb=>⟨hS b hb,rfl⟩)
 | box g row cur te fr hg hf hs h =>
  exact pj (off:=0) hg (hO g (by simp)) row ah (fun j u x hu hx=>(h j u x hu hx).mono fun b hb=>⟨hS b hb,rfl⟩)
theorem Fe {R:Value->AV->List Nat->Prop} {f:AV->AV} (hR:∀v x O,(∀g∈O,S' g)->R v x O->cB S' w v (f x)) {vs:List Value} {xs:List AV} {O:List Nat} (h:k8 R vs xs O):(∀g∈O,S' g)->vs.length=(xs.map f).length∧ ∀(j:Nat) v c,vs[j]?=some v->(xs.map f)[j]?=some c->cB S' w v c:=by
 induction h with
 | nil=>intro _;exact ⟨rfl,fun j v c hv=>by simp at hv⟩
 | cons h _ ih =>
  intro hO
  obtain ⟨h1,h2⟩:=ih fun g hg=>hO g (by simp [hg])
  refine ⟨by simpa using h1,fun j v c hv hc=>?_⟩
  cases j with
  | zero=>simp at hv hc;subst hv;subst hc;exact hR _ _ _ (fun g hg=>hO g (by simp [hg])) h
  | succ j=>exact h2 j v c (by simpa using hv) (by simpa using hc)
theorem yW (hS:∀b,S b->S' b) {v:Value} {x:AV} {O:List Nat} (hO:∀g∈O,S' g) (h:oa S w v x O):cB S' w v (Gs x):=by
 rcases h with h|⟨vs,cs,rfl,rfl,hL⟩
 ·by_cases hx:∃cs,x= .agg cs
  ·obtain ⟨cs,rfl⟩:=hx
   cases h with
   | rep h=>cases h with
    | agg vs _ hl h =>
     refine .agg vs _ (by simpa using hl) fun j v c hv hc=>?_
     rw [List.getElem?_map] at hc
     cases hj:cs[j]? with
     | none=>rw [hj] at hc;cases hc
     | some y=>rw [hj] at hc;injection hc with hc;subst hc;exact yX hS (O:=[]) (by simp) (.rep (h j v y hv hj))
  ·have:Gs x=Jk x:=by
    cases x with
    | agg cs=>exact absurd ⟨cs,rfl⟩ hx
    | _=>rfl
   rw [this];exact yX hS hO h
 ·obtain ⟨h1,h2⟩:=Fe (S':=S') (f:=Jk) (fun v x O hO h=>yX hS hO h) hL hO
  exact .agg vs _ h1 h2
theorem Jj (hS:∀b,S b->S' b) {v:Value} {x:AV} {O:List Nat} (hO:∀g∈O,S' g) (h:s_ S w v x O):cB S' w v (O7 x):=by
 rcases h with h|⟨vs,cs,rfl,rfl,hL⟩
 ·by_cases hx:∃cs,x= .bk cs
  ·obtain ⟨cs,rfl⟩:=hx
   rcases h with h|⟨vs,Ky,h1,h2,h3⟩
   ·cases h with
    | rep h=>cases h with
     | bk vs _ hl h =>
      refine .bk vs _ (by simpa using hl) fun j v c hv hc=>?_
      rw [List.getElem?_map] at hc
      cases hj:cs[j]? with
      | none=>rw [hj] at hc;cases hc
      | some y=>rw [hj] at hc;injection hc with hc;subst hc;exact yW hS (O:=[]) (by simp) (.inl (.rep (h j v y hv hj)))
   ·cases h2
  ·have:O7 x=Gs x:=by
    cases x with
    | bk cs=>exact absurd ⟨cs,rfl⟩ hx
    | _=>rfl
   rw [this];exact yW hS hO h
 ·obtain ⟨h1,h2⟩:=Fe (S':=S') (f:=Gs) (fun v x O hO h=>yW hS hO h) hL hO
  exact .bk vs _ h1 h2
end
def rO (P:Program) (s:AS) (o:Oper) (h:Hint):Option (AV×List Prop) :=
 match o.op with
 | .buildSlice t len parts=>(match P.underlying t with
  | some (.slice el)=>(match eC P el,(P.info? el).bind (·.zero) with
   | some (z+1),some zero=>(match gg s (z+1) 0 parts.toList,Nat.beq parts.toList.length len,Nat.ble (len*(z+1)) 16777216,Nat.beq zero.cells.size (z+1) with
    | some cells,true,true,true=>(match dZ cells with
     | true=>some (.sl (z+1) (named h cells).1,(named h cells).2)
     | false=>none)
    | _,_,_,_=>none)
   | _,_=>none)
  | _=>none)
 | .makeSlice t l c=>(match bp s l,bp s c,P.underlying t with
  | .val (.int _ L),.val (.int _ C),some (.slice el)=>(match P.info? el with
   | some i=>(match i.zero,i.size with
    | some zero,z+1=>(match Nat.beq zero.cells.size (z+1) with
     | true=>some (.sl (z+1) (named h (tF (zero.cells.toList.map bE) h.k)).1,(named h (tF (zero.cells.toList.map bE) h.k)).2++ [L=(h.k:Int),C=(h.m:Int),h.k≤h.m,i.bytes*h.m≤281474976710656,h.m≤maxLen])
     | false=>none)
    | _,_=>none)
   | none=>none)
  | _,_,_=>none)
 | .call ⟨.builtin _,_,_⟩=>qv P s o h
 | .call ⟨c,xs,_⟩=>(match callee s c,h.av with
  | some f,some r=>(match ig P f,h.b with
   | true,true=>(match jT s (xs.toList.map (bp s)),flat r with
    | some vs,some C=>some (O7 r,bC P f vs r::C)
    | _,_=>none)
   | true,false=>(match lE (xs.toList.map (bp s)) with
    | true=>some (O7 r,[bC P f (xs.toList.map (bp s)) r])
    | false=>none)
   | _,_=>none)
  | _,_=>none)
 | _=>qv P s o h
def Ee (P:Program) (s:AS) (o:Oper) (x:AV) (C:List Prop):Prop :=
 bz C-> ∀S0 w0 n a w φ Q (b:Act),aO S0 w0 n [] s a w φ->b.tmps=a.tmps->o.wp P b w (fun b' w'=>∃v,b'=b.put o.dst v∧Below w.heap.size w w'∧Den (az s.H φ) (aQ S0 w' φ []) w' v x) Q
theorem eH {a b:Act} (h:b.tmps=a.tmps):b.eval=a.eval:=by
 funext x
 cases x<;>simp [Act.eval,h]
section
variable {P:Program} {s:AS} {o:Oper} {h:Hint} {r:AV×List Prop}
theorem uZ (hp:dc P s o r.1 r.2):Ee P s o r.1 r.2:=by
 intro hC S0 w0 n a w φ Q b hs hb
 obtain ⟨v,cw,dV⟩:=hp hC S0 w0 n [] a w φ hs
 rw [←eH hb] at cw
 exact cU cw ⟨v,rfl,Below.refl _ _,dV⟩
theorem l_ {S0:bn} {w0 w w':World} {n:Nat} {a:Act} {φ:Nat->Option Nat} (hs:aO S0 w0 n [] s a w φ) (hb:Below w.heap.size w w') (b:Nat) (h:aQ S0 w φ [] b∨(w.heap.size≤b∧b<w'.heap.size)):aQ S0 w' φ [] b:=by
 rcases h with h|⟨h1,h2⟩
 ·exact ⟨by have:=h.1;have:=hb.size;omega,by simp,h.2.2⟩
 ·exact ⟨h2,by simp,fun i hi=>by have:=(hs.cY i b hi).2;omega,hs.new b (.inl (by have:=hs.cZ.size;omega))⟩
theorem xg {c:Callee} {xs:Array Operand} {ts:Array TypeId} {f:FuncId} {args:List AV} {x:AV} {C:List Prop} (ho:o.op= .call ⟨c,xs,ts⟩) (hc:callee s c=some f) (hE:ig P f=true) (nM:bz C->bC P f args x) (hl:args.length=xs.toList.length)
  (hG:bz C-> ∀S0 w0 n a w φ,aO S0 w0 n [] s a w φ-> ∃S:Nat->Prop,(∀b,S b->b<w.heap.size)∧(∀(j:Nat) v y,(xs.toList.map a.eval)[j]?=some v->args[j]?=some y->cB S w v y)∧ ∀w' v O,s_ (fun b=>S b∨(w.heap.size≤b∧b<w'.heap.size∧b ∉ O)) w' v x O->s_ (fun b=>aQ S0 w φ [] b∨(w.heap.size≤b∧b<w'.heap.size∧b ∉ O)) w' v x O):Ee P s o (O7 x) C:=by
 intro hC S0 w0 n a w φ Q b hs hb
 have cw:=jq (P:=P) hs hc ho hE
 rw [←eH hb] at cw
 obtain ⟨S,hS,iE,uV⟩:=hG hC S0 w0 n a w φ hs
 unfold Oper.wp
 rw [cw]
 have m9:=nM hC w S (xs.toList.map a.eval) hs.cZ.mP hS (by simp [hl]) iE
 have e:(xs.toList.map a.eval).toArray=xs.map b.eval:=by rw [eH hb];apply Array.ext';simp
 rw [e] at m9
 refine m9.mono ?_
 rintro en w' ⟨v,O,rfl,lJ,ir,mL,hg⟩
 refine ⟨v,rfl,lJ,.rep (Jj (fun b hb=>?_) (fun g hg=>?_) (uV w' v O hg))⟩
 ·exact l_ hs lJ b (hb.imp id fun h=>⟨h.1,h.2.1⟩)
 ·exact l_ hs lJ g (.inr (mL g hg))
theorem xq (hr:rO P s o h=some r):Ee P s o r.1 r.2:=by
 unfold rO at hr
 split at hr
 ·rename_i t len parts ho
  split at hr
  ·rename_i el hu
   split at hr
   ·rename_i z zero hz hzero
    split at hr
    ·rename_i cells dN hlen Bx uP
     split at hr
     ·rename_i hp
      cases hr
      intro hC S0 w0 n a w φ Q b hs hb
      have hlen:=Nat.eq_of_beq_eq_true hlen
      have Bx:len*(z+1)≤16777216:=Nat.le_of_ble_eq_true Bx
      have hn:(named h cells).1=cells:=(hU (C:=[]) (by rw [List.append_nil];exact hC)).1
      obtain ⟨h1,us,h2,h3,-,h4⟩:=CX hs (z+1) parts.toList 0 cells ((Array.range (len*(z+1))).map (zero.cells[· %zero.cells.size]!)) dN hp (by simp [←hlen])
      have hm:len≤maxLen:=by
       have:len≤len*(z+1):=Nat.le_mul_of_pos_right _ ah
       unfold maxLen;omega
      have cw:(execOp b.eval o).run P w= .ok (.value (.slice (some ⟨w.heap.size,0,none⟩) len len)) {w with heap:=w.heap.push (.cells us el (0,0))}:=by
       have Bj:(sizeOf el).run P w= .ok (z+1) w:=run_sizeOf hz
       have oY:(parts.map fun p=>(p.1,a.eval p.2)).toList=parts.toList.map fun p=>(p.1,a.eval p.2):=by simp
       rw [eH hb]
       unfold execOp
       simp only [ho,Instr.buildSlice,Sem.run_bind,run_underlying hu,Result.andThen_ok,Bj,Sem.run_ite]
       rw [if_neg ah]
       by_cases h0:len*(z+1)=0
       ·rw [if_pos h0]
        simp only [Sem.run_pure,Result.andThen_ok]
        have:(Array.range (len*(z+1))).map (fun x=>(#[]:Array Value)[x%(#[]:Array Value).size]!)=(Array.range (len*(z+1))).map (fun x=>zero.cells[x%zero.cells.size]!):=by rw [h0,il,il]
        rw [this,oY,h2]
        rfl
       ·rw [if_neg h0]
        simp only [iO hzero,Result.andThen_ok,Sem.run_pure]
        rw [oY,h2]
        rfl
      have lJ:Below w.heap.size w {w with heap:=w.heap.push (.cells us el (0,0))}:=⟨rfl,rfl,rfl,by simp,fun k hk=>cL w _ k hk⟩
      have gF:cells.length=(z+1)*len:=by rw [h1,hlen,Nat.mul_comm]
      refine cU cw ⟨_,rfl,lJ,?_⟩
      simp only [hn]
      refine .rep (fe (r:=⟨z+1,true,false,cells⟩) (dM w _) (l_ hs lJ _ (.inr ⟨Nat.le_refl _,by simp⟩)) cells 0 (by rw [h3,gF];simp [Nat.mul_comm]) gF (Nat.le_refl _) hm _ (fun _=>rfl) (fun j u x hu hx=>?_))
      exact (h4 j u x (by simpa using hu) hx).mono fun b hb=>⟨l_ hs lJ b (.inl hb),cL w _ b hb.1⟩
     ·cases hr
    ·cases hr
   ·cases hr
  ·cases hr
 ·rename_i t l c ho
  split at hr
  ·rename_i kl L kc C el hl hc hu
   split at hr
   ·rename_i i hi
    split at hr
    ·rename_i zero z hz dw
     split at hr
     ·rename_i hb
      cases hr
      have hb:=Nat.eq_of_beq_eq_true hb
      intro hC S0 w0 n a w φ Q b hs E9
      obtain ⟨Lj,hC⟩:=hU hC
      obtain ⟨h1,h2,h3,h4,h5,-⟩:=hC
      have MC:b.eval l= .int kl L:=by rw [eH E9];exact bM (hl ▸ hs.bp l)
      have ec:b.eval c= .int kc C:=by rw [eH E9];exact bM (hc ▸ hs.bp c)
      obtain ⟨cur,cw,xi,bw⟩:=run_make ho MC ec hu hi hz dw hb h1 h2 h3 h4 h5 w
      have lJ:Below w.heap.size w {w with heap:=w.heap.push (.cells cur el (0,0))}:=⟨rfl,rfl,rfl,by simp,fun k hk=>cL w _ k hk⟩
      have G7:(zero.cells.toList.map bE).length=z+1:=by simp [hb]
      have G_:=tE (zero.cells.toList.map bE) (z+1) G7 h.k
      have hle:(z+1)*h.k≤(z+1)*h.m:=Nat.mul_le_mul_left _ h3
      refine cU cw ⟨_,rfl,lJ,?_⟩
      simp only [Lj]
      refine .rep (fe (r:=⟨z+1,true,false,tF (zero.cells.toList.map bE) h.k⟩) (dM w _) (l_ hs lJ _ (.inr ⟨Nat.le_refl _,by simp⟩)) _ 0 (by rw [G_,xi];omega) G_ h3 h5 _ (fun _=>rfl) (fun j u x hu hx=>?_))
      have h6:=xE _ (z+1) G7 ah _ _ _ hx
      have h7:=bw j u (by simpa using hu)
      rw [List.getElem?_map] at h6
      have h8:zero.cells.toList[j%(z+1)]?=some u:=by simpa using h7
      rw [h8] at h6;injection h6 with h6;subst h6;exact fV u
     ·cases hr
    ·cases hr
   ·cases hr
  ·cases hr
 ·exact uZ (kU hr)
 ·rename_i c xs ts _ ho
  split at hr
  ·rename_i f x hc _
   split at hr
   ·rename_i hE _
    split at hr
    ·rename_i vs C hv tp
     cases hr
     refine xg ho hc hE (fun hC=>hC.1) ?_ fun hC S0 w0 n a w φ hs=>?_
     ·have key:∀(l:List AV) (m:List AV),jT s l=some m->m.length=l.length:=by
       intro l
       induction l with
       | nil=>intro m h;cases h;rfl
       | cons y l ih =>
        intro m h
        simp only [jT] at h
        split at h
        ·rename_i y' m' _ hm
         cases h
         simp [ih m' hm]
        ·cases h
      rw [key _ _ hv];simp
     ·exact ⟨fun b=>b<w.heap.size,fun _ h=>h,(lT hs _ _ hv).2,fun w' v O hg=>tt tp hC.2 hg⟩
    ·cases hr
   ·rename_i hE _
    split at hr
    ·rename_i wa
     cases hr
     refine xg ho hc hE (fun hC=>hC.1) (by simp) fun hC S0 w0 n a w φ hs=>⟨aQ S0 w φ [],fun b hb=>hb.1,fun j v x hv hx=>?_,fun w' v O hg=>hg⟩
     have Ns:=lY wa hx
     rw [List.getElem?_map] at hv hx
     cases hj:xs.toList[j]? with
     | none=>rw [hj] at hv;cases hv
     | some y =>
      rw [hj] at hv hx
      injection hv with hv;injection hx with hx;subst hv;subst hx
      exact oc (hs.bp y) Ns
    ·cases hr
   ·cases hr
  ·cases hr
 ·exact uZ (kU hr)
end
def nI (ds:List Nat):List (Nat×AV)->List (Nat×AV)
 | []=>[]
 | (i,x)::l=>match ds.any (Nat.beq i) with|true=>nI ds l|false=>(i,x)::nI ds l
theorem fX (ds:List Nat):∀(l:List (Nat×AV)) (i:Nat) (x:AV),look (nI ds l) i=some x->look l i=some x∧i ∉ ds
 | [],i,x,h=>by cases h
 | (k,y)::l,i,x,h=>by
  simp only [nI] at h
  have ih:=fX ds l i x
  split at h
  ·rename_i hk
   obtain ⟨h1,h2⟩:=ih h
   rw [aF]
   have cW:k≠i:=fun e=>by
    subst e
    obtain ⟨j,hj,hb⟩:=List.any_eq_true.1 hk
    have:=Nat.eq_of_beq_eq_true hb
    subst this
    exact h2 hj
   rw [if_neg cW];exact ⟨h1,h2⟩
  ·rename_i hk
   rw [aF] at h ⊢
   by_cases sW:k=i
   ·rw [if_pos sW] at h ⊢
    refine ⟨h,fun hm=>?_⟩
    have:ds.any (Nat.beq k)=true:=List.any_eq_true.2 ⟨i,hm,by rw [sW];exact Nat.beq_refl i⟩
    rw [hk] at this;cases this
   ·rw [if_neg sW] at h ⊢
    exact ih h
def jo (ops:List Oper) (gP:List AV):List Nat->List (Nat×AV)
 | []=>[]
 | d::l=>match ops[d]?,gP[d]? with
  | some p,some x=>(match p.dst with|some i=>(i,x)::jo ops gP l|none=>jo ops gP l)
  | _,_=>jo ops gP l
theorem oh (ops:List Oper) (gP:List AV):∀(l:List Nat) (i:Nat) (x:AV),look (jo ops gP l) i=some x-> ∃d p,d∈l∧ops[d]?=some p∧p.dst=some i∧gP[d]?=some x
 | [],i,x,h=>by cases h
 | d::l,i,x,h=>by
  simp only [jo] at h
  have ih:=oh ops gP l i x
  have step:look (jo ops gP l) i=some x-> ∃d' p,d'∈d::l∧ops[d']?=some p∧p.dst=some i∧gP[d']?=some x:=fun h=>by
   obtain ⟨d',p,h1,h2⟩:=ih h
   exact ⟨d',p,by simp [h1],h2⟩
  split at h
  ·rename_i p y hp hy
   split at h
   ·rename_i k hk
    rw [aF] at h
    by_cases e:k=i
    ·rw [if_pos e] at h;injection h with h;subst h;subst e
     exact ⟨d,p,by simp,hp,hk,hy⟩
    ·rw [if_neg e] at h;exact step h
   ·exact step h
  ·exact step h
def wo (s:AS) (ds:List Nat) (ops:List Oper) (gP:List AV) (o:Oper):AS:=⟨jo ops gP (bl o)++nI ds s.F,s.H⟩
def s6 (P:Program) (ops:List Oper) (s:AS) (o:Oper) (h:Hint):Option (AV×List Prop) :=
 match o.guard with
 | none=>rO P s o h
 | some (j,want)=>(match ops[j]? with
  | some p=>(match p.dst with
   | some d=>(match jU s d with
    | .val (.bool b)=>(match h.g == want with
     | true=>(match rO P s o h with|some (x,C)=>some (x,(b=h.g)::C)|none=>none)
     | false=>some (.val (.tuple #[]),[b=h.g]))
    | .val (.tuple _)=>some (.val (.tuple #[]),[])
    | _=>none)
   | none=>none)
  | none=>none)
def tu (P:Program) (s:AS) (ds:List Nat) (ops:List Oper) (hs:List (Nat×Hint)):List Oper->Nat->List AV->Option (List AV×List Prop)
 | [],_,gP=>some (gP,[])
 | o::l,i,gP=>match s6 P ops (wo s ds ops gP o) o (gC hs i) with
  | some (x,C)=>(match tu P s ds ops hs l (i+1) (gP++ [x]) with|some (i9,D)=>some (i9,C++D)|none=>none)
  | none=>none
def jb:List Oper->List AV->List (Nat×AV)
 | o::l,x::m=>(match o.dst with|some d=>(d,x)::jb l m|none=>jb l m)
 | _,_=>[]
def DE (P:Program) (n T:Nat) (ops:List Oper) (hs:List (Nat×Hint)) (s:AS):Option (AS×List Prop) :=
 match P.follows .mixedOrders,lK ops.toArray n,oQ ops.toArray T with
 | true,true,true=>(match tu P s ((ops.take T).filterMap (·.dst)) ops hs (ops.take T) 0 [] with
  | some (gP,C)=>(match j8 P n ops hs (ops.drop T) T ⟨jb (ops.take T) gP++nI ((ops.take T).filterMap (·.dst)) s.F,s.H⟩ with|some (s',D)=>some (s',C++D)|none=>none)
  | none=>none)
 | _,_,_=>none
section
variable {P:Program} {ops:List Oper} {S0:bn} {w0:World} {Q:Exit->Act->World->Prop}
theorem Fj {s:AS} {o:Oper} {h:Hint} {r:AV×List Prop} (hr:s6 P ops s o h=some r) (hC:bz r.2) {n:Nat} {a b:Act} {w:World} {φ:Nat->Option Nat} (hs:aO S0 w0 n [] s a w φ) (hb:b.tmps=a.tmps) :
  gS P ops.toArray Q o b w fun v w'=>w.heap.size≤w'.heap.size∧Den (az s.H φ) (aQ S0 w' φ []) w' v r.1:=by
 unfold s6 at hr
 unfold gS
 split at hr
 ·rename_i hg
  have hw:Region.wanted o (yielded ops.toArray b.tmps)=true:=by unfold Region.wanted;rw [hg]
  rw [if_pos hw]
  exact Oper.wp_mono (fun b' w' ⟨v,h1,h2,h3⟩=>⟨v,h1,h2,h2.size,h3⟩) (xq hr hC S0 w0 n a w φ Q b hs hb)
 ·rename_i j want hg
  split at hr
  ·rename_i p hp
   split at hr
   ·rename_i d hd
    split at hr
    ·rename_i bb rE
     have ht:=hs.get d
     rw [rE] at ht
     have hy:=mn (ops:=ops) hp hd (qE ht)
     rw [←hb] at hy
     split at hr
     ·rename_i j0
      split at hr
      ·rename_i x C he
       cases hr
       obtain ⟨Gn,hC⟩:=hC
       have hw:Region.wanted o (yielded ops.toArray b.tmps)=true:=by
        unfold Region.wanted;rw [hg];simp only [hy,Gn]
        have:h.g=want:=by simpa using j0
        rw [this];simp
       rw [if_pos hw]
       exact Oper.wp_mono (fun b' w' ⟨v,h1,h2,h3⟩=>⟨v,h1,h2,h2.size,h3⟩) (xq he hC S0 w0 n a w φ Q b hs hb)
      ·cases hr
     ·rename_i j0
      cases hr
      obtain ⟨Gn,-⟩:=hC
      have hw:¬Region.wanted o (yielded ops.toArray b.tmps)=true:=by
       unfold Region.wanted;rw [hg];simp only [hy,Gn]
       have:¬h.g=want:=by simpa using j0
       simpa using this
      rw [if_neg hw]
      exact ⟨Nat.le_refl _,.rep (.val _)⟩
    ·rename_i arr rE
     have ht:=hs.get d
     rw [rE] at ht
     have hy:=mm (ops:=ops) hp hd (bM ht)
     rw [←hb] at hy
     cases hr
     have hw:¬Region.wanted o (yielded ops.toArray b.tmps)=true:=by
      unfold Region.wanted;rw [hg];simp [hy]
     rw [if_neg hw]
     exact ⟨Nat.le_refl _,.rep (.val _)⟩
    ·cases hr
   ·cases hr
  ·cases hr
theorem vn {s:AS} {ds:List Nat} {hs:List (Nat×Hint)}:∀(l:List Oper) (i:Nat) (gP i9:List AV) (C:List Prop),tu P s ds ops hs l i gP=some (i9,C)->bz C->gP.length=i ->
  i9.length=i+l.length∧i9.take i=gP∧ ∀(j:Nat) (o:Oper),l[j]?=some o-> ∃x D,i9[i+j]?=some x∧s6 P ops (wo s ds ops (i9.take (i+j)) o) o (gC hs (i+j))=some (x,D)∧bz D
 | [],i,gP,i9,C,he,hC,hl=>by
  cases he
  exact ⟨by simp [hl],by rw [←hl,List.take_length],fun j o h=>by simp at h⟩
 | o::l,i,gP,i9,C,he,hC,hl=>by
  simp only [tu] at he
  split at he
  ·rename_i x C1 h1
   split at he
   ·rename_i Tn D h2
    cases he
    obtain ⟨iJ,hD⟩:=bT.1 hC
    obtain ⟨e1,e2,e3⟩:=vn l (i+1) (gP++ [x]) i9 D h2 hD (by simp [hl])
    have e4:i9.take i=gP:=by
     have:=congrArg (List.take i) e2
     rw [List.take_take,Nat.min_eq_left ah,←hl,List.take_left] at this
     rw [←hl];exact this
    have e5:i9[i]?=some x:=by
     have h3:(i9.take (i+1))[i]?=some x:=by rw [e2,List.getElem?_append_right ah,hl];simp
     exact bZ _ _ _ _ h3
    refine ⟨by rw [e1,List.length_cons];omega,e4,fun j p hp=>?_⟩
    cases j with
    | zero =>
     simp at hp;subst hp
     exact ⟨x,C1,by simpa using e5,by simp only [Nat.add_zero];rw [e4];exact h1,iJ⟩
    | succ j =>
     obtain ⟨y,D',h5,h6,h7⟩:=e3 j p (by simpa using hp)
     rw [show i+1+j=i+(j+1) by omega] at h5 h6
     exact ⟨y,D',h5,h6,h7⟩
   ·cases he
  ·cases he
theorem kN:∀(l:List Oper) (m:List AV) (i:Nat) (x:AV),look (jb l m) i=some x-> ∃(k:Nat) (o:Oper),l[k]?=some o∧o.dst=some i∧m[k]?=some x
 | [],m,i,x,h=>by simp [jb,look] at h
 | o::l,[],i,x,h=>by simp [jb,look] at h
 | o::l,y::m,i,x,h=>by
  simp only [jb] at h
  have step:look (jb l m) i=some x-> ∃(k:Nat) (p:Oper),(o::l)[k]?=some p∧p.dst=some i∧(y::m)[k]?=some x:=fun h=>by
   obtain ⟨k,p,h1,h2,h3⟩:=kN l m i x h
   exact ⟨k+1,p,by simpa using h1,h2,by simpa using h3⟩
  split at h
  ·rename_i d hd
   rw [aF] at h
   by_cases e:d=i
   ·rw [if_pos e] at h;injection h with h;subst h;subst e
    exact ⟨0,o,rfl,hd,rfl⟩
   ·rw [if_neg e] at h;exact step h
  ·exact step h
theorem l3 (ops:List Oper) (T:Nat) (p:Oper×Nat):p∈ops.zipIdx.take T↔(p.2<T∧ops[p.2]?=some p.1):=by
 rw [List.mem_iff_getElem?]
 constructor
 ·rintro ⟨x,hx⟩
  rw [List.getElem?_take] at hx
  split at hx
  ·rename_i Bk
   rw [List.getElem?_zipIdx] at hx
   cases ho:ops[x]? with
   | none=>rw [ho] at hx;simp at hx
   | some q=>rw [ho] at hx;simp at hx;subst hx;exact ⟨by simpa using Bk,by simpa using ho⟩
  ·cases hx
 ·rintro ⟨h1,h2⟩
  refine ⟨p.2,?_⟩
  rw [List.getElem?_take,if_pos h1,List.getElem?_zipIdx,h2];simp
theorem ku (ops:List Oper) (T i:Nat):i ∉ (ops.take T).filterMap (·.dst)↔ ∀(j:Nat) (p:Oper),j<T->ops[j]?=some p->p.dst≠some i:=by
 constructor
 ·intro h j p hj hp hd
  refine h (List.mem_filterMap.2 ⟨p,?_,hd⟩)
  exact List.mem_of_getElem? (i:=j) (by rw [List.getElem?_take,if_pos hj];exact hp)
 ·intro h hm
  obtain ⟨p,hp,hd⟩:=List.mem_filterMap.1 hm
  obtain ⟨j,hj⟩:=List.getElem?_of_mem hp
  rw [List.getElem?_take] at hj
  split at hj
  ·rename_i Re;exact h j p Re hj hd
  ·cases hj
theorem GF {n T:Nat} {hs:List (Nat×Hint)} {s s':AS} {C:List Prop} (he:DE P n T ops hs s=some (s',C)) (hC:bz C) {a:Act} {w:World} (gk:ix S0 w0 n s a w) (hQ:∀a' w',ix S0 w0 n s' a' w'->Q .normal a' w'):P.follows .mixedOrders=true∧wpAny P .any ops.toArray Q ops.toArray.size (Array.replicate ops.toArray.size false) a {w with drawn:=w.drawn+1}:=by
 unfold DE at he
 split at he
 ·rename_i hm hB hT
  split at he
  ·rename_i gP C1 Db
   split at he
   ·rename_i s2 D oX
    cases he
    obtain ⟨iJ,hD⟩:=bT.1 hC
    obtain ⟨φ,lP⟩:=gk
    have gV:aO S0 w0 n [] s a w.drew φ:=lP.grow ((Below.refl _ _).drew)
    obtain ⟨hlen,-,gh⟩:=vn _ 0 [] gP C1 Db iJ rfl
    simp only [Nat.zero_add] at hlen gh
    obtain ⟨dk,ir,vN⟩:=f_ hB
    unfold oQ at hT
    simp only [Bool.and_eq_true,decide_eq_true_eq] at hT
    obtain ⟨⟨⟨He,LC⟩,LB⟩,LA⟩:=hT
    have SK:T<ops.length:=by simpa using He
    have vO:gP.length=T:=by rw [hlen,List.length_take];omega
    let F:Nat->Value->World->Prop:=fun k v w'=>w.heap.size≤w'.heap.size∧ ∀x,gP[k]?=some x->Den (az s.H φ) (aQ S0 w' φ []) w' v x
    have uU:∀k v w1 w2,Below w1.heap.size w1 w2->F k v w1->F k v w2:=by
     intro k v w1 w2 hb ⟨h1,h2⟩
     refine ⟨Nat.le_trans h1 hb.size,fun x hx=>(h2 x hx).mono (fun _ _ h=>h) (fun b hS=>⟨⟨by have:=hS.1;have:=hb.size;omega,hS.2⟩,hb.block b hS.1⟩) (fun id e m g hi=>?_)⟩
     obtain ⟨r,-,-,-,ct⟩:=aT hi
     have:=(lP.cY id g ct).2
     unfold a7;rw [hb.block g ah]
    refine ⟨hm,Ck He LC LB LA lP.jS hB F uU ?_ ?_ ops.toArray.size _ a _ ⟨(Below.refl _ _).drew,by simp,?_,rfl,rfl,?_,?_,fun _ _=>rfl⟩ (fun j _=>by simp only [List.size_toArray];exact getD_replicate_false _ _) (by simp)⟩
    ·
     intro k o wg ho a' w' hb jc fz
     have rA:ops[k]?=some o:=by simpa using ho
     obtain ⟨x,Dk,hx,ea,Rl⟩:=gh k o (by rw [List.getElem?_take,if_pos wg];exact rA)
     have kP:Below w.heap.size w w':=hb
     have hg:=lP.grow kP
     have Kq:aO S0 w0 a'.tmps.size [] (wo s ((ops.take T).filterMap (·.dst)) ops (gP.take k) o) ⟨a'.tmps,S0.sG⟩ w' φ:=by
      refine ⟨rfl,rfl,hg.cZ,fun i av hi=>?_,hg.rows,hg.only,hg.inj,hg.cY,hg.apart,hg.new⟩
      show Den (az s.H φ) _ _ _ _
      unfold wo at hi
      rw [bQ] at hi
      cases I9:look (jo ops (gP.take k) (bl o)) i with
      | some y =>
       rw [I9] at hi
       simp at hi;subst hi
       obtain ⟨d,p,h1,h2,h3,h4⟩:=oh _ _ _ _ _ I9
       rcases jc d h1 with hF|⟨q,hq,hn⟩
       ·have iW:r_ ops.toArray a' d=a'.tmps.getD i undef:=by
         unfold r_
         have:(ops.toArray[d]?).bind (·.dst)=some i:=by simp [h2,h3]
         rw [this]
        rw [iW] at hF
        exact hF.2 y (bZ _ _ _ _ h4)
       ·have gO:ops[d]?=some q:=by simpa using hq
        rw [h2] at gO;injection gO with gO;subst gO
        rw [h3] at hn;cases hn
      | none =>
       rw [I9] at hi
       simp at hi
       obtain ⟨h1,h2⟩:=fX _ _ _ _ hi
       have hk:=fz i (fun j p hj hp=>(ku ops T i).1 h2 j p hj (by simpa using hp))
       have oK:a'.tmps.getD i undef=a.tmps.getD i undef:=hk
       show Den _ _ _ (a'.tmps.getD i undef) av
       rw [oK]
       exact hg.cC i av h1
     have:=Fj (Q:=Q) (ops:=ops) ea Rl Kq (b:=a') rfl
     unfold gS at this ⊢
     split
     ·rename_i hw
      rw [if_pos hw] at this
      exact Oper.wp_mono (fun b' w2 ⟨v,h1,h2,h3,h4⟩=>⟨v,h1,h2,Nat.le_trans kP.size h3,fun y hy=>by rw [hx] at hy;injection hy with hy;subst hy;exact h4⟩) this
     ·rename_i hw
      rw [if_neg hw] at this
      exact ⟨kP.size,fun y hy=>by rw [hx] at hy;injection hy with hy;subst hy;exact this.2⟩
    ·
     intro vs w' hb yD
     have kP:Below w.heap.size w w':=hb
     have hg:=lP.grow kP
     have jP:=jL vs (ops.zipIdx.take T) a (by
      have h1:(ops.zipIdx.take T).filterMap (·.1.dst)=(ops.take T).filterMap (·.dst):=by
       conv=>rhs;rw [←List.zipIdx_map_fst 0 ops,←List.map_take]
       rw [List.filterMap_map];rfl
      rw [h1]
      exact List.Nodup.sublist ((List.take_sublist T ops).filterMap _) (by simpa using ir))
     show wpList P ops.toArray Q (ops.drop T) (eJ (ops.zipIdx.take T) vs a) w'
     refine jQ (S0:=S0) (w0:=w0) _ _ _ _ _ oX hD _ _ ⟨φ,?_⟩ hQ
     refine ⟨jP.1.trans lP.jS,jP.2.1.trans lP.jV,hg.cZ,fun i av hi=>?_,hg.rows,hg.only,hg.inj,hg.cY,hg.apart,hg.new⟩
     show Den (az s.H φ) _ _ _ _
     rw [bQ] at hi
     cases hh:look (jb (ops.take T) gP) i with
     | some y =>
      rw [hh] at hi
      simp at hi;subst hi
      obtain ⟨k,o,h1,h2,h3⟩:=kN _ _ _ _ hh
      have wg:k<T:=by have:=(List.getElem?_eq_some_iff.1 h3).1;omega
      have ho:ops[k]?=some o:=bZ _ _ _ _ h1
      have hv:=jP.2.2.1 (o,k) ((l3 ops T _).2 ⟨wg,ho⟩) i h2 (by rw [lP.jS];exact vN k o i (by simpa using ho) h2)
      have:(eJ (ops.zipIdx.take T) vs a).tmps.getD i undef=vs k:=by
       simp [hv]
      rw [this]
      exact (yD k wg).2 y h3
     | none =>
      rw [hh] at hi
      simp at hi
      obtain ⟨h1,h2⟩:=fX _ _ _ _ hi
      have hv:=jP.2.2.2 i (fun p hp hd=>(ku ops T i).1 h2 p.2 p.1 ((l3 ops T p).1 hp).1 ((l3 ops T p).1 hp).2 hd)
      have:(eJ (ops.zipIdx.take T) vs a).tmps.getD i undef=a.tmps.getD i undef:=by
       simp [hv]
      rw [this]
      exact hg.cC i av h1
    ·intro k o hk;rw [getD_replicate_false] at hk;cases hk
    ·intro k o s hk;rw [getD_replicate_false] at hk;cases hk
    ·intro k o hk;rw [getD_replicate_false] at hk;cases hk
   ·cases he
  ·cases he
 ·cases he
end
def bU (s s':AS):Prop:=∀S0 w0 n a w,ix S0 w0 n s a w->ix S0 w0 n s' a w
def Cr (P:Program):Code->(Exit->Act->World->Prop)->Act->World->Prop
 | .skip,Q,a,w=>Q .normal a w
 | .region _ ops false,Q,a,w=>wpList P ops Q ops.toList a w
 | .region _ ops true,Q,a,w=>P.follows .mixedOrders=true∧wpAny P .any ops Q ops.size (Array.replicate ops.size false) a {w with drawn:=w.drawn+1}
 | .seq x y,Q,a,w=>Cr P x (Exit.then (Cr P y Q) Q) a w
 | .cond c x y,Q,a,w=>∃t:Bool,a.eval c= .bool t∧(t=true->Cr P x Q a w)∧(t=false->Cr P y Q a w)
 | .block id c,Q,a,w=>Cr P c (Exit.inBlock id Q) a w
 | .loop c,Q,a,w=>∃(J:Nat->Act->World->Prop) (k0:Nat),J k0 a w∧ ∀k a w,J k a w->Cr P c (Exit.then (fun a' w'=>∃k',k'<k∧J k' a' w') Q) a w
 | .exit id,Q,a,w=>Q (.exit id) a w
 | .ret,Q,a,w=>Q .ret a w
 | .rangeFunc g ps x b,Q,a,w=>(Code.rangeFunc g ps x b).wp P Q a w
 | _,_,_,_=>False
section
variable {P:Program} {Q Q':Exit->Act->World->Prop}
theorem mI (hQ:∀e a w,Q e a w->Q' e a w) (h:LetsOut Q):LetsOut Q':=let ⟨a,w,h⟩:=h;⟨a,w,hQ _ _ _ h⟩
theorem w_ {o:Oper} {a:Act} {w:World} {K K':Act->World->Prop} (hK:∀a w,K a w->K' a w) (hQ:∀e a w,Q e a w->Q' e a w) (hh:o.wp P a w K Q):o.wp P a w K' Q':=by
 unfold Oper.wp at *
 generalize (execOp a.eval o).run P w=r at *
 cases r with
 | ok n w' =>
  cases n<;>simp only [Oper.upon] at hh ⊢ <;>
   first
    | exact hK _ _ hh
    | exact Calls.mono hh (fun e fy he=>by cases e<;>first|exact hK _ _ he|exact hQ _ _ _ he|exact mI hQ he)
    | exact Rows.mono hh (fun _ _ he=>hK _ _ he)
 | halt x w'=>cases x<;>simp only [Oper.upon] at hh ⊢ <;>first|exact hQ _ _ _ hh|exact hh
theorem j_ {ops:Array Oper} (hQ:∀e a w,Q e a w->Q' e a w):∀(l:List Oper) (a:Act) (w:World),wpList P ops Q l a w->wpList P ops Q' l a w
 | [],a,w,h=>hQ _ _ _ h
 | o::l,a,w,h=>by
  unfold wpList at h ⊢
  split at h
  ·rename_i hw
   rw [if_pos hw]
   exact h.imp (w_ (j_ hQ l) hQ) fun ⟨h1,h2⟩=>⟨h1,mI hQ h2⟩
  ·rename_i hw
   rw [if_neg hw]
   exact j_ hQ l _ _ h
theorem Cj {ops:Array Oper} {i:Nat} {a:Act} {w:World} {K K':Act->World->Prop} (hK:∀a w,K a w->K' a w) (hQ:∀e a w,Q e a w->Q' e a w) (hh:wpOp P ops Q i K a w):wpOp P ops Q' i K' a w:=by
 unfold wpOp at *
 split
 ·exact hK _ _ (by simpa [*] using hh)
 ·rename_i o ho
  simp only [ho] at hh
  split
  ·rename_i hw;simp only [hw,if_true] at hh;exact hh.imp (w_ hK hQ) fun ⟨h1,h2⟩=>⟨h1,mI hQ h2⟩
  ·rename_i hw;simp only [hw] at hh;exact hK _ _ hh
theorem r8 {md:Region.Mode} {ops:Array Oper} (hQ:∀e a w,Q e a w->Q' e a w):∀(fuel:Nat) (listed:Array Bool) (a:Act) (w:World),wpAny P md ops Q fuel listed a w->wpAny P md ops Q' fuel listed a w
 | 0,_,_,_,h=>⟨h.1,hQ _ _ _ h.2⟩
 | fuel+1,listed,a,w,h=>⟨fun h0=>hQ _ _ _ (h.1 h0),fun i hi=>Cj (r8 hQ fuel _) hQ (h.2 i hi)⟩
theorem lV {K K':Act->World->Prop} (hK:∀a w,K a w->K' a w) (hQ:∀e a w,Q e a w->Q' e a w) (e:Exit) (a:Act) (w:World) (h:Exit.then K Q e a w):Exit.then K' Q' e a w:=by
 cases e<;>first|exact hK _ _ h|exact hQ _ _ _ h
theorem yt {id:Nat} (hQ:∀e a w,Q e a w->Q' e a w) (e:Exit) (a:Act) (w:World) (h:Exit.inBlock id Q e a w):Exit.inBlock id Q' e a w:=by
 cases e with
 | exit i =>
  simp only [Exit.inBlock] at h ⊢
  split
  ·rename_i hi;rw [if_pos hi] at h;exact hQ _ _ _ h
  ·rename_i hi;rw [if_neg hi] at h;exact hQ _ _ _ h
 | _=>exact hQ _ _ _ h
theorem er:∀(c:Code) (Q Q':Exit->Act->World->Prop),(∀e a w,Q e a w->Q' e a w)-> ∀(a:Act) (w:World),Cr P c Q a w->Cr P c Q' a w
 | .skip,_,_,hQ,a,w,h=>hQ _ _ _ h
 | .region _ ops false,_,_,hQ,a,w,h=>j_ hQ _ _ _ h
 | .region _ ops true,_,_,hQ,a,w,h=>⟨h.1,r8 hQ _ _ _ _ h.2⟩
 | .seq x y,_,_,hQ,a,w,h=>er x _ _ (lV (er y _ _ hQ) hQ) a w h
 | .cond c x y,_,_,hQ,a,w,⟨t,h1,h2,h3⟩=>⟨t,h1,fun e=>er x _ _ hQ a w (h2 e),fun e=>er y _ _ hQ a w (h3 e)⟩
 | .block id c,_,_,hQ,a,w,h=>er c _ _ (yt hQ) a w h
 | .loop c,_,_,hQ,a,w,⟨J,k0,h0,h⟩=>⟨J,k0,h0,fun k a w hJ=>er c _ _ (lV (fun _ _ h=>h) hQ) a w (h k a w hJ)⟩
 | .exit id,_,_,hQ,a,w,h=>hQ _ _ _ h
 | .ret,_,_,hQ,a,w,h=>hQ _ _ _ h
 | .rangeFunc g ps x b,_,_,hQ,a,w,h=>wp_mono h hQ
 | .scope _,_,_,_,_,_,h=>h.elim
 | .label _,_,_,_,_,_,h=>h.elim
 | .goto _,_,_,_,_,_,h=>h.elim
 | .refuse _,_,_,_,_,_,h=>h.elim
end
theorem EO {P:Program} {c:Code} {Q:Exit->Act->World->Prop} {a:Act} {w:World} (J:Nat->Act->World->Prop) (k0:Nat) (h0:J k0 a w)
  (round:∀k a w,J k a w->c.wp P (Exit.then (fun a' w'=>∃k',k'<k∧J k' a' w') Q) a w):(Code.loop c).wp P Q a w:=by
 intro b k cs
 have key:∀n a w,J n a w-> ∃e a' w',Q e a' w'∧Arrives P (lone (b.at a (.code c:: .inLoop c::k)) cs w) b k cs e a' w':=by
  intro n
  induction n using Nat.strongRecOn with
  | _ n ih =>
   intro a w hJ
   obtain ⟨e,G0,FA,hq,sY⟩:=round n a w hJ b (.inLoop c::k) cs
   cases e with
   | normal =>
    obtain ⟨k',dk,NT⟩:=hq
    obtain ⟨Tf,Tm,Ry,PU,Ly⟩:=ih k' dk G0 FA NT
    exact ⟨Tf,Tm,Ry,PU,.of_steps (Steps.trans sY (.one step_inLoop)) Ly⟩
   | exit id=>exact ⟨_,G0,FA,hq,.pass (x:=.inLoop c) rfl (fun _ _=>.inl (by simp)) sY⟩
   | goto l=>exact ⟨_,G0,FA,hq,.pass (x:=.inLoop c) rfl (fun _ _=>.inl (by simp)) sY⟩
   | ret=>exact ⟨_,G0,FA,hq,.pass (x:=.inLoop c) rfl (fun _ _=>.inl (by simp)) sY⟩
   | panic ch=>exact ⟨_,G0,FA,hq,.pass (x:=.inLoop c) rfl (fun _ _=>.inl (by simp)) sY⟩
   | outgrown=>exact ⟨_,G0,FA,hq,.pass (x:=.inLoop c) rfl (fun _ _=>.inl (by simp)) sY⟩
 obtain ⟨e,a',w',hq,sY⟩:=key k0 a w h0
 exact ⟨e,a',w',hq,.of_steps (.one step_loop) sY⟩
theorem kD {P:Program}:∀(c:Code) (Q:Exit->Act->World->Prop) (a:Act) (w:World),Cr P c Q a w->c.wp P Q a w
 | .skip,_,a,w,h=>wp_skip h
 | .region _ ops false,_,a,w,h=>wp_region_list h
 | .region _ ops true,_,a,w,h=>wp_region_any h.1 h.2
 | .seq x y,Q,a,w,h=>wp_seq (kD x _ a w (er x _ _ (lV (kD y Q) fun _ _ _ h=>h) a w h))
 | .cond c x y,Q,a,w,⟨t,h1,h2,h3⟩=>wp_cond_split h1 (fun e=>kD x Q a w (h2 e)) (fun e=>kD y Q a w (h3 e))
 | .block id c,_,a,w,h=>wp_block (kD c _ a w h)
 | .loop c,_,a,w,⟨J,k0,h0,h⟩=>EO J k0 h0 fun k a w hJ=>kD c _ a w (h k a w hJ)
 | .exit id,_,a,w,h=>wp_exit h
 | .ret,_,a,w,h=>wp_ret h
 | .rangeFunc g ps x b,_,a,w,h=>h
 | .scope _,_,_,_,h=>h.elim
 | .label _,_,_,_,h=>h.elim
 | .goto _,_,_,_,h=>h.elim
 | .refuse _,_,_,_,h=>h.elim
def mark (r:Nat):Deferred:={target:=.collected r,args:= #[]}
structure lf (S0:bn) (w0:World) (S1:bn) (w1:World) (ms:List Nat):Prop where
 kept:Kept S0 w0 w1
 sub:∀b,S1.S b->S0.S b
 X:∀b,S1.X b->w0.heap.size≤b∨S0.X b
 fix:S1.fix=S0.fix
 sG:S1.sG=ms.map mark++S0.sG
 nodup:ms.Nodup
 marks:∀r∈ms,w0.heap.size≤r∧r<w1.heap.size∧w1.heap[r]?=some (.deferred (some []))∧ ¬S1.S r∧ ¬S1.X r
theorem lf.refl {S0:bn} {w0 w:World} (h:Kept S0 w0 w):lf S0 w0 S0 w0 []:=⟨⟨rfl,rfl,rfl,Nat.le_refl _,fun _ _ _=>rfl,h.g0,h.gx⟩,fun _ h=>h,fun _ h=>.inr h,rfl,rfl,List.nodup_nil,fun _ h=>by cases h⟩
theorem Kept.trans {S0 S1:bn} {w0 w1 w2:World} (h:Kept S0 w0 w1) (k:Kept S1 w1 w2) (hX:∀b,S1.X b->w0.heap.size≤b∨S0.X b):Kept S0 w0 w2 :=
 ⟨k.os.trans h.os,k.tape.trans h.tape,k.output.trans h.output,Nat.le_trans h.size k.size,fun b hb hx=>(k.block b (Nat.lt_of_lt_of_le hb h.size) fun RV=>(hX b RV).elim (fun h=>ah) hx).trans (h.block b hb hx),h.g0,h.gx⟩
theorem lf.trans {S0 S1 S2:bn} {w0 w1 w2:World} {ms Q0:List Nat} (h:lf S0 w0 S1 w1 ms) (k:lf S1 w1 S2 w2 Q0):lf S0 w0 S2 w2 (Q0++ms) where
 kept:=h.kept.trans k.kept h.X
 sub:=fun b hb=>h.sub b (k.sub b hb)
 X:=fun b hb=>(k.X b hb).elim (fun hb=>.inl (Nat.le_trans h.kept.size hb)) fun hb=>h.X b hb
 fix:=k.fix.trans h.fix
 sG:=by rw [k.sG,h.sG,List.map_append,List.append_assoc]
 nodup:=by
  rw [List.nodup_append]
  refine ⟨k.nodup,h.nodup,fun a ha b hb e=>?_⟩
  subst e
  have:=(k.marks a ha).1
  have:=(h.marks a hb).2.1
  omega
 marks:=fun r hr=>by
  rcases List.mem_append.1 hr with hr|hr
  ·obtain ⟨h1,h2⟩:=k.marks r hr
   exact ⟨Nat.le_trans h.kept.size h1,h2⟩
  ·obtain ⟨h1,h2,h3,h4,h5⟩:=h.marks r hr
   exact ⟨h1,Nat.lt_of_lt_of_le h2 k.kept.size,(k.kept.block r h2 h5).trans h3,fun hs=>h4 (k.sub r hs),fun hx=>(k.X r hx).elim (fun h=>ah) h5⟩
def ni (S0:bn) (w0:World) (n:Nat) (s:AS) (a:Act) (w:World):Prop:=∃S1 w1 ms,lf S0 w0 S1 w1 ms∧ix S1 w1 n s a w
theorem ix.one {S0:bn} {w0:World} {n:Nat} {s:AS} {a:Act} {w:World} (h:ix S0 w0 n s a w):ni S0 w0 n s a w:=⟨S0,w0,[],lf.refl h.choose_spec.cZ,h⟩
theorem ni.after {S0 S1:bn} {w0 w1:World} {ms:List Nat} {n:Nat} {s:AS} {a:Act} {w:World} (he:lf S0 w0 S1 w1 ms) (h:ni S1 w1 n s a w):ni S0 w0 n s a w :=
 let ⟨S2,w2,_,h1,h2⟩:=h;⟨S2,w2,_,he.trans h1,h2⟩
def bf (P:Program) (n:Nat) (c:Code) (Q:Exit->AS->Prop) (s:AS):Prop :=
 ∀S0 w0 a w,ix S0 w0 n s a w->Cr P c (fun e a' w'=>∃s',Q e s'∧ni S0 w0 n s' a' w') a w
theorem bf.Us {P:Program} {n:Nat} {c:Code} {Q:Exit->AS->Prop} {s:AS} (h:bf P n c Q s) {S0:bn} {w0:World} {a:Act} {w:World} (hs:ni S0 w0 n s a w):Cr P c (fun e a' w'=>∃s',Q e s'∧ni S0 w0 n s' a' w') a w:=by
 obtain ⟨S1,w1,ms,h1,h2⟩:=hs
 exact er _ _ _ (fun e a' w' ⟨s',hq,b7⟩=>⟨s',hq,b7.after h1⟩) _ _ (h S1 w1 a w h2)
def r6 (K:AS->Prop) (Q:Exit->AS->Prop):Exit->AS->Prop
 | .normal,s=>K s
 | e,s=>Q e s
def OB (id:Nat) (Q:Exit->AS->Prop):Exit->AS->Prop
 | .exit pw,s=>if pw=id then Q .normal s else Q (.exit pw) s
 | e,s=>Q e s
def iu:Code->Code
 | .seq a _=>a
 | c=>c
def dI:Code->Code
 | .seq _ b=>b
 | c=>c
def oP:Code->Code
 | .cond _ a _=>a
 | c=>c
def oZ:Code->Code
 | .cond _ _ b=>b
 | c=>c
def fA:Code->Code
 | .block _ b=>b
 | .loop b=>b
 | .scope b=>b
 | c=>c
def Bf:Code->Bool
 | .seq _ _=>true
 | _=>false
def ll:Code->Option Operand
 | .cond x _ _=>some x
 | _=>none
def J5:Code->Option Nat
 | .block id _=>some id
 | _=>none
def Iy:Code->Bool
 | .loop _=>true
 | _=>false
def MB:Code->Option Nat
 | .exit id=>some id
 | _=>none
def Ix:Code->Bool
 | .ret=>true
 | _=>false
def C4:Code->Bool
 | .skip=>true
 | _=>false
section
variable {P:Program} {n:Nat} {c:Code} {Q:Exit->AS->Prop} {s:AS}
theorem bf.seq (hc:Bf c=true) (h:bf P n (iu c) (r6 (bf P n (dI c) Q) Q) s):bf P n c Q s:=by
 cases c with
 | seq x y =>
  intro S0 w0 a w hs
  refine er x _ _ (fun e a' w' ⟨s',hq,b7⟩=>?_) a w (h S0 w0 a w hs)
  cases e with
  | normal=>exact bf.Us hq b7
  | _=>exact ⟨s',hq,b7⟩
 | _=>cases hc
theorem bf.cond {x:Operand} {b:Bool} (hc:ll c=some x) (hx:bp s x= .val (.bool b)) (ht:b=true->bf P n (oP c) Q s) (hf:b=false->bf P n (oZ c) Q s):bf P n c Q s:=by
 cases c with
 | cond y p q =>
  cases hc
  intro S0 w0 a w hs
  have hv:a.eval x= .bool b:=by
   obtain ⟨φ,b7⟩:=hs
   exact bM (hx ▸ b7.bp x)
  exact ⟨b,hv,fun e=>ht e S0 w0 a w hs,fun e=>hf e S0 w0 a w hs⟩
 | _=>cases hc
theorem bf.block {id:Nat} (hc:J5 c=some id) (h:bf P n (fA c) (OB id Q) s):bf P n c Q s:=by
 cases c with
 | block pw b =>
  cases hc
  intro S0 w0 a w hs
  refine er b _ _ (fun e a' w' ⟨s',hq,b7⟩=>?_) a w (h S0 w0 a w hs)
  cases e with
  | exit i =>
   simp only [OB] at hq
   simp only [Exit.inBlock]
   split
   ·rename_i hi;rw [if_pos hi] at hq;exact ⟨s',hq,b7⟩
   ·rename_i hi;rw [if_neg hi] at hq;exact ⟨s',hq,b7⟩
  | _=>exact ⟨s',hq,b7⟩
 | _=>cases hc
theorem bf.exit {id:Nat} (hc:MB c=some id) (h:Q (.exit id) s):bf P n c Q s:=by
 cases c with
 | exit i=>cases hc;intro S0 w0 a w hs;exact ⟨s,h,hs.one⟩
 | _=>cases hc
theorem bf.ret (hc:Ix c=true) (h:Q .ret s):bf P n c Q s:=by
 cases c with
 | ret=>intro S0 w0 a w hs;exact ⟨s,h,hs.one⟩
 | _=>cases hc
theorem bf.skip (hc:C4 c=true) (h:Q .normal s):bf P n c Q s:=by
 cases c with
 | skip=>intro S0 w0 a w hs;exact ⟨s,h,hs.one⟩
 | _=>cases hc
theorem bf.o7 {s':AS} (hw:bU s s') (h:bf P n c Q s'):bf P n c Q s:=fun S0 w0 a w hs=>h S0 w0 a w (hw S0 w0 n a w hs)
theorem bf.mono {Q':Exit->AS->Prop} (h:bf P n c Q s) (hq:∀e s,Q e s->Q' e s):bf P n c Q' s:=fun S0 w0 a w hs=>er c _ _ (fun e _ _ ⟨s',h1,h2⟩=>⟨s',hq e s' h1,h2⟩) a w (h S0 w0 a w hs)
def Round {ι:Type} (I:ι->AS) (Inv:ι->Prop) (m:ι->Nat) (Q:Exit->AS->Prop) (x:ι):Exit->AS->Prop:=r6 (fun s'=>∃y,Inv y∧m y<m x∧bU s' (I y)) Q
theorem bf.loop {ι:Type} (I:ι->AS) (Inv:ι->Prop) (m:ι->Nat) (hc:Iy c=true) (x0:ι) (h0:Inv x0) (hw:bU s (I x0)) (h:∀x,Inv x->bf P n (fA c) (Round I Inv m Q x) (I x)):bf P n c Q s:=by
 cases c with
 | loop b =>
  intro S0 w0 a w hs
  refine ⟨fun k a w=>∃x,Inv x∧m x=k∧ni S0 w0 n (I x) a w,m x0,⟨x0,h0,rfl,(hw S0 w0 n a w hs).one⟩,?_⟩
  rintro k a w ⟨x,hx,rfl,hs⟩
  refine er b _ _ (fun e a' w' ⟨s',hq,b7⟩=>?_) a w (bf.Us (h x hx) hs)
  cases e with
  | normal =>
   obtain ⟨y,hy,dk,UN⟩:=hq
   obtain ⟨S1,w1,ms,h1,h2⟩:=b7
   exact ⟨m y,dk,y,hy,rfl,S1,w1,ms,h1,UN S1 w1 n a' w' h2⟩
  | _=>exact ⟨s',hq,b7⟩
 | _=>cases hc
end
structure pP where
 hs:List (Nat×Hint):=[]
 T:Nat:=0
def sD (P:Program) (n:Nat) (c:Code) (x:pP) (s:AS):Option (AS×List Prop) :=
 match c with
 | .region _ ⟨l⟩ false=>j8 P n l x.hs l 0 s
 | .region _ ⟨l⟩ true=>DE P n x.T l x.hs s
 | _=>none
def kT (P:Program) (n:Nat):List pP->Code->AS->Option (AS×List Prop)
 | [],_,s=>some (s,[])
 | x::l,c,s=>match Bf c with
  | true=>(match sD P n (iu c) x s with
   | some (s1,C)=>(match kT P n l (dI c) s1 with|some (s2,D)=>some (s2,C++D)|none=>none)
   | none=>none)
  | false=>none
def qD:Nat->Code->Code
 | 0,c=>c
 | k+1,c=>qD k (dI c)
section
variable {P:Program} {n:Nat} {c:Code} {Q:Exit->AS->Prop} {s s':AS} {C:List Prop}
theorem BS {x:pP} (he:sD P n c x s=some (s',C)) (hC:bz C) (h:Q .normal s'):bf P n c Q s:=by
 intro S0 w0 a w hs
 unfold sD at he
 split at he
 ·exact jQ (S0:=S0) (w0:=w0) _ _ _ _ _ he hC a w hs fun a' w' b7=>⟨s',h,b7.one⟩
 ·exact GF (S0:=S0) (w0:=w0) he hC hs fun a' w' b7=>⟨s',h,b7.one⟩
 ·cases he
theorem bf.OG (x:pP) (he:sD P n c x s=some (s',C)) (hC:bz C) (h:Q .normal s'):bf P n c Q s:=BS he hC h
theorem bf.Pn:∀(l:List pP) {c:Code} {s s':AS} {C:List Prop},kT P n l c s=some (s',C)->bz C->bf P n (qD l.length c) Q s'->bf P n c Q s
 | [],c,s,s',C,he,hC,h=>by cases he;exact h
 | x::l,c,s,s',C,he,hC,h=>by
  simp only [kT] at he
  split at he
  ·rename_i R7
   split at he
   ·rename_i s1 C1 h1
    split at he
    ·rename_i s2 D h2
     cases he
     obtain ⟨iJ,hD⟩:=bT.1 hC
     exact bf.seq R7 (BS h1 iJ (bf.Pn l h2 hD h))
    ·cases he
   ·cases he
  ·cases he
end
def kJ (a b:Nat):AV->AV
 | .ref i=>match Nat.beq i a with|true=>.ref b|false=>.ref i
 | .pre i n=>match Nat.beq i a with|true=>.pre b n|false=>.pre i n
 | .js i o n=>match Nat.beq i a with|true=>.js b o n|false=>.js i o n
 | .addr i o=>match Nat.beq i a with|true=>.addr b o|false=>.addr i o
 | .agg _=>.dead
 | .bk _=>.dead
 | x=>x
def FQ (a b:Nat):AV->AV
 | .agg cs=>.agg (cs.map (kJ a b))
 | x=>kJ a b x
def M5 (a b:Nat):AV->AV
 | .bk cs=>.bk (cs.map (FQ a b))
 | x=>FQ a b x
def eX (a b:Nat) (r:Row):Row:=match r.pure with|true=>r|false=>⟨r.e,false,r.full,r.cells.map (kJ a b)⟩
def pf {α:Type} (a b:Nat):List (Nat×α)->List (Nat×α)
 | []=>[]
 | (k,x)::l=>match Nat.beq k a with|true=>(b,x)::pf a b l|false=>(k,x)::pf a b l
def rename (a b:Nat) (s:AS):AS:=⟨d_ (M5 a b) s.F,d_ (eX a b) (pf a b s.H)⟩
theorem nG {α:Type} (a b:Nat):∀(l:List (Nat×α)),look l b=none-> ∀i,look (pf a b l) i=if i=b then look l a else if i=a then none else look l i
 | [],_,i=>by simp [pf,look]
 | (k,x)::l,hb,i=>by
  rw [aF] at hb
  have Sr:k≠b:=fun e=>by rw [if_pos e] at hb;cases hb
  rw [if_neg Sr] at hb
  have ih:=nG a b l hb i
  rcases bK k a with ⟨h,e⟩|⟨h,e⟩
  ·simp only [pf,h,aF,ih]
   by_cases hi:i=b
   ·subst hi;simp [e]
   ·by_cases Ny:i=a
    ·have Ue:b≠a:=fun e'=>hi (by rw [e',Ny])
     simp [Ny,Ue,Ne.symm Ue]
    ·have:k≠i:=fun e'=>Ny (by rw [←e',e])
     simp [hi,Ny,Ne.symm hi,this]
  ·simp only [pf,h,aF,ih]
   by_cases hi:i=b
   ·subst hi;simp [Sr,e]
   ·by_cases Ny:i=a
    ·subst Ny;simp [hi,e]
    ·simp [hi,Ny]
section
variable {S0:bn} {w0 w:World} {n:Nat} {s:AS} {a:Act} {φ:Nat->Option Nat}
theorem cH (x y:Nat) (r:Row):(eX x y r).e=r.e∧(eX x y r).cells.length=r.cells.length∧(eX x y r).pure=r.pure∧(eX x y r).full=r.full:=by
 unfold eX
 cases h:r.pure<;>simp [h]
theorem aO.KT (h:aO S0 w0 n [] s a w φ) (x y:Nat) (PA:y<1000000000000) (cW:x≠y) (hy:look s.H y=none):∃ cA,aO S0 w0 n [] (rename x y s) a w cA:=by
 let cA:Nat->Option Nat:=fun i=>if i=y then φ x else if i=x then none else φ i
 have RN:φ y=none:=h.only y hy
 have mM:∀i g,cA i=some g-> ∃j,φ j=some g∧(i=y->j=x)∧(i≠y->j=i):=by
  intro i g hi
  by_cases e:i=y
  ·have:φ x=some g:=by simpa [cA,e] using hi
   exact ⟨x,this,fun _=>rfl,fun h=>absurd e h⟩
  ·by_cases e2:i=x
   ·simp [cA,e2,cW] at hi
   ·have:φ i=some g:=by simpa [cA,e,e2] using hi
    exact ⟨i,this,fun h=>absurd h e,fun _=>rfl⟩
 have Ja:∀b,aQ S0 w φ [] b->aQ S0 w cA [] b:=by
  intro b ⟨h1,h2,h3,h4⟩
  refine ⟨h1,h2,fun i hi=>?_,h4⟩
  obtain ⟨j,hj,-⟩:=mM i b hi
  exact h3 j hj
 have j6:∀i,look (rename x y s).H i=(if i=y then look s.H x else if i=x then none else look s.H i).map (eX x y):=by
  intro i
  unfold rename
  rw [cy,nG x y _ hy]
 have hI:∀i z,az s.H φ i=some z->az (rename x y s).H cA (if i=x then y else i)=some z:=by
  intro i z hi
  obtain ⟨e,m,b⟩:=z
  obtain ⟨r,hl,h1,h2,h3⟩:=aT hi
  by_cases e1:i=x
  ·subst e1
   rw [if_pos rfl,bu (r:=eX i y r) (by rw [j6,if_pos rfl,hl];rfl),(cH i y r).1,(cH i y r).2.1,h1,h2]
   simp [cA,h3]
  ·have e2:i≠y:=fun e=>by subst e;rw [hy] at hl;cases hl
   rw [if_neg e1,bu (r:=eX x y r) (by rw [j6,if_neg e2,if_neg e1,hl];rfl),(cH x y r).1,(cH x y r).2.1,h1,h2]
   simp [cA,e1,e2,h3]
 have sZ:∀b,aQ S0 w φ [] b->aQ S0 w cA [] b∧w.heap[b]?=w.heap[b]?:=fun b h=>⟨Ja b h,rfl⟩
 have ok:jX (az s.H φ) (az (rename x y s).H cA) (aQ S0 w φ []) (aQ S0 w cA []) w (kJ x y):=by
  refine ⟨fun v av hv h1 h2=>?_,fun _=>rfl,fun _=>rfl⟩
  have pick:∀i z,az s.H φ i=some z->(Nat.beq i x=true∧az (rename x y s).H cA y=some z)∨(Nat.beq i x=false∧az (rename x y s).H cA i=some z):=by
   intro i z hi
   have:=hI i z hi
   rcases bK i x with ⟨hb,e⟩|⟨hb,e⟩
   ·rw [if_pos e] at this;exact .inl ⟨hb,this⟩
   ·rw [if_neg e] at this;exact .inr ⟨hb,this⟩
  cases hv with
  | rep h=>cases h with
   | val v=>exact .rep (.val v)
   | nil=>exact .rep .nil
   | agg vs cs _ _=>exact absurd rfl (h1 cs)
   | bk vs cs _ _=>exact absurd rfl (h2 cs)
   | arr vs cs hl h=>exact .rep ((cB.arr vs cs hl h).mono sZ)
   | sl A n c e us row hl hn hc hm ha h=>exact .rep ((cB.sl A n c e us row hl hn hc hm ha h).mono sZ)
   | pC A n e us row hl hn hm ha h=>exact .rep ((cB.pC A n e us row hl hn hm ha h).mono sZ)
   | ptr ad us row off hl hs ha h=>exact .rep ((cB.ptr ad us row off hl hs ha h).mono sZ)
   | kX f vs cs hl h=>exact .rep ((cB.kX f vs cs hl h).mono sZ)
  | agg vs cs _ _=>exact absurd rfl (h1 cs)
  | bk vs cs _ _=>exact absurd rfl (h2 cs)
  | ref i e m g l c hi hm hc hx hs=>rcases pick i _ hi with ⟨hb,ji⟩|⟨hb,ji⟩<;>simp only [kJ,hb]<;>exact .ref _ e m g l c ji hm hc hx hs
  | cD i e hi=>rcases pick i _ hi with ⟨hb,ji⟩|⟨hb,ji⟩<;>simp only [kJ,hb]<;>exact .cD _ e ji
  | pre i k e m g l c hi hn hm hc hx hs=>rcases pick i _ hi with ⟨hb,ji⟩|⟨hb,ji⟩<;>simp only [kJ,hb]<;>exact .pre _ k e m g l c ji hn hm hc hx hs
  | dB i e hi=>rcases pick i _ hi with ⟨hb,ji⟩|⟨hb,ji⟩<;>simp only [kJ,hb]<;>exact .dB _ e ji
  | js i off k e m l c g A hi hn hm hc hx ha=>rcases pick i _ hi with ⟨hb,ji⟩|⟨hb,ji⟩<;>simp only [kJ,hb]<;>exact .js _ off k e m l c g A ji hn hm hc hx ha
  | addr i off e m g hi=>rcases pick i _ hi with ⟨hb,ji⟩|⟨hb,ji⟩<;>simp only [kJ,hb]<;>exact .addr _ off e m g ji
  | dead v=>exact .dead _
 have CQ:∀z:AV,(∀cs,z≠ .agg cs)->FQ x y z=kJ x y z:=by
  intro z hz
  cases z with
  | agg cs=>exact absurd rfl (hz cs)
  | _=>rfl
 have CP:∀z:AV,(∀cs,z≠ .bk cs)->M5 x y z=FQ x y z:=by
  intro z hz
  cases z with
  | bk cs=>exact absurd rfl (hz cs)
  | _=>rfl
 refine ⟨cA,h.jS,h.jV,h.cZ,fun i av hi=>?_,fun i r hr=>?_,fun i hi=>?_,fun i j g hi hj=>?_,fun i g hi=>?_,fun i g hi=>by simp,h.new⟩
 ·unfold rename at hi
  rw [cy] at hi
  cases hl:look s.F i with
  | none=>rw [hl] at hi;cases hi
  | some z =>
   rw [hl] at hi;injection hi with hi;subst hi
   exact ok.two (h.cC i z hl) (fun _=>rfl) CQ (fun _=>rfl) CP
 ·rw [j6] at hr
  have:∃j q,look s.H j=some q∧cA i=φ j∧r=eX x y q:=by
   by_cases e:i=y
   ·rw [if_pos e] at hr
    cases hl:look s.H x with
    | none=>rw [hl] at hr;cases hr
    | some q=>rw [hl] at hr;injection hr with hr;exact ⟨x,q,hl,by simp [cA,e],hr.symm⟩
   ·rw [if_neg e] at hr
    by_cases e2:i=x
    ·rw [if_pos e2] at hr;cases hr
    ·rw [if_neg e2] at hr
     cases hl:look s.H i with
     | none=>rw [hl] at hr;cases hr
     | some q=>rw [hl] at hr;injection hr with hr;exact ⟨i,q,hl,by simp [cA,e,e2],hr.symm⟩
  obtain ⟨j,q,hq,Nh,rfl⟩:=this
  have aR:=h.rows j q hq
  rw [Nh]
  unfold bR at aR ⊢
  cases hb:φ j with
  | none =>
   rw [hb] at aR
   have:=(cH x y q).2.1
   simp only at aR ⊢
   rw [aR] at this;exact List.length_eq_zero_iff.1 this
  | some g =>
   rw [hb] at aR
   obtain ⟨cur,te,fr,hg,hf,hlen,m7,hc⟩:=aR
   refine ⟨cur,te,fr,hg,hf,by rw [(cH x y q).2.1];exact hlen,by rw [(cH x y q).2.1,(cH x y q).2.2.2];exact m7,fun j u z hu hz=>?_⟩
   rw [(cH x y q).2.2.1]
   unfold bh
   cases hp:q.pure with
   | true =>
    have:eX x y q=q:=by unfold eX;rw [hp]
    rw [this] at hz
    have:=hc j u z hu hz
    unfold bh at this;rw [hp] at this
    exact this.mono sZ
   | false =>
    have:(eX x y q).cells=q.cells.map (kJ x y):=by unfold eX;rw [hp]
    rw [this,List.getElem?_map] at hz
    cases hj:q.cells[j]? with
    | none=>rw [hj] at hz;cases hz
    | some z' =>
     rw [hj] at hz;injection hz with hz;subst hz
     have:=hc j u z' hu hj
     unfold bh at this;rw [hp] at this
     exact ok.all this
 ·rw [j6] at hi
  by_cases e:i=y
  ·rw [if_pos e] at hi
   cases hl:look s.H x with
   | none=>simp [cA,e,h.only x hl]
   | some q=>rw [hl] at hi;cases hi
  ·rw [if_neg e] at hi
   by_cases e2:i=x
   ·simp [cA,e2,cW]
   ·rw [if_neg e2] at hi
    cases hl:look s.H i with
    | none=>simp [cA,e,e2,h.only i hl]
    | some q=>rw [hl] at hi;cases hi
 ·obtain ⟨i',h1,h2,h3⟩:=mM i g hi
  obtain ⟨j',h4,h5,h6⟩:=mM j g hj
  have e:=h.inj i' j' g h1 h4
  by_cases ei:i=y<;>by_cases ej:j=y
  ·rw [ei,ej]
  ·have:=h2 ei;have:=h6 ej
   have:j=x:=ah
   subst this
   simp [cA,cW] at hj
  ·have:=h3 ei;have:=h5 ej
   have:i=x:=ah
   subst this
   simp [cA,cW] at hi
  ·have:=h3 ei;have:=h6 ej;omega
 ·obtain ⟨j,h1,h2,h3⟩:=mM i g hi
  have:=h.cY j g h1
  refine ⟨⟨?_,this.1.2⟩,this.2⟩
  by_cases e:i=y
  ·exact .inl ah
  ·rw [←h3 e];exact this.1.1
end
inductive Wk where
 | gq (id:Nat)
 | vK (a b:Nat)
 | nil (slot id e:Nat)
 | aa (cC ids:List Nat)
 | loose (id:Nat)
def m5 (s:AS):List Nat->List (Nat×AV)
 | []=>[]
 | i::l=>(i,jU s i)::m5 s l
def sk (H:List (Nat×Row)):List Nat->List (Nat×Row)
 | []=>[]
 | i::l=>match look H i with|some r=>(i,r)::sk H l|none=>sk H l
def gj (ids:List Nat):List (Nat×Row)->List Nat
 | []=>[]
 | (k,_)::l=>match ids.any (Nat.beq k) with|true=>gj ids l|false=>k::gj ids l
def Ek (s:AS) (id:Nat):Option AS:=match look s.H id with|some r=>some ⟨s.F,(id,⟨r.e,r.pure,false,r.cells⟩)::cP s.H id⟩|none=>none
def MR (s:AS):Wk->Option AS
 | .gq id=>(match look s.H id with|some r=>(match r.pure with|true=>some (gq id r s)|false=>none)|none=>none)
 | .vK x y=>(match Nat.beq x y,Nat.ble y 999999999999 with|false,true=>some (rename x y (cp y s))|_,_=>none)
 | .nil i id e=>(match jU s i with| .nil=>some (lx ⟨(cp id s).F,(id,⟨e,true,false,[]⟩)::(cp id s).H⟩ i (.ref id))|_=>none)
 | .aa is ids=>some ⟨(a6 ⟨m5 s is,s.H⟩ (gj ids s.H)).F,sk (a6 ⟨m5 s is,s.H⟩ (gj ids s.H)).H ids⟩
 | .loose id=>Ek s id
def wk:List Wk->AS->Option AS
 | [],s=>some s
 | x::l,s=>match MR s x with|some s1=>wk l s1|none=>none
theorem uI (s:AS):∀(l:List Nat) (i:Nat) (x:AV),look (m5 s l) i=some x->x=jU s i
 | [],i,x,h=>by cases h
 | k::l,i,x,h=>by
  simp only [m5,aF] at h
  by_cases e:k=i
  ·rw [if_pos e] at h;injection h with h;rw [←h,e]
  ·rw [if_neg e] at h;exact uI s l i x h
theorem uH (H:List (Nat×Row)):∀(l:List Nat) (i:Nat),look (sk H l) i=if i∈l then look H i else none
 | [],i=>by simp [sk,look]
 | k::l,i=>by
  simp only [sk]
  have ih:=uH H l i
  cases hk:look H k with
  | none =>
   rw [ih]
   by_cases e:i=k
   ·subst e;simp [hk]
   ·simp [e]
  | some r =>
   simp only [aF,ih]
   by_cases e:k=i
   ·subst e;simp [hk]
   ·simp [e,Ne.symm e]
theorem nF (ids:List Nat):∀(H:List (Nat×Row)) (i:Nat),i ∉ ids->look H i=none∨i∈gj ids H
 | [],i,_=>.inl rfl
 | (k,r)::H,i,hi=>by
  simp only [gj,aF]
  by_cases e:k=i
  ·subst e
   right
   have:ids.any (Nat.beq k)=false:=by
    cases hb:ids.any (Nat.beq k) with
    | false=>rfl
    | true =>
     obtain ⟨j,hj,Kt⟩:=List.any_eq_true.1 hb
     have:=Nat.eq_of_beq_eq_true Kt
     subst this;exact absurd hj hi
   rw [this];simp
  ·rw [if_neg e]
   rcases nF ids H i hi with h|h
   ·exact .inl h
   ·right
    split
    ·exact h
    ·simp [h]
theorem tz {I:Info} {S:Nat->Prop} {w:World} {v:Value} (h:Den I S w v .nil):v= .slice none 0 0:=by
 cases h with|rep h=>cases h;rfl
theorem MQ {s s':AS} {x:Wk} (he:MR s x=some s'):bU s s':=by
 intro S0 w0 n a w ⟨φ,hs⟩
 cases x with
 | gq id =>
  simp only [MR] at he
  split at he
  ·rename_i r hr
   split at he
   ·rename_i hp;cases he;exact ⟨_,hs.Md hr hp⟩
   ·cases he
  ·cases he
 | vK x y =>
  simp only [MR] at he
  split at he
  ·rename_i hb dk
   cases he
   have cW:x≠y:=Nat.ne_of_beq_eq_false hb
   have dk:=Nat.le_of_ble_eq_true dk
   obtain ⟨cA,h⟩:=(hs.mv y).KT x y ah cW (dp y)
   exact ⟨cA,h⟩
  ·cases he
 | nil i id e =>
  simp only [MR] at he
  split at he
  ·rename_i hn
   cases he
   have hv:=hs.get i
   rw [hn] at hv
   have ID:a.tmps.getD i undef= .slice none 0 0:=tz hv
   have h1:=hs.mv id
   have h2:=h1.rZ (id:=id) (r:=⟨e,true,false,[]⟩) (dp id) rfl
   refine ⟨erase φ id,h2.jS,h2.jV,h2.cZ,fun j av hj=>?_,h2.rows,h2.only,h2.inj,h2.cY,h2.apart,h2.new⟩
   rw [rv] at hj
   by_cases e':i=j
   ·rw [if_pos e'] at hj;injection hj with hj;subst hj;subst e'
    rw [ID]
    exact .cD id e (by
     show az ((id,⟨e,true,false,[]⟩)::(cp id s).H) _ id=_
     rw [bu (r:=⟨e,true,false,[]⟩) (by rw [aF,if_pos rfl]),h1.only id (dp id)];rfl)
   ·rw [if_neg e'] at hj;exact h2.cC j av hj
  ·cases he
 | aa is ids =>
  simp only [MR] at he
  cases he
  have h1:aO S0 w0 n [] ⟨m5 s is,s.H⟩ a w φ:=by
   refine ⟨hs.jS,hs.jV,hs.cZ,fun i av hi=>?_,hs.rows,hs.only,hs.inj,hs.cY,hs.apart,hs.new⟩
   rw [uI s is i av hi]
   exact hs.get i
  obtain ⟨cA,h2,-,h3⟩:=kg (gj ids s.H) ⟨m5 s is,s.H⟩ φ [] h1
  have fM:∀i,i ∉ ids->look (a6 ⟨m5 s is,s.H⟩ (gj ids s.H)).H i=none:=fun i hi=>h3 i (nF ids s.H i hi)
  have j6:∀i,look (sk (a6 ⟨m5 s is,s.H⟩ (gj ids s.H)).H ids) i=look (a6 ⟨m5 s is,s.H⟩ (gj ids s.H)).H i:=by
   intro i
   rw [uH]
   by_cases hi:i∈ids
   ·rw [if_pos hi]
   ·rw [if_neg hi,fM i hi]
  have hI:az (sk (a6 ⟨m5 s is,s.H⟩ (gj ids s.H)).H ids) cA=az (a6 ⟨m5 s is,s.H⟩ (gj ids s.H)).H cA:=by
   funext i;unfold az;rw [j6]
  refine ⟨cA,h2.jS,h2.jV,h2.cZ,fun i av hi=>?_,fun i r hr=>?_,fun i hi=>?_,h2.inj,h2.cY,h2.apart,h2.new⟩
  ·simp only [hI];exact h2.cC i av hi
  ·simp only [hI];simp only [j6] at hr;exact h2.rows i r hr
  ·simp only [j6] at hi;exact h2.only i hi
 | loose id =>
  simp only [MR,Ek] at he
  split at he
  ·rename_i r hr
   cases he
   have lH:∀i,look ((id,(⟨r.e,r.pure,false,r.cells⟩:Row))::cP s.H id) i=if id=i then some ⟨r.e,r.pure,false,r.cells⟩ else look s.H i:=by
    intro i
    rw [aF,bJ]
    by_cases e:id=i<;>simp [e]
   have hI:az ((id,(⟨r.e,r.pure,false,r.cells⟩:Row))::cP s.H id) φ=az s.H φ:=by
    funext i
    unfold az
    rw [lH]
    by_cases e:id=i
    ·subst e;rw [if_pos rfl,hr];rfl
    ·rw [if_neg e]
   refine ⟨φ,hs.jS,hs.jV,hs.cZ,fun i av hi=>?_,fun i q hq=>?_,fun i hi=>?_,hs.inj,hs.cY,hs.apart,hs.new⟩
   ·simp only [hI];exact hs.cC i av hi
   ·simp only [hI]
    simp only [lH] at hq
    by_cases e:id=i
    ·subst e
     rw [if_pos rfl] at hq;injection hq with hq;subst hq
     have aR:=hs.rows id r hr
     unfold bR at aR ⊢
     cases ct:φ id with
     | none=>rw [ct] at aR;exact aR
     | some g =>
      rw [ct] at aR
      obtain ⟨cur,te,fr,hg,hf,hl,-,hc⟩:=aR
      exact ⟨cur,te,fr,hg,hf,hl,fun h=>(by cases h),hc⟩
    ·rw [if_neg e] at hq;exact hs.rows i q hq
   ·simp only [lH] at hi
    by_cases e:id=i
    ·rw [if_pos e] at hi;cases hi
    ·rw [if_neg e] at hi;exact hs.only i hi
  ·cases he
theorem wB:∀(l:List Wk) {s s':AS},wk l s=some s'->bU s s'
 | [],s,s',he=>by cases he;exact fun _ _ _ _ _ h=>h
 | x::l,s,s',he=>by
  simp only [wk] at he
  split at he
  ·rename_i s1 h1
   exact fun S0 w0 n a w h=>wB l he S0 w0 n a w (MQ h1 S0 w0 n a w h)
  ·cases he
theorem bf.wk {P:Program} {n:Nat} {c:Code} {Q:Exit->AS->Prop} {s s':AS} (l:List Wk) (he:wk l s=some s') (h:bf P n c Q s'):bf P n c Q s:=bf.o7 (wB l he) h
def BK (s:AS):AV->AV->Option (List Nat×List Prop)
 | .val u,.val v=>some ([],[u=v])
 | .nil,.nil=>some ([],[])
 | .nil,.own _ row=>some ([],[row= []])
 | .nil,.sl _ row=>some ([],[row= []])
 | .sl e row,.sl e' FL=>(match Nat.beq e e' with|true=>some ([],[row=FL])|false=>none)
 | .arr cs,.arr Ky=>some ([],[cs=Ky])
 | .ptr row off,.ptr FL CS=>some ([],[row=FL,off=CS])
 | .kX f cs,.kX f' Ky=>(match Nat.beq f f' with|true=>some ([],[cs=Ky])|false=>none)
 | .ref id,.own e row=>(match look s.H id with|some ⟨e',true,_,cells⟩=>(match Nat.beq e e' with|true=>some ([id],[cells=row])|false=>none)|_=>none)
 | .pre id k,.own e row=>(match look s.H id with|some ⟨e',true,_,cells⟩=>(match Nat.beq e e' with|true=>some ([id],[cells.take k=row])|false=>none)|_=>none)
 | .addr id off,.box row=>(match look s.H id,off with|some ⟨_,false,true,cells⟩,0=>(match dZ cells with|true=>some ([id],[cells=row])|false=>none)|_,_=>none)
 | _,_=>none
def BG (f:AV->AV->Option (List Nat×List Prop)):List AV->List AV->Option (List Nat×List Prop)
 | [],[]=>some ([],[])
 | x::xs,r::rs=>match f x r,BG f xs rs with|some (a,C),some (b,D)=>some (a++b,C++D)|_,_=>none
 | _,_=>none
def BI (s:AS):AV->AV->Option (List Nat×List Prop)
 | .agg xs,.agg rs=>BG (BK s) xs rs
 | x,r=>BK s x r
def lk (s:AS):AV->AV->Option (List Nat×List Prop)
 | .bk xs,.bk rs=>BG (BI s) xs rs
 | x,r=>BI s x r
section
variable {S0:bn} {w0 w:World} {n:Nat} {s:AS} {a:Act} {φ:Nat->Option Nat}
def blocks (φ:Nat->Option Nat):List Nat->List Nat
 | []=>[]
 | i::l=>match φ i with|some g=>g::blocks φ l|none=>blocks φ l
theorem D_ (φ:Nat->Option Nat) (l m:List Nat):blocks φ (l++m)=blocks φ l++blocks φ m:=by
 induction l with
 | nil=>rfl
 | cons i l ih =>
  simp only [List.cons_append,blocks]
  cases φ i<;>simp [ih]
theorem ik {φ:Nat->Option Nat} {g:Nat}:∀ {l:List Nat},g∈blocks φ l-> ∃i∈l,φ i=some g
 | [],h=>by cases h
 | i::l,h=>by
  simp only [blocks] at h
  split at h
  ·rename_i g' ja
   rcases List.mem_cons.1 h with rfl|h
   ·exact ⟨i,by simp,ja⟩
   ·obtain ⟨j,h1,h2⟩:=ik h
    exact ⟨j,by simp [h1],h2⟩
  ·obtain ⟨j,h1,h2⟩:=ik h
   exact ⟨j,by simp [h1],h2⟩
theorem ki (hs:aO S0 w0 n [] s a w φ):∀ {l:List Nat},l.Nodup->(blocks φ l).Nodup
 | [],_=>List.nodup_nil
 | i::l,h=>by
  rw [List.nodup_cons] at h
  simp only [blocks]
  split
  ·rename_i g hg
   rw [List.nodup_cons]
   refine ⟨fun hm=>?_,ki hs h.2⟩
   obtain ⟨j,h1,h2⟩:=ik hm
   have:=hs.inj i j g hg h2
   subst this;exact h.1 h1
  ·exact ki hs h.2
theorem BJ (hs:aO S0 w0 n [] s a w φ) {v:Value} {x r:AV} {ids:List Nat} {C:List Prop} (hx:Den (az s.H φ) (aQ S0 w φ []) w v x) (hg:BK s x r=some (ids,C)) (hC:bz C):ib (aQ S0 w φ []) w v r (blocks φ ids):=by
 have own:∀(id e l c g:Nat) (fu:Bool) (cells row:List AV),look s.H id=some ⟨e,true,fu,cells⟩->φ id=some g->row.length=e*l->l≤c->c≤maxLen->a7 w g=e*c->(∀(j:Nat) x,row[j]?=some x->cells[j]?=some x)->ib (aQ S0 w φ []) w (.slice (some ⟨g,0,none⟩) l c) (.own e row) (blocks φ [id]):=by
  intro id e l c g fu cells row hr ct hl hc hm gF C7
  obtain ⟨cur,te,fr,hg,hf,hle,bw⟩:=kG hs hr rfl ct
  have:blocks φ [id]= [g]:=by simp [blocks,ct]
  rw [this]
  exact .own g l c e row cur te fr hg hf hl hc hm (by unfold a7 at gF;rw [hg] at gF;exact gF) fun j u x hu hx=>bw j u x hu (C7 j x hx)
 have Ia:∀(id e:Nat),φ id=none->ib (aQ S0 w φ []) w (.slice none 0 0) (.own e []) (blocks φ [id]):=by
  intro id e ct
  have:blocks φ [id]= []:=by simp [blocks,ct]
  rw [this];exact .nil e
 unfold BK at hg
 split at hg
 ·cases hg;have:=hC.1;subst this;exact .rep (by cases hx with|rep h=>exact h)
 ·cases hg;exact .rep (by cases hx with|rep h=>exact h)
 ·cases hg;have:=hC.1;subst this;rw [tz hx];exact .nil _
 ·cases hg;have:=hC.1;subst this;rw [tz hx];exact .rep (iN none 0 0 _ (by simp) (by simp) (by simp))
 ·split at hg
  ·rename_i hb
   cases hg
   have:=hC.1
   subst this
   rw [←Nat.eq_of_beq_eq_true hb]
   exact .rep (pF hx)
  ·cases hg
 ·cases hg;have:=hC.1;subst this;exact .rep (by cases hx with|rep h=>exact h)
 ·cases hg
  obtain ⟨h1,h2,-⟩:=hC
  subst h1;subst h2
  exact .rep (by cases hx with|rep h=>exact h)
 ·split at hg
  ·rename_i hb
   cases hg
   have:=hC.1
   subst this
   rw [←Nat.eq_of_beq_eq_true hb]
   exact .rep (by cases hx with|rep h=>exact h)
  ·cases hg
 ·rename_i id e row
  split at hg
  ·rename_i e' fu cells hr
   split at hg
   ·rename_i hb
    have hb:=Nat.eq_of_beq_eq_true hb
    cases hg
    have:=hC.1
    subst this
    subst hb
    cases hx with
    | rep h=>cases h
    | ref _ e2 m g l c hi hm hc hx b7 =>
     obtain ⟨r',iq,h1,h2,ct⟩:=aT hi
     rw [hr] at iq;injection iq with iq;subst iq
     simp only at h1 h2
     exact own id e l c g fu cells cells hr ct (by rw [h2,hm,h1]) hc hx (by rw [h1];exact b7) (fun _ _ h=>h)
    | cD _ e2 hi =>
     obtain ⟨r',iq,h1,h2,ct⟩:=aT hi
     rw [hr] at iq;injection iq with iq;subst iq
     simp only at h2
     have:cells= []:=List.length_eq_zero_iff.1 h2
     subst this
     exact Ia id e ct
   ·cases hg
  ·cases hg
 ·rename_i id k e row
  split at hg
  ·rename_i e' fu cells hr
   split at hg
   ·rename_i hb
    have hb:=Nat.eq_of_beq_eq_true hb
    cases hg
    have:=hC.1
    subst this
    subst hb
    cases hx with
    | rep h=>cases h
    | pre _ _ e2 m g l c hi hn hm hc hx b7 =>
     obtain ⟨r',iq,h1,h2,ct⟩:=aT hi
     rw [hr] at iq;injection iq with iq;subst iq
     simp only at h1 h2
     exact own id e l c g fu cells (cells.take k) hr ct (by rw [List.length_take,h2,h1,←hn];omega) hc hx (by rw [h1];exact b7) (fun j x h=>bZ _ _ _ _ h)
    | dB _ e2 hi =>
     obtain ⟨r',iq,h1,h2,ct⟩:=aT hi
     simp only [List.take_zero]
     exact Ia id e ct
   ·cases hg
  ·cases hg
 ·rename_i id off row
  split at hg
  ·rename_i e cells hr
   split at hg
   ·rename_i hp
    cases hg
    have:=hC.1
    subst this
    obtain ⟨e2,m,g,hi,hv⟩:=jR hx
    obtain ⟨r',iq,h1,h2,ct⟩:=aT hi
    have aR:=hs.rows id _ hr
    rw [ct] at aR
    obtain ⟨cur,te,fr,u1,u2,u3,u4,u5⟩:=aR
    have:blocks φ [id]= [g]:=by simp [blocks,ct]
    rw [this,hv]
    refine .box g cells cur te fr u1 u2 (u4 rfl) fun j u x hu hx=>?_
    have hd:Den (az s.H φ) (aQ S0 w φ []) w u x:=u5 j u x hu hx
    exact (eK hd (iB hp hx)).1
   ·cases hg
  ·cases hg
 ·cases hg
theorem u_ {f:AV->AV->Option (List Nat×List Prop)} {R:Value->AV->List Nat->Prop} (hf:∀v x r ids C,Den (az s.H φ) (aQ S0 w φ []) w v x->f x r=some (ids,C)->bz C->R v r (blocks φ ids)):∀(vs:List Value) (xs rs:List AV) (ids:List Nat) (C:List Prop),vs.length=xs.length->(∀(j:Nat) v c,vs[j]?=some v->xs[j]?=some c->Den (az s.H φ) (aQ S0 w φ []) w v c)->BG f xs rs=some (ids,C)->bz C->k8 R vs rs (blocks φ ids)
 | vs,[],rs,ids,C,hl,hd,hg,hC=>by
  cases vs with
  | cons=>simp at hl
  | nil =>
   cases rs with
   | nil=>cases hg;exact .nil
   | cons=>cases hg
 | vs,x::xs,[],ids,C,hl,hd,hg,hC=>by cases hg
 | [],x::xs,r::rs,ids,C,hl,hd,hg,hC=>by simp at hl
 | v::vs,x::xs,r::rs,ids,C,hl,hd,hg,hC=>by
  simp only [BG] at hg
  split at hg
  ·rename_i a C1 b D h1 h2
   cases hg
   obtain ⟨iJ,hD⟩:=bT.1 hC
   rw [D_]
   exact .cons (hf v x r a C1 (hd 0 v x rfl rfl) h1 iJ) (u_ hf vs xs rs b D (by simpa using hl) (fun j v c hv hc=>hd (j+1) v c (by simpa using hv) (by simpa using hc)) h2 hD)
  ·cases hg
theorem BH (hs:aO S0 w0 n [] s a w φ) {v:Value} {x r:AV} {ids:List Nat} {C:List Prop} (hx:Den (az s.H φ) (aQ S0 w φ []) w v x) (hg:BI s x r=some (ids,C)) (hC:bz C):oa (aQ S0 w φ []) w v r (blocks φ ids):=by
 unfold BI at hg
 split at hg
 ·obtain ⟨vs,rfl,hl,hd⟩:=ko hx
  exact .inr ⟨vs,_,rfl,rfl,u_ (f:=BK s) (R:=ib (aQ S0 w φ []) w) (fun v x r ids C h1 h2 h3=>BJ hs h1 h2 h3) vs _ _ ids C hl hd hg hC⟩
 ·exact .inl (BJ hs hx hg hC)
theorem qs (hs:aO S0 w0 n [] s a w φ) {v:Value} {x r:AV} {ids:List Nat} {C:List Prop} (hx:Den (az s.H φ) (aQ S0 w φ []) w v x) (hg:lk s x r=some (ids,C)) (hC:bz C):s_ (aQ S0 w φ []) w v r (blocks φ ids):=by
 unfold lk at hg
 split at hg
 ·obtain ⟨vs,rfl,hl,hd⟩:=zv hx
  exact .inr ⟨vs,_,rfl,rfl,u_ (f:=BI s) (R:=oa (aQ S0 w φ []) w) (fun v x r ids C h1 h2 h3=>BH hs h1 h2 h3) vs _ _ ids C hl hd hg hC⟩
 ·exact .inl (BH hs hx hg hC)
end
def HQ (P:Program) (s:AS):ResultVar->Option (AV×List Prop)
 | .tmp t=>some (jU s t,[])
 | .cell x t=>(match jU s x with
  | .addr id off=>(match look s.H id with
   | some r=>(match Iz P t,r.pure,off with
    | true,true,0=>(match eC P t with|some z=>some (.arr r.cells,[r.cells.length=z])|none=>none)
    | _,_,_=>pD P t r.pure r.cells off {})
   | none=>none)
  | _=>none)
def FM (P:Program) (s:AS):List ResultVar->Option (List AV×List Prop)
 | []=>some ([],[])
 | x::l=>match HQ P s x,FM P s l with|some (y,C),some (m,D)=>some (y::m,C++D)|_,_=>none
def nU (P:Program) (s:AS) (rs:List ResultVar) (r:AV):Option (List Prop) :=
 match FM P s rs with
 | some (xs,C)=>(match (match xs with| [x]=>lk s x r|xs=>lk s (.bk xs) r) with
  | some (ids,D)=>(match nodupB ids with|true=>some (C++D)|false=>none)
  | none=>none)
 | none=>none
section
variable {P:Program} {S0:bn} {w0 w:World} {n:Nat} {s:AS} {a:Act} {φ:Nat->Option Nat}
def nz (a:Act):ResultVar->Sem Value
 | .tmp t=>pure (a.tmps.getD t undef)
 | .cell b t=>do loadVar t (←asAddr (a.tmps.getD b undef))
theorem HP (hs:aO S0 w0 n [] s a w φ) {x:ResultVar} {y:AV} {C:List Prop} (he:HQ P s x=some (y,C)) (hC:bz C) :
  ∃v,(nz a x).run P w= .ok v w∧Den (az s.H φ) (aQ S0 w φ []) w v y:=by
 cases x with
 | tmp t=>cases he;exact ⟨_,rfl,hs.get t⟩
 | cell b t =>
  simp only [HQ] at he
  split at he
  ·rename_i id off hb
   split at he
   ·rename_i r hr
    have hx:=hs.get b
    rw [hb] at hx
    obtain ⟨e,m,g,hi,hv⟩:=jR hx
    obtain ⟨r',iq,-,-,ct⟩:=aT hi
    obtain ⟨cur,te,fr,hg,hf,hle,hc⟩:=CE hs hr ct
    have rd:∀(z:AV×List Prop) (h:Hint),pD P t r.pure r.cells off h=some z->bz z.2-> ∃v,(nz a (.cell b t)).run P w= .ok v w∧Den (az s.H φ) (aQ S0 w φ []) w v z.1:=by
     intro z h hz VU
     obtain ⟨v,h1,h2⟩:=rM (I:=az s.H φ) (S:=aQ S0 w φ []) hz VU ⟨g,off,none⟩ cur.toList hle (fun j u hu=>by rw [mh,cell_of_row w g _ cur te fr hg];simpa using hu) (fun j u x hu hx=>hc j u x (by simpa using hu) hx)
     exact ⟨v,by simp only [nz];rw [hv];simp [asAddr,h1],h2⟩
    split at he
    ·rename_i sY hp
     split at he
     ·rename_i z hz
      cases he
      have hlen:=hC.1
      unfold Iz at sY
      split at sY
      ·rename_i k el hu
       refine rd (.arr r.cells,[(r.cells.drop 0).take z=r.cells,r.cells.length=z]) {av:=some (.arr r.cells)} ?_ ⟨by rw [List.drop_zero,List.take_of_length_le ah],hlen,trivial⟩
       unfold pD
       rw [hz,hu,hp]
      ·cases sY
     ·cases he
    ·exact rd _ _ he hC
   ·cases he
  ·cases he
theorem xR (hs:aO S0 w0 n [] s a w φ):∀(l:List ResultVar) (ys:List AV) (C:List Prop),FM P s l=some (ys,C)->bz C ->
  ∃vs:List Value,(l.mapM (nz a)).run P w= .ok vs w∧vs.length=ys.length∧ ∀(j:Nat) v c,vs[j]?=some v->ys[j]?=some c->Den (az s.H φ) (aQ S0 w φ []) w v c
 | [],ys,C,he,hC=>by cases he;exact ⟨[],rfl,rfl,fun j v c hv=>by simp at hv⟩
 | x::l,ys,C,he,hC=>by
  simp only [FM] at he
  split at he
  ·rename_i y C1 m D h1 h2
   cases he
   obtain ⟨iJ,hD⟩:=bT.1 hC
   obtain ⟨v,Nn,Nl⟩:=HP hs h1 iJ
   obtain ⟨vs,h3,h4,h5⟩:=xR hs l m D h2 hD
   refine ⟨v::vs,?_,by simp [h4],fun j u c hu hc=>?_⟩
   ·rw [List.mapM_cons,Sem.run_bind,Nn]
    simp only [Result.andThen_ok]
    rw [Sem.run_bind,h3]
    rfl
   ·cases j with
    | zero=>simp at hu hc;subst hu;subst hc;exact Nl
    | succ j=>exact h5 j u c (by simpa using hu) (by simpa using hc)
  ·cases he
theorem Js (hs:aO S0 w0 n [] s a w φ) {fn:Func} {r:AV} {C:List Prop} (he:nU P s fn.results.toList r=some C) (hC:bz C) :
  ∃v O,(results fn a.tmps).run P w= .ok v w∧O.Nodup∧(∀g∈O,∃i,φ i=some g)∧s_ (aQ S0 w φ []) w v r O:=by
 unfold nU at he
 split at he
 ·rename_i xs C1 hr
  split at he
  ·rename_i ids D hg
   split at he
   ·rename_i hn
    cases he
    obtain ⟨iJ,hD⟩:=bT.1 hC
    obtain ⟨vs,cw,hl,hd⟩:=xR hs _ _ _ hr iJ
    have hm:(fn.results.mapM (nz a)).run P w= .ok vs.toArray w:=by
     rw [Array.mapM_eq_mapM_toList,Sem.run_map,cw];rfl
    have IK:(results fn a.tmps).run P w= .ok (if h:vs.toArray.size=1 then vs.toArray[0] else .tuple vs.toArray) w:=by
     have he:results fn a.tmps=(do let vs ←fn.results.mapM (nz a);pure (if h:vs.size=1 then vs[0] else .tuple vs):Sem Value):=by
      unfold results
      congr 1
     rw [he,Sem.run_bind,hm]
     rfl
    refine ⟨_,blocks φ ids,IK,ki hs (iD hn),fun g hg=>(ik hg).imp fun i h=>h.2,?_⟩
    split at hg
    ·rename_i x
     cases vs with
     | nil=>simp at hl
     | cons v vs =>
      have:vs= []:=by simpa using hl
      subst this
      exact qs hs (hd 0 v x rfl rfl) hg hD
    ·rename_i cW
     have dw:¬vs.toArray.size=1:=by
      intro h1
      have h2:xs.length=1:=by rw [←hl];simpa using h1
      obtain ⟨x,rfl⟩:=List.length_eq_one_iff.1 h2
      exact cW x rfl
     rw [dif_neg dw]
     exact qs hs (.bk vs xs hl hd) hg hD
   ·cases he
  ·cases he
 ·cases he
end
def k7:Nat->List AV->List (Nat×AV)
 | _,[]=>[]
 | i,x::l=>(i,x)::k7 (i+1) l
theorem mG:∀(l:List AV) (i j:Nat) (x:AV),look (k7 i l) j=some x-> ∃k,j=i+k∧l[k]?=some x
 | [],i,j,x,h=>by cases h
 | y::l,i,j,x,h=>by
  simp only [k7,aF] at h
  by_cases e:i=j
  ·rw [if_pos e] at h;exact ⟨0,ah,by simpa using h⟩
  ·rw [if_neg e] at h
   obtain ⟨k,h1,h2⟩:=mG l (i+1) j x h
   exact ⟨k+1,ah,by simpa using h2⟩
def wy (P:Program) (rs:List ResultVar) (r:AV):Exit->AS->Prop
 | .normal,s=>∃C,nU P s rs r=some C∧bz C
 | .ret,s=>∃C,nU P s rs r=some C∧bz C
 | _,_=>False
theorem mJ {P:Program} {fn:Func} {tmps:Array Value} {R:Ending->World->Prop}:∀(ms:List Nat) (w:World),ms.Nodup->(∀r∈ms,w.heap[r]?=some (.deferred (some []))) ->
  (∀w',w'.os=w.os->w'.tape=w.tape->w'.output=w.output->w'.heap.size=w.heap.size->(∀b,b ∉ ms->w'.heap[b]?=w.heap[b]?)-> ∃v,(results fn tmps).run P w'= .ok v w'∧R (.returned v) w') ->
  LeavesInM Fence.wide 0 P fn tmps R (ms.map mark) .returning w
 | [],w,_,_,h=>h w rfl rfl rfl rfl fun _ _=>rfl
 | r::ms,w,nd,hm,h=>by
  rw [List.nodup_cons] at nd
  refine ⟨by simp,.inl ⟨r,w.putObj r (.deferred none),rfl,run_takeDeferred (hm r (by simp)),?_⟩⟩
  refine mJ ms _ nd.2 (fun r' iq=>?_) (fun w' h1 h2 h3 h4 h5=>h w' h1 h2 h3 (by rw [h4];exact World.putObj_size) fun b hb=>?_)
  ·rw [World.putObj_heap_other fun e=>nd.1 (by rw [←e];exact iq)];exact hm r' (by simp [iq])
  ·simp only [List.mem_cons,not_or] at hb
   rw [h5 b hb.2,World.putObj_heap_other hb.1]
theorem ni.close {Z:bn} {w w' fy:World} {n:Nat} {s:AS} {a:Act} (hd:Z.sG= []) (l7:∀b,(w.heap.size≤b∨Z.X b)->Z.S b) {S1:bn} {w1:World} {ms:List Nat} (hE:lf Z w S1 w1 ms) {φ:Nat->Option Nat} (hs:aO S1 w1 n [] s a w' φ)
  (h1:fy.os=w'.os) (h2:fy.tape=w'.tape) (h3:fy.output=w'.output) (h4:fy.heap.size=w'.heap.size) (h5:∀b,b ∉ ms->fy.heap[b]?=w'.heap[b]?):aO Z w n [] s ⟨a.tmps,[]⟩ fy φ:=by
 have hS:∀b,S1.S b->fy.heap[b]?=w'.heap[b]?:=fun b hb=>h5 b fun hm=>(hE.marks b hm).2.2.2.1 hb
 have hF:∀b,aQ S1 w' φ [] b->aQ Z fy φ [] b∧fy.heap[b]?=w'.heap[b]?:=fun b hb=>⟨⟨by rw [h4];exact hb.1,hb.2.1,hb.2.2.1,hE.sub b hb.2.2.2⟩,hS b hb.2.2.2⟩
 have ct:∀id g,φ id=some g->fy.heap[g]?=w'.heap[g]?:=fun id g hg=>hS g (hs.new g (hs.cY id g hg).1.2)
 have hL:∀id e m g,az s.H φ id=some (e,m,some g)->a7 fy g=a7 w' g:=fun id e m g hi=>by
  obtain ⟨_,-,-,-,hg⟩:=aT hi
  unfold a7;rw [ct id g hg]
 refine ⟨hs.jS,hd.symm,?_,fun i av hi=>(hs.cC i av hi).mono (fun _ _ h=>h) hF hL,fun id r hr=>?_,hs.only,hs.inj,fun id g hg=>⟨⟨?_,?_⟩,by rw [h4];exact (hs.cY id g hg).2⟩,fun _ _ _ h=>(by cases h),l7⟩
 ·have k:=hE.kept.trans hs.cZ hE.X
  exact ⟨h1.trans k.os,h2.trans k.tape,h3.trans k.output,by rw [h4];exact k.size,fun b hb hx=>(h5 b fun hm=>by have:=(hE.marks b hm).1;omega).trans (k.block b hb hx),k.g0,k.gx⟩
 ·have aR:=hs.rows id r hr
  unfold bR at aR ⊢
  cases hg:φ id with
  | none=>rw [hg] at aR;exact aR
  | some g =>
   rw [hg] at aR
   obtain ⟨cur,te,fr,u1,u2,u3,u4,u5⟩:=aR
   refine ⟨cur,te,fr,(ct id g hg).trans u1,u2,u3,u4,fun j u x hu hx=>?_⟩
   have:=u5 j u x hu hx
   unfold bh at this ⊢
   cases hp:r.pure with
   | true=>rw [hp] at this;exact this.mono hF
   | false=>rw [hp] at this;exact this.mono (fun _ _ h=>h) hF hL
 ·exact (hs.cY id g hg).1.1.imp (fun h=>h) fun h=>by rw [←hE.fix];exact h
 ·rcases (hs.cY id g hg).1.2 with h|h
  ·exact .inl (Nat.le_trans hE.kept.size h)
  ·exact hE.X g h
theorem qK {P:Program} {f:FuncId} {fn:Func} {c:Code} {args:Array Value} {w:World} {R:Ending->World->Prop} (hf:P.funcs[f]?=some fn) (hb:fn.body=some c) {Z:bn} {n:Nat} (hd:Z.sG= []) (l7:∀b,(w.heap.size≤b∨Z.X b)->Z.S b) {Q:Exit->AS->Prop} (hQ:∀e s,Q e s->e= .normal∨e= .ret)
  (h:Cr P c (fun e a' w'=>∃s',Q e s'∧ni Z w n s' a' w') {tmps:=args++Array.replicate (fn.ntmps-args.size) undef,defers:=[]} w)
  (kk:∀e s' (a':Act) w',Q e s'->a'.defers= []->ix Z w n s' a' w'-> ∃v,(results fn a'.tmps).run P w'= .ok v w'∧R (.returned v) w'):Calls P f args w R:=by
 refine callsIn_wide.1 (callsIn_of_wp_marks (F:=Fence.wide) (n:=0) hf hb trivial ?_)
 refine wpIn_wide.2 (wp_mono (kD _ _ _ _ h) fun e a' w' ⟨s',hq,S1,w1,ms,hE,φ,hs⟩=>?_)
 have fin:LeavesInM Fence.wide 0 P fn a'.tmps R a'.defers .returning w':=by
  have NL:a'.defers=ms.map mark:=by rw [hs.jV,hE.sG,hd,List.append_nil]
  rw [NL]
  refine mJ ms w' hE.nodup (fun r hr=>?_) (fun fy h1 h2 h3 h4 h5=>kk e s' ⟨a'.tmps,[]⟩ fy hq rfl ⟨φ,ni.close hd l7 hE hs h1 h2 h3 h4 h5⟩)
  obtain ⟨-,k2,k3,-,k5⟩:=hE.marks r hr
  exact (hs.cZ.block r k2 k5).trans k3
 rcases hQ e s' hq with rfl|rfl
 ·exact fin
 ·exact fin
theorem bC.qe {P:Program} {f:FuncId} {fn:Func} {c:Code} {args:List AV} {r:AV} (hf:P.funcs[f]?=some fn) (hb:fn.body=some c) (n:Nat) (hn:fn.ntmps=n) (iE:args.length≤n) (h:bf P n c (wy P fn.results.toList r) ⟨k7 0 args,[]⟩):bC P f args r:=by
 intro w S vs j7 hS hl b_
 let Z:bn:=⟨fun b=>S b∨w.heap.size≤b,fun _=>False,fun _=>none,[]⟩
 have MA:aO Z w n [] ⟨k7 0 args,[]⟩ {tmps:=vs.toArray++Array.replicate (fn.ntmps-vs.toArray.size) undef,defers:=[]} w (fun _=>none):=by
  refine ⟨by simp;omega,rfl,⟨rfl,rfl,rfl,Nat.le_refl _,fun _ _ _=>rfl,j7,fun _ _ h=>h⟩,fun i av hi=>?_,fun id r hr=>(by cases hr),fun _ _=>rfl,fun _ _ _ h=>(by cases h),fun _ _ h=>(by cases h),fun _ _ h=>(by cases h),fun b hb=>Or.inr (hb.elim id fun h=>h.elim)⟩
  obtain ⟨k,rfl,hk⟩:=mG args 0 i av hi
  have iH:k<vs.length:=by have:=(List.getElem?_eq_some_iff.1 hk).1;omega
  have hv:vs[k]?=some vs[k]:=List.getElem?_eq_getElem iH
  have e:(vs.toArray++Array.replicate (fn.ntmps-vs.toArray.size) undef).getD (0+k) undef=vs[k]:=by
   rw [Nat.zero_add,Array.getD_eq_getD_getElem?,Array.getElem?_append_left (by simpa using iH)]
   simp [iH]
  simp only [e]
  exact .rep ((b_ k vs[k] av hv hk).mono fun b hb=>⟨⟨hS b hb,by simp,fun _ h=>(by cases h),Or.inl hb⟩,rfl⟩)
 refine qK hf hb (Z:=Z) rfl (fun b hb=>Or.inr (hb.elim id fun h=>h.elim)) (Q:=wy P fn.results.toList r) (fun e s hq=>by cases e<;>first|exact .inl rfl|exact .inr rfl|exact hq.elim) (h Z w _ w ⟨_,MA⟩) fun e s' a' w' hq hd ⟨φ,b7⟩=>?_
 have hq:∃C,nU P s' fn.results.toList r=some C∧bz C:=by cases e<;>first|exact hq|exact hq.elim
 obtain ⟨C,he,hC⟩:=hq
 obtain ⟨v,O,cw,ir,hO,hg⟩:=Js b7 he hC
 refine ⟨v,cw,v,O,rfl,b7.cZ.below (fun _ h=>h),ir,fun g hg=>?_,hg.mono fun b hb=>?_⟩
 ·obtain ⟨i,hi⟩:=hO g hg
  exact ⟨(b7.cY i g hi).1.2.elim id fun h=>h.elim,(b7.cY i g hi).2⟩
 ·rcases hb.2.2.2 with h1|h1
  ·exact .inl h1
  ·exact .inr ⟨h1,hb.1,fun hm=>by obtain ⟨i,hi⟩:=hO b hm;exact hb.2.2.1 i hi⟩
def du (fn:Func):Code:=match fn.body with|some c=>c|none=>.skip
theorem bC.H8 {P:Program} {f:FuncId} {fn:Func} {args:List AV} {r:AV} (hf:P.funcs[f]?=some fn) (hb:fn.body.isSome=true) (n:Nat) (hn:fn.ntmps=n) (iE:Nat.ble args.length n=true) (h:bf P n (du fn) (wy P fn.results.toList r) ⟨k7 0 args,[]⟩):bC P f args r:=by
 cases u6:fn.body with
 | none=>rw [u6] at hb;cases hb
 | some c =>
  have:du fn=c:=by unfold du;rw [u6]
  rw [this] at h
  exact bC.qe hf u6 n hn (Nat.le_of_ble_eq_true iE) h
theorem bf.jJ {P:Program} {n:Nat} {c:Code} {Q:Exit->AS->Prop} {s s':AS} {C:List Prop} (k:Nat) (l:List pP) (hk:Nat.beq l.length k=true) (he:kT P n l c s=some (s',C)) (hC:bz C) (h:bf P n (qD k c) Q s'):bf P n c Q s:=by
 rw [←Nat.eq_of_beq_eq_true hk] at h
 exact bf.Pn l he hC h
theorem wy.KQ {P:Program} {rs:List ResultVar} {r:AV} {s:AS} {C:List Prop} (he:nU P s rs r=some C) (hC:bz C):wy P rs r .ret s:=⟨C,he,hC⟩
section
variable {P:Program} {n:Nat} {c:Code} {Q:Exit->AS->Prop} {K:AS->Prop} {s s1 s2:AS}
theorem bf.JX {x:Operand} {b:Bool} (hc:ll c=some x) (hx:bp s x= .val (.bool b)) (hb:b=true) (h:bf P n (oP c) Q s):bf P n c Q s:=bf.cond hc hx (fun _=>h) (fun e=>by rw [hb] at e;cases e)
theorem bf.JY {x:Operand} {b:Bool} (hc:ll c=some x) (hx:bp s x= .val (.bool b)) (hb:b=false) (h:bf P n (oZ c) Q s):bf P n c Q s:=bf.cond hc hx (fun e=>by rw [hb] at e;cases e) (fun _=>h)
theorem bf.QH {x:Operand} {p:Prop} [Decidable p] (hc:ll c=some x) (hx:bp s x= .val (.bool (decide p))) (ht:p->bf P n (oP c) Q s) (hf:¬p->bf P n (oZ c) Q s):bf P n c Q s:=bf.cond hc hx (fun e=>ht (of_decide_eq_true e)) (fun e=>hf (of_decide_eq_false e))
theorem bf.JZ {α:Type} [BEq α] [LawfulBEq α] {x:Operand} {u v:α} (hc:ll c=some x) (hx:bp s x= .val (.bool (u == v))) (ht:u=v->bf P n (oP c) Q s) (hf:u≠v->bf P n (oZ c) Q s):bf P n c Q s:=bf.cond hc hx (fun e=>ht (eq_of_beq e)) (fun e=>hf (by simpa using e))
theorem bf.QG {α:Type} [BEq α] [LawfulBEq α] {x:Operand} {u v:α} (hc:ll c=some x) (hx:bp s x= .val (.bool (u != v))) (ht:u≠v->bf P n (oP c) Q s) (hf:u=v->bf P n (oZ c) Q s):bf P n c Q s:=bf.cond hc hx (fun e=>ht (by simpa using e)) (fun e=>hf (by simpa using e))
theorem bf.join (J:AS) (hc:Bf c=true) (h1:bf P n (iu c) (r6 (fun s'=>bU s' J) Q) s) (h2:bf P n (dI c) Q J):bf P n c Q s:=by
 refine bf.seq hc (h1.mono fun e s' hq=>?_)
 cases e with
 | normal=>exact bf.o7 hq h2
 | _=>exact hq
theorem bf.nJ {ι:Type} (J:ι->AS) (Inv:ι->Prop) (hc:Bf c=true) (h1:bf P n (iu c) (r6 (fun s'=>∃x,Inv x∧bU s' (J x)) Q) s) (h2:∀x,Inv x->bf P n (dI c) Q (J x)):bf P n c Q s :=
 bf.seq hc (bf.mono h1 fun e s' h=>by
  cases e with
  | normal=>obtain ⟨x,hx,hw⟩:=h;exact bf.o7 hw (h2 x hx)
  | exit _=>exact h
  | ret=>exact h
  | _=>exact h)
theorem ak (h:K s):r6 K Q .normal s:=h
theorem aS {id:Nat} (h:Q (.exit id) s):r6 K Q (.exit id) s:=h
theorem aN (h:Q .ret s):r6 K Q .ret s:=h
theorem aM {id:Nat} (h:Q .normal s):OB id Q .normal s:=h
theorem bc {id:Nat} (h:Q .ret s):OB id Q .ret s:=h
theorem bg {id:Nat} (h:Q .normal s):OB id Q (.exit id) s:=by show (if _ then _ else _);rw [if_pos rfl];exact h
theorem IB {id i:Nat} (hi:Nat.beq i id=false) (h:Q (.exit i) s):OB id Q (.exit i) s:=by show (if _ then _ else _);rw [if_neg (Nat.ne_of_beq_eq_false hi)];exact h
theorem bU.of (l:List Wk) (he:wk l s=some s1) (e:s1=s2):bU s s2:=e ▸ wB l he
theorem aH {ι:Type} {I:ι->AS} {Inv:ι->Prop} {m:ι->Nat} {x:ι} (y:ι) (h1:Inv y) (h2:m y<m x) (h3:bU s (I y)):Round I Inv m Q x .normal s:=⟨y,h1,h2,h3⟩
theorem aK {ι:Type} {I:ι->AS} {Inv:ι->Prop} {m:ι->Nat} {x:ι} {id:Nat} (h:Q (.exit id) s):Round I Inv m Q x (.exit id) s:=h
theorem df {ι:Type} {I:ι->AS} {Inv:ι->Prop} {m:ι->Nat} {x:ι} (h:Q .ret s):Round I Inv m Q x .ret s:=h
end
def u64 (n:Int):UInt64:=UInt64.ofInt n
def u8 (n:Int):UInt8:=UInt8.ofInt n
theorem Ac (n:Int):IntKind.u64.wrap n=wv (u64 n):=by
 unfold wv u64;rw [IntKind.wrap_u64]
 simp [UInt64.ofInt]
 omega
theorem J4 (n:Int):IntKind.u8.wrap n=bv (u8 n):=by
 unfold bv u8;rw [IntKind.wrap_u8]
 simp [UInt8.ofInt]
 omega
abbrev aw (x:UInt64):AV:=.val (.int .u64 (wv x))
abbrev ab (x:UInt8):AV:=.val (.int .u8 (bv x))
abbrev ai (n:Int):AV:=.val (.int .i64 n)
abbrev ao (b:Bool):AV:=.val (.bool b)
abbrev cQ (s:List UInt8):AV:=.val (.string ⟨s.toArray⟩)
theorem dE {n:Int} (h1: -9223372036854775808≤n) (h2:n≤9223372036854775807):AV.val (.int .i64 (IntKind.i64.wrap n))= .val (.int .i64 n):=by
 rw [show IntKind.i64.wrap n=n by rw [IntKind.wrap_i64];omega]
theorem G2 (c:UInt8):AV.val (.int .i64 (IntKind.i64.wrap (bv c)))= .val (.int .i64 (bv c)):=dE (by have:=QL c;omega) (by have:=QM c;omega)
theorem ba (n:Int):AV.val (.int .u64 (IntKind.u64.wrap n))=aw (u64 n):=by rw [Ac]
theorem i3 (n:Int):AV.val (.int .u8 (IntKind.u8.wrap n))=ab (u8 n):=by rw [J4]
theorem Eb (c:UInt8):AV.val (.int .u64 (IntKind.u64.wrap (bv c)))=aw c.toUInt64:=by
 rw [QJ,show IntKind.u64.wrap (wv c.toUInt64)=wv c.toUInt64 by have:=Pf c.toUInt64;have:=L_ c.toUInt64;rw [IntKind.wrap_u64];omega]
theorem iZ (x y:UInt64):AV.val (.int .u64 (IntKind.u64.wrap ((BitVec.ofInt IntKind.u64.bits (wv x)&&&BitVec.ofInt IntKind.u64.bits (wv y)).toNat:Nat)))=aw (x&&&y):=congrArg (fun n=>AV.val (.int .u64 n)) (MO x y)
theorem pL (x y:UInt64):AV.val (.int .u64 (IntKind.u64.wrap ((BitVec.ofInt IntKind.u64.bits (wv x)|||BitVec.ofInt IntKind.u64.bits (wv y)).toNat:Nat)))=aw (x|||y):=congrArg (fun n=>AV.val (.int .u64 n)) (Pc x y)
theorem cM (x y:UInt64):AV.val (.int .u64 (IntKind.u64.wrap ((BitVec.ofInt IntKind.u64.bits (wv x)^^^BitVec.ofInt IntKind.u64.bits (wv y)).toNat:Nat)))=aw (x^^^y):=congrArg (fun n=>AV.val (.int .u64 n)) (MI x y)
theorem L6 (x y:UInt8):AV.val (.int .u8 (IntKind.u8.wrap ((BitVec.ofInt IntKind.u8.bits (bv x)&&&BitVec.ofInt IntKind.u8.bits (bv y)).toNat:Nat)))=ab (x&&&y):=congrArg (fun n=>AV.val (.int .u8 n)) (bv_and x y)
theorem Fp (x y:UInt8):AV.val (.int .u8 (IntKind.u8.wrap ((BitVec.ofInt IntKind.u8.bits (bv x)^^^BitVec.ofInt IntKind.u8.bits (bv y)).toNat:Nat)))=ab (x^^^y):=congrArg (fun n=>AV.val (.int .u8 n)) (Oo x y)
theorem fq (x:UInt64) (n:Int) (h0:0≤n) (h1:n<64):AV.val (.int .u64 ((wv x).fdiv (2^min n.toNat IntKind.u64.bits)))=aw (x>>>UInt64.ofNat n.toNat):=by
 rw [show min n.toNat IntKind.u64.bits=n.toNat from Nat.min_eq_left (by show n.toNat≤64;omega),Int.fdiv_eq_ediv_of_nonneg _ (Int.pow_nonneg (by decide)),MJ x n.toNat ah]
theorem jD (x:UInt64) (n:Int) (h0:0≤n) (h1:n<64):AV.val (.int .u64 (IntKind.u64.wrap (wv x*2^min n.toNat IntKind.u64.bits)))=aw (x<<<UInt64.ofNat n.toNat):=by
 rw [show min n.toNat IntKind.u64.bits=n.toNat from Nat.min_eq_left (by show n.toNat≤64;omega),MK x n.toNat ah]
theorem Oq (x:UInt8) (k:Nat) (hk:k<8):bv x/2^k=bv (x>>>UInt8.ofNat k):=by
 unfold bv
 rw [UInt8.toNat_shiftRight,UInt8.toNat_ofNat_of_lt' (by show k<2^8;omega),Nat.mod_eq_of_lt hk,Nat.shiftRight_eq_div_pow]
 simp [Int.natCast_ediv,Int.natCast_pow]
theorem Ot (x:UInt8) (k:Nat) (hk:k<8):IntKind.u8.wrap (bv x*2^k)=bv (x<<<UInt8.ofNat k):=by
 unfold bv
 rw [IntKind.wrap_u8,UInt8.toNat_shiftLeft,UInt8.toNat_ofNat_of_lt' (by show k<2^8;omega),Nat.mod_eq_of_lt hk,Nat.shiftLeft_eq]
 simp [Int.natCast_emod,Int.natCast_mul,Int.natCast_pow]
theorem L4 (x:UInt8) (n:Int) (h0:0≤n) (h1:n<8):AV.val (.int .u8 ((bv x).fdiv (2^min n.toNat IntKind.u8.bits)))=ab (x>>>UInt8.ofNat n.toNat):=by
 rw [show min n.toNat IntKind.u8.bits=n.toNat from Nat.min_eq_left (by show n.toNat≤8;omega),Int.fdiv_eq_ediv_of_nonneg _ (Int.pow_nonneg (by decide)),Oq x n.toNat ah]
theorem L5 (x:UInt8) (n:Int) (h0:0≤n) (h1:n<8):AV.val (.int .u8 (IntKind.u8.wrap (bv x*2^min n.toNat IntKind.u8.bits)))=ab (x<<<UInt8.ofNat n.toNat):=by
 rw [show min n.toNat IntKind.u8.bits=n.toNat from Nat.min_eq_left (by show n.toNat≤8;omega),Ot x n.toNat ah]
theorem fw (x y:UInt64):AV.val (.bool (wv x == wv y))=ao (x == y):=by rw [Hj]
theorem cJ (x y:UInt64):AV.val (.bool (wv x != wv y))=ao (x != y):=by rw [MN]
theorem Ox (x y:UInt8):AV.val (.bool (bv x == bv y))=ao (x == y):=by rw [bv_beq]
theorem zC {a b:Int} (h:0≤a) (h1:a≤9223372036854775807) (hb:1≤b):AV.val (.int .i64 (IntKind.i64.wrap (a.tdiv b)))=ai (a/b):=by
 rw [Int.tdiv_eq_ediv_of_nonneg h]
 exact dE (by have:=Int.ediv_nonneg h (by omega:0≤b);omega) (by have:=Int.ediv_le_self b h;omega)
theorem eU (a b:List UInt8):AV.val (.bool ((⟨a.toArray⟩:ByteArray).toList == (⟨b.toArray⟩:ByteArray).toList))=ao (a == b):=by simp
theorem tV (a b:List UInt8):AV.val (.bool (!((⟨a.toArray⟩:ByteArray).toList == (⟨b.toArray⟩:ByteArray).toList)))=ao (a != b):=by
 have:=eU a b
 injection this with this;injection this with this
 rw [this];rfl
theorem oB {l:List UInt8} {k:Nat} (h:k<l.length):(ag l)[k]?=some (ab (l.getD k 0)):=by simp [ag,h]
theorem dK {l:List UInt64} {k:Nat} (h:k<l.length):(aj l)[k]?=some (aw (l.getD k 0)):=by simp [aj,h]
theorem l5 {l:List Int} {k:Nat} (h:k<l.length):(au l)[k]?=some (ai (l.getD k 0)):=by simp [au,h]
theorem da (a b:List UInt8):ag a++ag b=ag (a++b):=by simp [ag]
theorem je (a b:List UInt64):aj a++aj b=aj (a++b):=by simp [aj]
theorem Gb (a b:List Int):au a++au b=au (a++b):=by simp [au]
theorem kz (a:List UInt64) (k:Nat) (c:UInt64):(aj a).set k (aw c)=aj (a.set k c):=by simp [aj,List.map_set]
theorem Ga (a:List Int) (k:Nat) (c:Int):(au a).set k (ai c)=au (a.set k c):=by simp [au,List.map_set]
theorem sK (a:List UInt8) (k:Nat):(ag a).take k=ag (a.take k):=by simp [ag,List.map_take]
theorem sL (a:List UInt8) (k:Nat):(ag a).drop k=ag (a.drop k):=by simp [ag,List.map_drop]
theorem tM (n:Nat):List.replicate n (AV.val (.int .u64 0))=aj (List.replicate n 0):=by simp [aj,wv]
theorem rW {n:Int} (h1:0≤n) (h2:n<18446744073709551616):AV.val (.int .u64 (IntKind.u64.wrap n))= .val (.int .u64 n):=by
 rw [show IntKind.u64.wrap n=n by rw [IntKind.wrap_u64];omega]
def ae {T:Type} (f:T->List AV) (l:List T):List AV:=l.flatMap f
section
variable {T:Type} {f:T->List AV} {e:Nat}
theorem jn (x:T) (l:List T):ae f (x::l)=f x++ae f l:=rfl
theorem fG (a b:List T):ae f a++ae f b=ae f (a++b):=by simp [ae]
theorem JL (x:T):ae f [x]=f x:=by simp [ae]
theorem aE (he:∀x,(f x).length=e) (l:List T):(ae f l).length=l.length*e:=by
 induction l with
 | nil=>simp [ae]
 | cons x l ih=>rw [jn,List.length_append,ih,he,List.length_cons,Nat.succ_mul];omega
theorem mc (he:∀x,(f x).length=e) (l:List T) (k:Nat):(ae f l).drop (k*e)=ae f (l.drop k):=by
 induction k generalizing l with
 | zero=>simp
 | succ k ih =>
  cases l with
  | nil=>simp [ae]
  | cons x l =>
   rw [jn,List.drop_succ_cons,←ih l,Nat.succ_mul,Nat.add_comm,←List.drop_drop,List.drop_append_of_le_length (by rw [he];omega),show List.drop e (f x)= [] from List.drop_eq_nil_of_le (by rw [he];omega),List.nil_append]
theorem oy (he:∀x,(f x).length=e) (l:List T) (k:Nat):(ae f l).take (k*e)=ae f (l.take k):=by
 induction k generalizing l with
 | zero=>simp [ae]
 | succ k ih =>
  cases l with
  | nil=>simp [ae]
  | cons x l =>
   rw [jn,List.take_succ_cons,jn,←ih l,Nat.succ_mul,Nat.add_comm,List.take_append,he,show e+k*e-e=k*e by omega,List.take_of_length_le (by rw [he];omega)]
theorem jm [Inhabited T] (he:∀x,(f x).length=e) {l:List T} {k:Nat} (hk:k<l.length):((ae f l).drop (k*e)).take e=f (l.getD k default):=by
 rw [mc he,List.drop_eq_getElem_cons hk,jn,List.take_append_of_le_length (by rw [he];omega),List.take_of_length_le (by rw [he];omega)]
 simp [hk]
theorem mS [Inhabited T] (he:∀x,(f x).length=e) {l:List T} {k j:Nat} {c:AV} (hk:k<l.length) (hj:(f (l.getD k default))[j]?=some c):(ae f l)[k*e+j]?=some c:=by
 have h1:j<e:=by
  have:=(List.getElem?_eq_some_iff.1 hj).1
  rw [he] at this;exact this
 rw [←jm he hk,List.getElem?_take_of_lt h1,List.getElem?_drop] at hj
 exact hj
theorem JK [Inhabited T] (he:∀x,(f x).length=e) {l:List T} {k j z:Nat} {cs:List AV} (hk:k<l.length) (hz:j+z≤e) (hj:((f (l.getD k default)).drop j).take z=cs):((ae f l).drop (k*e+j)).take z=cs:=by
 rw [←hj,←jm he hk,List.drop_take,List.take_take,Nat.min_eq_left ah,List.drop_drop]
theorem dD (hf:∀x,cE (f x)) (l:List T):cE (ae f l):=by
 intro x hx
 simp only [ae,List.mem_flatMap] at hx
 obtain ⟨y,_,h⟩:=hx
 exact hf y x h
end
theorem bC.len {P:Program} {f:FuncId} {args:List AV} {r:AV} (i:Nat) {e:Nat} {row:List AV} (hi:args[i]?=some (.sl e row)) (h:row.length≤e*9223372036854775807->bC P f args r):bC P f args r:=by
 intro w S vs j7 hS hl hr
 have dk:i<vs.length:=by rw [hl];exact (List.getElem?_eq_some_iff.1 hi).1
 have b_:=hr i vs[i] _ (List.getElem?_eq_getElem dk) hi
 refine h ?_ w S vs j7 hS hl hr
 generalize vs[i]=v at b_
 cases b_ with
 | sl A n c e us row hl hn hc hm ha h =>
  rw [hn]
  refine Nat.mul_le_mul_left e ?_
  simp only [maxLen] at hm
  omega
theorem uo {α:Type} (g:Nat->α) (j:Nat):(List.range j).map g++ [g j]=(List.range (j+1)).map g:=by rw [List.range_succ,List.map_append];rfl
theorem fh {T:Type} {f:T->List AV} (l:List T) (x:T):ae f l++f x=ae f (l++ [x]):=by rw [←fG,JL]
theorem GK {T:Type} {f:T->List AV} (g:Nat->T) (j:Nat):ae f ((List.range j).map g)++f (g j)=ae f ((List.range (j+1)).map g):=by rw [fh,uo]
end Go.Proofs.YtjgbhhnghedgdaaGreatDoor
namespace Go.Proofs.YtjgbhhnghedgdaaGreatDoor
open Go.RowKit Go.ChangeShapes Go.WideShapes Go.ChangeAt
def n_ (P:Program) (t:TypeId) {T:Type} (f:T->List AV) (ok:T->Prop):Prop :=
 ∀(H:Type) (enc:TypeId×Value->H) (w:World) (fuel:Nat) (cs:List Value) (x:DataW H×List MemPlace),DataW.trod enc P w 0 (fun _=>true) true fuel t cs=some x ->
  ∃a,ok a∧(f a).length=cs.length∧ ∀(j:Nat) u y,cs[j]?=some u->(f a)[j]?=some y->cB (fun b=>b<w.heap.size) w u y
def QR (P:Program) (t:TypeId) {T:Type} (g:T->AV) (ok:T->Prop):Prop :=
 ∀(H:Type) (enc:TypeId×Value->H) (w:World) (base:Nat) (v:Value) (d:DataW H) (ps:List MemPlace),Value.okWide P w .any base t v->DataW.Trod enc P w 0 (fun _=>true) true t v d ps ->
  ∃a,ok a∧cB (fun b=>b<w.heap.size) w v (g a)
section
variable {P:Program} {t:TypeId} {T T':Type} {f:T->List AV} {ok:T->Prop}
theorem n_.map (h:n_ P t f ok) (g:T->T') {f':T'->List AV} {TE:T'->Prop} (hf:∀a,ok a->f' (g a)=f a) (ho:∀a,ok a->TE (g a)):n_ P t f' TE:=by
 intro H enc w fuel cs x hx
 obtain ⟨a,h1,h2,h3⟩:=h H enc w fuel cs x hx
 exact ⟨g a,ho a h1,by rw [hf a h1];exact h2,by rw [hf a h1];exact h3⟩
theorem mw {S:Nat->Prop} {w:World} {v:Value} {x:AV} (h:cB S w v x) (j:Nat) (u:Value) (y:AV) (hu:[v][j]?=some u) (hy:[x][j]?=some y):cB S w u y:=by
 cases j with
 | zero=>simp at hu hy;subst hu hy;exact h
 | succ j=>simp at hu
theorem FT (ht:P.underlying t=some (.int .u8)):n_ P t (fun c:UInt8=>[ab c]) (fun _=>True):=by
 intro H enc w fuel cs x hx
 obtain ⟨n,rfl,_,hw⟩:=DataW.trod_int ht hx
 obtain ⟨c,rfl⟩:=LY n hw
 exact ⟨c,trivial,rfl,mw (.val _)⟩
abbrev Bi (n:Int):Prop:= -9223372036854775808≤n∧n≤9223372036854775807
theorem HY (ht:P.underlying t=some (.int .i64)):n_ P t (fun c:Int=>[ai c]) Bi:=by
 intro H enc w fuel cs x hx
 obtain ⟨n,rfl,_,hw⟩:=DataW.trod_int ht hx
 refine ⟨n,?_,rfl,mw (.val _)⟩
 simpa [Lit.wf,IntKind.min,IntKind.max,IntKind.signed,IntKind.bits] using hw
theorem Ii {α β:Type} {g:α->Option β}:∀ {l:List α} {m:List β},l.mapM g=some m->m.length=l.length∧ ∀(i:Nat) (a:α),l[i]?=some a->g a=m[i]?:=by
 intro l
 induction l with
 | nil=>intro m h;simp at h;subst h;simp
 | cons a l ih =>
  intro m h
  simp only [List.mapM_cons,Option.bind_eq_bind,Option.bind_eq_some_iff,Option.pure_def,Option.some.injEq] at h
  obtain ⟨b,hb,m',hm,rfl⟩:=h
  obtain ⟨h1,h2⟩:=ih hm
  refine ⟨by simp [h1],fun i x hx=>?_⟩
  cases i with
  | zero=>simp at hx;subst hx;simpa using hb
  | succ i=>simpa using h2 i x (by simpa using hx)
theorem J3 {w:World} {ad:Addr} {n:Nat} {cs:List Value} (h:w.cells? 0 ad n=some cs):cs.length=n∧ ∀j,j<n->w.cell? (ad.add j)=cs[j]?:=by
 simp only [World.cells?,Nat.zero_le,if_true] at h
 obtain ⟨h1,h2⟩:=Ii h
 exact ⟨by simpa using h1,fun j hj=>h2 j j (by simp [hj])⟩
theorem DQ {H:Type} {enc:TypeId×Value->H} {w:World} {fuel e:Nat} (hC:n_ P t f ok) (ad:Addr):∀(n:Nat) (elems:List (DataW H×List MemPlace)),n≤elems.length ->
  (∀i,i<n->(w.cells? 0 (ad.add (i*e)) e).bind (DataW.trod enc P w 0 (fun _=>true) true fuel t)=elems[i]?) ->
  ∃(l:List T) (us:List Value),l.length=n∧(∀a∈l,ok a)∧us.length=n*e∧(ae f l).length=n*e∧(∀(j:Nat) u,us[j]?=some u->w.cell? (ad.add j)=some u)∧ ∀(j:Nat) u y,us[j]?=some u->(ae f l)[j]?=some y->cB (fun b=>b<w.heap.size) w u y:=by
 intro n
 induction n with
 | zero=>intro elems _ _;exact ⟨[],[],rfl,by simp,by simp,by simp [ae],by simp,by simp⟩
 | succ n ih =>
  intro elems hn NF
  obtain ⟨l,us,h1,h2,h3,h4,h5,h6⟩:=ih elems ah (fun i hi=>NF i ah)
  have hx:=NF n ah
  rw [List.getElem?_eq_getElem ah] at hx
  rw [Option.bind_eq_some_iff] at hx
  obtain ⟨cs,xi,UX⟩:=hx
  obtain ⟨gF,VB⟩:=J3 xi
  obtain ⟨a,ha,tp,gJ⟩:=hC H enc w fuel cs _ UX
  refine ⟨l++ [a],us++cs,by simp [h1],?_,?_,?_,?_,?_⟩
  ·intro b hb
   rcases List.mem_append.1 hb with hb|hb
   ·exact h2 b hb
   ·simp at hb;subst hb;exact ha
  ·rw [List.length_append,h3,gF,Nat.add_mul];omega
  ·rw [←fh,List.length_append,h4,tp,gF,Nat.add_mul];omega
  ·intro j u hu
   by_cases hj:j<us.length
   ·rw [List.getElem?_append_left hj] at hu;exact h5 j u hu
   ·rw [List.getElem?_append_right ah] at hu
    have dk:j-us.length<e:=by
     have:=(List.getElem?_eq_some_iff.1 hu).1;omega
    have:=VB (j-us.length) dk
    rw [hu,Addr.add_add] at this
    rw [←this];congr 2;omega
  ·intro j u y hu hy
   rw [←fh] at hy
   by_cases hj:j<us.length
   ·rw [List.getElem?_append_left hj] at hu
    rw [List.getElem?_append_left ah] at hy
    exact h6 j u y hu hy
   ·rw [List.getElem?_append_right ah] at hu
    rw [List.getElem?_append_right ah,h4,←h3] at hy
    exact gJ _ u y hu hy
theorem CJ {te:TypeId} {e:Nat} (ht:P.underlying t=some (.slice te)) (he:P.cellsOf te=e) (hC:n_ P te f ok):n_ P t (fun l:List T=>[.sl e (ae f l)]) (fun l=>∀a∈l,ok a):=by
 intro H enc w fuel cs x hx
 rcases DataW.trod_slice ht hx with ⟨rfl,_⟩|⟨a,len,cap,elems,rest,n,_,rfl,OK,_,Gh,tq,NF,gh,_,_⟩
 ·exact ⟨[],by simp,rfl,mw (iN none 0 0 e (by simp) (Nat.le_refl _) (by simp))⟩
 ·rw [he] at gh
  obtain ⟨l,us,h1,h2,h3,h4,h5,h6⟩:=DQ hC a len elems ah gh
  refine ⟨l,h2,rfl,mw (.sl _ _ _ _ us _ (h3.trans h4.symm) (by rw [h4,Nat.mul_comm]) Gh tq (fun h0=>⟨a,rfl,?_,h5⟩) h6)⟩
  have hu:0<us.length:=ah
  have:=h5 0 us[0] (List.getElem?_eq_getElem hu)
  have hb:w.heap[(a.add 0).block]?≠none:=by
   intro hn
   rw [World.cell?,hn] at this
   cases this
  rw [gM] at hb
  exact Nat.lt_of_not_le fun hle=>hb (Array.getElem?_eq_none hle)
def Pu (P:Program) (t:TypeId):Bool:=match P.underlying t with|some (.int _)|some .string|some .bool|some (.slice _)=>true|_=>false
theorem n_.one {g:T->AV} (h:n_ P t (fun a=>[g a]) ok) (ht:Pu P t=true):QR P t g ok:=by
 intro H enc w base v d ps hv hd
 obtain ⟨fuel,hd⟩:=hd
 have hc:v.cells= #[v]:=by
  simp only [Pu] at ht
  split at ht
  ·rename_i hu;obtain ⟨n,rfl⟩:=okWide_int hu hv;rfl
  ·rename_i hu
   simp only [Value.okWide,hu,Cell.okWide] at hv
   cases v<;>simp_all [Cell.ok]
   rfl
  ·rename_i hu
   simp only [Value.okWide,hu,Cell.okWide] at hv
   cases v<;>simp_all [Cell.ok]
   rfl
  ·rename_i hu;obtain ⟨_,_,_,rfl⟩:=okWide_slice hu hv;rfl
  ·cases ht
 rw [hc] at hd
 obtain ⟨a,h1,h2,h3⟩:=h H enc w fuel _ _ hd
 exact ⟨a,h1,h3 0 _ _ rfl rfl⟩
theorem GN (l:List Int):ae (fun c:Int=>[ai c]) l=au l:=by
 induction l with
 | nil=>rfl
 | cons c l ih=>rw [jn,ih];rfl
theorem q_ {te:TypeId} (ht:P.underlying t=some (.slice te)) (he:P.underlying te=some (.int .i64)) (hc:P.cellsOf te=1):n_ P t (fun l:List Int=>[.sl 1 (au l)]) (fun l=>∀n∈l,Bi n) :=
 (CJ ht hc (HY he)).map id (fun l _=>by rw [GN];rfl) (fun _ h=>h)
end
theorem bC.law {P:Program} {f:FuncId} {args:List AV} (h:bC P f args (ao true)) (w:World) (j7:Good w) (vs:List Value) (hl:vs.length=args.length) (hr:∀(j:Nat) v x,vs[j]?=some v->args[j]?=some x->cB (fun b=>b<w.heap.size) w v x) :
  Calls P f vs.toArray w fun e w'=>e= .returned (.bool true)∧Below w.heap.size w w':=by
 refine (h w (fun b=>b<w.heap.size) vs j7 (fun _ h=>h) hl hr).mono fun e w' ⟨v,O,he,hb,_,_,hg⟩=>⟨?_,hb⟩
 subst he
 rcases hg with hg|⟨_,_,_,hx,_⟩
 ·rcases hg with hg|⟨_,_,_,hx,_⟩
  ·cases hg with
   | rep b_=>cases b_;rfl
  ·cases hx
 ·cases hx
theorem KS (S:Nat->Prop) (w:World) (j:Nat) (v:Value) (x:AV) (h:([]:List Value)[j]?=some v) (_:([]:List AV)[j]?=some x):cB S w v x:=by simp at h
theorem p7 {S:Nat->Prop} {w:World} {v:Value} {x:AV} {vs:List Value} {xs:List AV} (h:cB S w v x) (h2:∀(j:Nat) v x,vs[j]?=some v->xs[j]?=some x->cB S w v x) (j:Nat) (u:Value) (y:AV) (hu:(v::vs)[j]?=some u) (hy:(x::xs)[j]?=some y):cB S w u y:=by
 cases j with
 | zero=>simp at hu hy;subst hu hy;exact h
 | succ j=>exact h2 j u y (by simpa using hu) (by simpa using hy)
theorem Below.Hu {H:Type} {enc:TypeId×Value->H} {P:Program} (hl:laidOutB P=true) {W W':World} (hb:Below W.heap.size W W'):∀(ts:List TypeId) (vs:List Value) (ds:List (DataW H)) (ps:List MemPlace),(ts.all fun t=>P.readableRec t && decide (t<P.types.size))=true ->
  DataW.TrodAll enc P W 0 (fun _=>true) true ts vs ds ps->DataW.TrodAll enc P W' 0 (fun b=>decide (b<W.heap.size)) true ts vs ds ps:=by
 intro ts
 induction ts with
 | nil=>intro vs ds ps _ h;cases vs<;>cases ds<;>simp_all [DataW.TrodAll]
 | cons t ts ih =>
  intro vs ds ps hr h
  rw [List.all_cons,Bool.and_eq_true,Bool.and_eq_true] at hr
  obtain ⟨v,Wo,d,WV,p,q,rfl,rfl,rfl,h1,h2⟩:=trodAll_cons h
  have lt:∀x∈p,x.block<W.heap.size:=by obtain ⟨m,hm⟩:=h1;exact DataW.trod_lt m _ _ _ hm
  exact ⟨p,q,Below.trod hl hr.1.1 (of_decide_eq_true hr.1.2) h1 hb lt,ih _ _ _ hr.2 h2,rfl⟩
end Go.Proofs.YtjgbhhnghedgdaaGreatDoor
