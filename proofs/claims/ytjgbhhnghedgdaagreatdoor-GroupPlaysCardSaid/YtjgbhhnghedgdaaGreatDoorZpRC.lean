import Derived.Test.YtjgbhhnghedgdaaGreatDoorZpRL
import Derived.Orders
import Derived.Tactics
import Derived.WalkKit
import Derived.ProofKit
import Derived.OpenShut
import Derived.ShutString
import Derived.ChangeOld
import Derived.Below
import Derived.RangeFuncRecord
set_option linter.all false
namespace Go.Proofs.YtjgbhhnghedgdaaGreatDoor
open Go.RowKit
def Cz (P:Program) (n:Nat) (s:AS) (d:Option Nat) (src dst id:Nat):Option (AS×List Prop) :=
 match look s.H id,P.underlying src with
 | some ⟨e,true,_,cells⟩,some (.slice el)=>(match P.underlying el,Nat.beq src dst with
  | some (.int .u8),true=>(match gg n (cm id s) d (.sl e cells) with|some s'=>some (s',[0<cells.length])|none=>none)
  | _,_=>none)
 | _,_=>none
section
variable {P:Program} {n:Nat} {s:AS} {o:Oper} {h:Hint} {q:AS×List Prop}
theorem xT {w:World} {g:Nat} {cur:Array Value} {te:TypeId} {fr:Nat×Nat} (hg:w.heap[g]?=some (.cells cur te fr)) (k:Nat):(∃QC,(w.freeze ⟨g,k,none⟩ 1).heap[g]?=some (.cells cur te QC))∧(w.freeze ⟨g,k,none⟩ 1).heap.size=w.heap.size∧(∀b,b≠g->(w.freeze ⟨g,k,none⟩ 1).heap[b]?=w.heap[b]?)∧(w.freeze ⟨g,k,none⟩ 1).os=w.os∧(w.freeze ⟨g,k,none⟩ 1).tape=w.tape∧(w.freeze ⟨g,k,none⟩ 1).output=w.output:=by
 unfold World.freeze
 rw [if_neg (by decide)]
 obtain ⟨lo,hi⟩:=fr
 refine ⟨⟨if lo == hi then (k,k+1) else (min lo k,max hi (k+1)),?_⟩,by simp,fun b hb=>?_,rfl,rfl,rfl⟩
 ·simp only [Array.getElem?_modify,if_true,hg,Option.map_some]
 ·simp only [Array.getElem?_modify]
  rw [if_neg (fun e=>hb e.symm)]
theorem run_mark {w:World} {t e:TypeId} {g l c:Nat} {cur:Array Value} {te:TypeId} {fr:Nat×Nat} (ht:P.underlying t=some (.slice e)) (he:P.underlying e=some (.int .u8)) (hg:w.heap[g]?=some (.cells cur te fr)) :
  (convert t t (.slice (some ⟨g,0,none⟩) l c)).run P w= .ok (.slice (some ⟨g,0,none⟩) l c) (w.freeze ⟨g,cur.size,none⟩ 1):=by
 have Cf:w.shape? g=some (te,cur.size):=by unfold World.shape?;rw [hg]
 simp [convert,run_underlying ht,run_underlying he,markStringish,Cf]
theorem FA {src dst id:Nat} {x:Operand} (ho:o.op= .convert src dst x) (hx:bp s x= .ref id) (hr:Cz P n s o.dst src dst id=some q):lZ P n s o q.1 q.2:=by
 intro hC S0 w0 a w Q ⟨φ,hs⟩
 unfold Cz at hr
 split at hr
 ·rename_i e f cells el lu hu
  split at hr
  ·rename_i he hb
   split at hr
   ·rename_i s' dZ
    injection hr with hr;subst hr
    have Uc:=Nat.eq_of_beq_eq_true hb
    subst Uc
    have Pg:0<cells.length:=hC.1
    have dx:=hs.bp x
    rw [hx] at dx
    generalize hv:a.eval x=v at dx
    cases dx with
    | rep b7=>cases b7
    | cC _ e' hi =>
     have ns:=bq (φ:=φ) lu
     rw [hi] at ns
     simp at ns
     omega
    | ref _ e' m g l c hi hm hc F7 bZ =>
     have ns:=bq (φ:=φ) lu
     rw [hi] at ns
     simp at ns
     obtain ⟨h1,h2,h3⟩:=ns
     subst h1 h2
     have cp:φ id=some g:=h3.symm
     have aN:=hs.rows id _ lu
     unfold bN at aN
     rw [cp] at aN
     obtain ⟨cur,te,fr,hg,hf,hle,-,bu⟩:=aN
     obtain ⟨⟨QC,k1⟩,k2,k3,k4,k5,k6⟩:=xT hg cur.size
     have ct:(execOp a.eval o).run P w= .ok (.value (.slice (some ⟨g,0,none⟩) l c)) (w.freeze ⟨g,cur.size,none⟩ 1):=by
      unfold execOp;simp only [ho,hv,Sem.run_bind,run_mark hu he hg,Result.andThen_ok];rfl
     refine cR ct ⟨erase φ id,?_⟩
     have r1:=hs.js id [g] (by rw [cp])
     have r2:=r1.vP (w':=w.freeze ⟨g,cur.size,none⟩ 1) (fun g' i6=>by simp at i6;rw [i6];exact (hs.cU id g cp).1.2) k4 k5 k6 aj (fun b _ hn=>k3 b (by simpa using hn))
     have r3:=r2.uK
     refine dO r3 (.rep ?_) dZ
     have uA:aM S0 (w.freeze ⟨g,cur.size,none⟩ 1) (erase φ id) [] g:=⟨by rw [k2];exact (hs.cU id g cp).2,by simp,fun i hi=>by
      unfold erase at hi
      split at hi
      ·cases hi
      ·rename_i cT;exact cT (hs.inj i id g hi cp),hs.new g (hs.cU id g cp).1.2⟩
     refine eX (r:=⟨e',true,f,cells⟩) k1 uA cells 0 (by simpa using hle) hm hc F7 _ (fun _=>rfl) (fun j u y hu hy=>?_)
     have Tm:=bu j u y (by simpa using hu) hy
     unfold bh at Tm
     refine cA.mono (fun b hb=>?_) Tm
     have cT:b≠g:=fun e=>hb.2.2.1 id (by rw [cp,e])
     refine ⟨⟨by rw [k2];exact hb.1,by simp,fun i hi=>?_,hb.2.2.2⟩,k3 b cT⟩
     unfold erase at hi
     split at hi
     ·cases hi
     ·exact hb.2.2.1 i hi
   ·cases hr
  ·cases hr
 ·cases hr
end
def A6 (P:Program) (n:Nat) (s:AS) (o:Oper) (h:Hint):Option (AS×List Prop) :=
 match p_ P s o h with
 | some (x,C)=>(match gg n s o.dst x with|some s'=>some (s',C)|none=>none)
 | none=>none
def A7 (P:Program) (n:Nat) (s:AS) (o:Oper) (h:Hint):Option (AS×List Prop) :=
 match o.op with
 | .alloc t=>(match o.dst with|some d=>nW P n s d t h|none=>none)
 | .box t x=>(match o.dst with|some d=>IL P n s d t (bp s x)|none=>none)
 | .buildSlice t len parts=>(match o.dst with|some d=>uR P n s d t len parts.toList h|none=>none)
 | .makeSlice t l c=>(match bp s l,bp s c,o.dst with| .val (.int _ L),.val (.int _ C),some d=>CA P n s d t L C h|_,_,_=>none)
 | .convert src dst x=>(match bp s x,P.underlying dst,o.dst with
  | .val (.string b),some (.slice _),some d=>yj P n s d src dst b
  | .ref id,some (.slice _),_=>Cz P n s o.dst src dst id
  | _,_,_=>A6 P n s o h)
 | .store t x y=>(match o.dst with|none=>xX P s t x y h|some _=>none)
 | .call ⟨.builtin .append,⟨[x,y]⟩,⟨[t,xt]⟩⟩=>(match o.dst with|some d=>kL P n s d t xt (bp s x) (bp s y) h|none=>none)
 | .call ⟨.builtin .copy,⟨[x,y]⟩,⟨[t,xt]⟩⟩=>CN P n s o.dst t xt (bp s x) (bp s y) h
 | .call ⟨.builtin _,_,_⟩=>A6 P n s o h
 | .call ⟨c,xs,_⟩=>(match h.ln with| []=>(match callee s c with|some _=>rm P n s o.dst c xs.toList h|none=>yi P n s o.dst c xs.toList h)|_=>nV P n s o.dst c xs.toList h)
 | .makeFunc (.func f) ⟨[]⟩ ⟨xs⟩=>(match o.dst with|some d=>CE n s d f xs|none=>none)
 | _=>A6 P n s o h
section
variable {P:Program} {n:Nat} {s:AS} {o:Oper} {h:Hint} {q:AS×List Prop}
theorem uQ (hr:A6 P n s o h=some q):lZ P n s o q.1 q.2:=by
 unfold A6 at hr
 split at hr
 ·rename_i x C hp
  split at hr
  ·rename_i s' bZ
   cases hr
   exact Ha (kK hp) bZ
  ·cases hr
 ·cases hr
theorem nU (hr:A7 P n s o h=some q):lZ P n s o q.1 q.2:=by
 unfold A7 at hr
 split at hr
 ·rename_i ho
  split at hr
  ·rename_i hd;exact uW ho hd hr
  ·cases hr
 ·rename_i ho
  split at hr
  ·rename_i hd;exact IK ho hd hr
  ·cases hr
 ·rename_i ho
  split at hr
  ·rename_i hd;exact A8 ho hd hr
  ·cases hr
 ·rename_i ho
  split at hr
  ·rename_i hl hc hd;exact FB ho hl hc hd hr
  ·cases hr
 ·rename_i ho
  split at hr
  ·rename_i hx _ hd;exact CQ ho hx hd hr
  ·rename_i hx _;exact FA ho hx hr
  ·exact uQ hr
 ·rename_i ho
  split at hr
  ·rename_i hd;exact Cw ho hd hr
  ·cases hr
 ·rename_i ho
  split at hr
  ·rename_i hd;exact r7 ho hd hr
  ·cases hr
 ·rename_i ho;exact FG ho hr
 ·exact uQ hr
 ·rename_i ho
  split at hr
  ·split at hr
   ·exact wM ho hr
   ·exact CP ho hr
  ·exact uV ho hr
 ·rename_i ho
  split at hr
  ·rename_i hd;exact FE ho hd hr
  ·cases hr
 ·exact uQ hr
end
def Sp (P:Program) (n:Nat) (ops:List Oper) (s:AS) (o:Oper) (h:Hint):Option (AS×List Prop) :=
 match o.guard with
 | none=>A7 P n s o h
 | some (j,want)=>(match ops[j]? with
  | some p=>(match p.dst with
   | some d=>(match jN s d with
    | .val (.bool b)=>(match h.g == want with
     | true=>(match A7 P n s o h with|some (s',C)=>some (s',(b=h.g)::C)|none=>none)
     | false=>(match gg n s o.dst (.val (.tuple #[])) with|some s'=>some (s',[b=h.g])|none=>none))
    | .val (.tuple _)=>(match gg n s o.dst (.val (.tuple #[])) with|some s'=>some (s',[])|none=>none)
    | _=>none)
   | none=>none)
  | none=>none)
def gv (hs:List (Nat×Hint)) (i:Nat):Hint:=match look hs i with|some h=>h|none=>{}
def jV (P:Program) (n:Nat) (ops:List Oper) (hs:List (Nat×Hint)):List Oper->Nat->AS->Option (AS×List Prop)
 | [],_,s=>some (s,[])
 | o::l,i,s=>match Sp P n ops s o (gv hs i) with
  | some (s1,C)=>(match jV P n ops hs l (i+1) s1 with|some (s2,D)=>some (s2,C++D)|none=>none)
  | none=>none
section
variable {P:Program} {n:Nat} {ops:List Oper} {S0:bm} {w0:World} {Q:Exit->Act->World->Prop}
theorem qg {I:Info} {S:Nat->Prop} {w:World} {a:Act} {d:Nat} {b:Bool} (h:Den I S w (a.tmps.getD d undef) (.val (.bool b))):a.tmps[d]?=some (.bool b):=by
 have h':=bJ h
 cases ht:a.tmps[d]? with
 | none=>simp [ht,undef] at h'
 | some u=>simp [ht] at h';rw [h']
theorem l4 {a:Act} {j d:Nat} {p:Oper} {b:Bool} (hp:ops[j]?=some p) (hd:p.dst=some d) (ht:a.tmps[d]?=some (.bool b)):yielded ops.toArray a.tmps j=some b:=by
 unfold yielded
 simp [hp,hd,ht]
theorem l3 {a:Act} {j d:Nat} {p:Oper} {arr:Array Value} (hp:ops[j]?=some p) (hd:p.dst=some d) (ht:a.tmps.getD d undef= .tuple arr):yielded ops.toArray a.tmps j=none:=by
 unfold yielded
 simp only [List.getElem?_toArray,hp,Option.bind_some,hd]
 rw [Array.getD_eq_getD_getElem?] at ht
 cases h:a.tmps[d]? with
 | none=>rfl
 | some u=>rw [h] at ht;simp at ht;rw [ht]
theorem IJ {s:AS} {o:Oper} {h:Hint} {q:AS×List Prop} (hr:Sp P n ops s o h=some q) (hC:bx q.2) {a:Act} {w:World} (hs:iv S0 w0 n s a w) (K:Act->World->Prop) (hK:∀a' w',iv S0 w0 n q.1 a' w'->K a' w') :
  if Region.wanted o (yielded ops.toArray a.tmps) then o.wp P a w K Q∨(o.asks P a w∧LetsOut Q) else K (a.put o.dst undef) w:=by
 unfold Sp at hr
 split at hr
 ·rename_i hg
  have hw:Region.wanted o (yielded ops.toArray a.tmps)=true:=by unfold Region.wanted;rw [hg]
  rw [if_pos hw]
  exact .inl (Oper.wp_mono hK (nU hr hC S0 w0 a w Q hs))
 ·rename_i j want hg
  split at hr
  ·rename_i p hp
   split at hr
   ·rename_i d hd
    split at hr
    ·rename_i b hb
     obtain ⟨φ,bZ⟩:=hs
     have ht:=bZ.get d
     rw [hb] at ht
     have hy:=l4 (ops:=ops) hp hd (qg ht)
     split at hr
     ·rename_i jS
      split at hr
      ·rename_i s' C he
       cases hr
       obtain ⟨AF,hC⟩:=hC
       have hw:Region.wanted o (yielded ops.toArray a.tmps)=true:=by
        unfold Region.wanted;rw [hg];simp only [hy,AF]
        have:h.g=want:=by simpa using jS
        rw [this];simp
       rw [if_pos hw]
       exact .inl (Oper.wp_mono hK (nU he hC S0 w0 a w Q ⟨φ,bZ⟩))
      ·cases hr
     ·rename_i jS
      split at hr
      ·rename_i s' Ea
       cases hr
       obtain ⟨AF,-⟩:=hC
       have hw:¬Region.wanted o (yielded ops.toArray a.tmps)=true:=by
        unfold Region.wanted;rw [hg];simp only [hy,AF]
        have:¬h.g=want:=by simpa using jS
        simpa using this
       rw [if_neg hw]
       exact hK _ _ ⟨φ,dO bZ (.rep (.val _)) Ea⟩
      ·cases hr
    ·rename_i arr hb
     obtain ⟨φ,bZ⟩:=hs
     have ht:=bZ.get d
     rw [hb] at ht
     have hy:=l3 (ops:=ops) hp hd (bJ ht)
     split at hr
     ·rename_i s' Ea
      cases hr
      have hw:¬Region.wanted o (yielded ops.toArray a.tmps)=true:=by
       unfold Region.wanted;rw [hg];simp [hy]
      rw [if_neg hw]
      exact hK _ _ ⟨φ,dO bZ (.rep (.val _)) Ea⟩
     ·cases hr
    ·cases hr
   ·cases hr
  ·cases hr
theorem jJ {hs:List (Nat×Hint)}:∀(l:List Oper) (i:Nat) (s s':AS) (C:List Prop),jV P n ops hs l i s=some (s',C)->bx C-> ∀(a:Act) (w:World),iv S0 w0 n s a w->(∀a' w',iv S0 w0 n s' a' w'->Q .normal a' w')->wpList P ops.toArray Q l a w
 | [],i,s,s',C,he,hC,a,w,hs,hQ=>by cases he;exact hQ a w hs
 | o::l,i,s,s',C,he,hC,a,w,hs,hQ=>by
  simp only [jV] at he
  split at he
  ·rename_i s1 C1 h1
   split at he
   ·rename_i s2 D h2
    cases he
    obtain ⟨iH,hD⟩:=bQ.1 hC
    have:=IJ (S0:=S0) (w0:=w0) (Q:=Q) h1 iH hs (wpList P ops.toArray Q l) (fun a' w' h'=>jJ l (i+1) s1 s' D h2 hD a' w' h' hQ)
    unfold wpList
    exact this
   ·cases he
  ·cases he
end
def Is:AV->AV
 | .own e row=>.sl e row
 | .box row=>.ptr row 0
 | x=>x
def Fv:AV->AV
 | .agg cs=>.agg (cs.map Is)
 | x=>Is x
def Og:AV->AV
 | .br cs=>.br (cs.map Fv)
 | x=>Fv x
section
variable {S S':Nat->Prop} {w:World}
theorem xS (hS:∀b,S b->S' b) {v:Value} {x:AV} {O:List Nat} (hO:∀g∈O,S' g) (h:hY S w v x O):cA S' w v (Is x):=by
 cases h with
 | rep h =>
  have:=h.mono fun b hb=>⟨hS b hb,rfl⟩
  cases h<;>exact this
 | nil e=>exact iL none 0 0 e (by simp) (by simp) (by simp)
 | own g l c e row cur te fr hg hf hl hc hm hs h =>
  exact eX (r:=⟨e,true,false,row⟩) hg (hO g (by simp)) row 0 (by rw [hl,hs,Nat.zero_add];exact Nat.mul_le_mul_left _ hc) hl hc hm _ (fun _=>rfl) (fun j u x hu hx=>(h j u x (by simpa using hu) hx).mono fun b hb=>⟨hS b hb,rfl⟩)
 | box g row cur te fr hg hf hs h =>
  exact oU (off:=0) hg (hO g (by simp)) row aj (fun j u x hu hx=>(h j u x hu hx).mono fun b hb=>⟨hS b hb,rfl⟩)
theorem El {R:Value->AV->List Nat->Prop} {f:AV->AV} (hR:∀v x O,(∀g∈O,S' g)->R v x O->cA S' w v (f x)) {vs:List Value} {xs:List AV} {O:List Nat} (h:kR R vs xs O):(∀g∈O,S' g)->vs.length=(xs.map f).length∧ ∀(j:Nat) v c,vs[j]?=some v->(xs.map f)[j]?=some c->cA S' w v c:=by
 induction h with
 | nil=>intro _;exact ⟨rfl,fun j v c hv=>by simp at hv⟩
 | cons h _ ih =>
  intro hO
  obtain ⟨h1,h2⟩:=ih fun g hg=>hO g (by simp [hg])
  refine ⟨by simpa using h1,fun j v c hv hc=>?_⟩
  cases j with
  | zero=>simp at hv hc;subst hv;subst hc;exact hR _ _ _ (fun g hg=>hO g (by simp [hg])) h
  | succ j=>exact h2 j v c (by simpa using hv) (by simpa using hc)
theorem xR (hS:∀b,S b->S' b) {v:Value} {x:AV} {O:List Nat} (hO:∀g∈O,S' g) (h:nJ S w v x O):cA S' w v (Fv x):=by
 rcases h with h|⟨vs,cs,rfl,rfl,hL⟩
 ·by_cases hx:∃cs,x= .agg cs
  ·obtain ⟨cs,rfl⟩:=hx
   cases h with
   | rep h=>cases h with
    | agg vs _ hl h =>
     refine .agg vs _ (by simpa using hl) fun j v c hv hc=>?_
     rw [List.getElem?_map] at hc
     cases hj:cs[j]? with
     | none=>rw [hj] at hc;cases hc
     | some y=>rw [hj] at hc;injection hc with hc;subst hc;exact xS hS (O:=[]) (by simp) (.rep (h j v y hv hj))
  ·have:Fv x=Is x:=by
    cases x with
    | agg cs=>exact absurd ⟨cs,rfl⟩ hx
    | _=>rfl
   rw [this];exact xS hS hO h
 ·obtain ⟨h1,h2⟩:=El (S':=S') (f:=Is) (fun v x O hO h=>xS hS hO h) hL hO
  exact .agg vs _ h1 h2
theorem Ir (hS:∀b,S b->S' b) {v:Value} {x:AV} {O:List Nat} (hO:∀g∈O,S' g) (h:sF S w v x O):cA S' w v (Og x):=by
 rcases h with h|⟨vs,cs,rfl,rfl,hL⟩
 ·by_cases hx:∃cs,x= .br cs
  ·obtain ⟨cs,rfl⟩:=hx
   rcases h with h|⟨vs,JJ,h1,h2,h3⟩
   ·cases h with
    | rep h=>cases h with
     | br vs _ hl h =>
      refine .br vs _ (by simpa using hl) fun j v c hv hc=>?_
      rw [List.getElem?_map] at hc
      cases hj:cs[j]? with
      | none=>rw [hj] at hc;cases hc
      | some y=>rw [hj] at hc;injection hc with hc;subst hc;exact xR hS (O:=[]) (by simp) (.inl (.rep (h j v y hv hj)))
   ·cases h2
  ·have:Og x=Fv x:=by
    cases x with
    | br cs=>exact absurd ⟨cs,rfl⟩ hx
    | _=>rfl
   rw [this];exact xR hS hO h
 ·obtain ⟨h1,h2⟩:=El (S':=S') (f:=Fv) (fun v x O hO h=>xR hS hO h) hL hO
  exact .br vs _ h1 h2
end
def rj (P:Program) (s:AS) (o:Oper) (h:Hint):Option (AV×List Prop) :=
 match o.op with
 | .buildSlice t len parts=>(match P.underlying t with
  | some (.slice el)=>(match ea P el,(P.info? el).bind (·.zero) with
   | some (z+1),some zero=>(match fW s (z+1) 0 parts.toList,Nat.beq parts.toList.length len,Nat.ble (len*(z+1)) 16777216,Nat.beq zero.cells.size (z+1) with
    | some cells,true,true,true=>(match dR cells with
     | true=>some (.sl (z+1) (named h cells).1,(named h cells).2)
     | false=>none)
    | _,_,_,_=>none)
   | _,_=>none)
  | _=>none)
 | .makeSlice t l c=>(match bp s l,bp s c,P.underlying t with
  | .val (.int _ L),.val (.int _ C),some (.slice el)=>(match P.info? el with
   | some i=>(match i.zero,i.size with
    | some zero,z+1=>(match Nat.beq zero.cells.size (z+1) with
     | true=>some (.sl (z+1) (named h (s_ (zero.cells.toList.map bB) h.k)).1,(named h (s_ (zero.cells.toList.map bB) h.k)).2++ [L=(h.k:Int),C=(h.m:Int),h.k≤h.m,i.bytes*h.m≤281474976710656,h.m≤maxLen])
     | false=>none)
    | _,_=>none)
   | none=>none)
  | _,_,_=>none)
 | .call ⟨.builtin _,_,_⟩=>p_ P s o h
 | .call ⟨c,xs,_⟩=>(match callee s c,h.av with
  | some f,some r=>(match ia P f,h.b with
   | true,true=>(match jM s (xs.toList.map (bp s)),flat r with
    | some vs,some C=>some (Og r,bK P f vs r::C)
    | _,_=>none)
   | true,false=>(match lp (xs.toList.map (bp s)) with
    | true=>some (Og r,[bK P f (xs.toList.map (bp s)) r])
    | false=>none)
   | _,_=>none)
  | _,_=>none)
 | _=>p_ P s o h
def Dm (P:Program) (s:AS) (o:Oper) (x:AV) (C:List Prop):Prop :=
 bx C-> ∀S0 w0 n a w φ Q (b:Act),aG S0 w0 n [] s a w φ->b.tmps=a.tmps->o.wp P b w (fun b' w'=>∃v,b'=b.put o.dst v∧Below w.heap.size w w'∧Den (az s.H φ) (aM S0 w' φ []) w' v x) Q
theorem eC {a b:Act} (h:b.tmps=a.tmps):b.eval=a.eval:=by
 funext x
 cases x<;>simp [Act.eval,h]
section
variable {P:Program} {s:AS} {o:Oper} {h:Hint} {r:AV×List Prop}
theorem uC (hp:c_ P s o r.1 r.2):Dm P s o r.1 r.2:=by
 intro hC S0 w0 n a w φ Q b hs hb
 obtain ⟨v,ct,dM⟩:=hp hC S0 w0 n [] a w φ hs
 rw [←eC hb] at ct
 exact cR ct ⟨v,rfl,Below.refl _ _,dM⟩
theorem lS {S0:bm} {w0 w w':World} {n:Nat} {a:Act} {φ:Nat->Option Nat} (hs:aG S0 w0 n [] s a w φ) (hb:Below w.heap.size w w') (b:Nat) (h:aM S0 w φ [] b∨(w.heap.size≤b∧b<w'.heap.size)):aM S0 w' φ [] b:=by
 rcases h with h|⟨h1,h2⟩
 ·exact ⟨by have:=h.1;have:=hb.size;omega,by simp,h.2.2⟩
 ·exact ⟨h2,by simp,fun i hi=>by have:=(hs.cU i b hi).2;omega,hs.new b (.inl (by have:=hs.cV.size;omega))⟩
theorem wB {c:Callee} {xs:Array Operand} {ts:Array TypeId} {f:FuncId} {args:List AV} {x:AV} {C:List Prop} (ho:o.op= .call ⟨c,xs,ts⟩) (hc:callee s c=some f) (hE:ia P f=true) (nr:bx C->bK P f args x) (hl:args.length=xs.toList.length)
  (hG:bx C-> ∀S0 w0 n a w φ,aG S0 w0 n [] s a w φ-> ∃S:Nat->Prop,(∀b,S b->b<w.heap.size)∧(∀(j:Nat) v y,(xs.toList.map a.eval)[j]?=some v->args[j]?=some y->cA S w v y)∧ ∀w' v O,sF (fun b=>S b∨(w.heap.size≤b∧b<w'.heap.size∧b ∉ O)) w' v x O->sF (fun b=>aM S0 w φ [] b∨(w.heap.size≤b∧b<w'.heap.size∧b ∉ O)) w' v x O):Dm P s o (Og x) C:=by
 intro hC S0 w0 n a w φ Q b hs hb
 have ct:=jj (P:=P) hs hc ho hE
 rw [←eC hb] at ct
 obtain ⟨S,hS,iC,uy⟩:=hG hC S0 w0 n a w φ hs
 unfold Oper.wp
 rw [ct]
 have mJ:=nr hC w S (xs.toList.map a.eval) hs.cV.mw hS (by simp [hl]) iC
 have e:(xs.toList.map a.eval).toArray=xs.map b.eval:=by rw [eC hb];apply Array.ext';simp
 rw [e] at mJ
 refine mJ.mono ?_
 rintro en w' ⟨v,O,rfl,pr,im,mo,hg⟩
 refine ⟨v,rfl,pr,.rep (Ir (fun b hb=>?_) (fun g hg=>?_) (uy w' v O hg))⟩
 ·exact lS hs pr b (hb.imp id fun h=>⟨h.1,h.2.1⟩)
 ·exact lS hs pr g (.inr (mo g hg))
theorem wL (hr:rj P s o h=some r):Dm P s o r.1 r.2:=by
 unfold rj at hr
 split at hr
 ·rename_i t len parts ho
  split at hr
  ·rename_i el hu
   split at hr
   ·rename_i z zero hz hzero
    split at hr
    ·rename_i cells dF hlen AE uo
     split at hr
     ·rename_i hp
      cases hr
      intro hC S0 w0 n a w φ Q b hs hb
      have hlen:=Nat.eq_of_beq_eq_true hlen
      have AE:len*(z+1)≤16777216:=Nat.le_of_ble_eq_true AE
      have hn:(named h cells).1=cells:=(gZ (C:=[]) (by rw [List.append_nil];exact hC)).1
      obtain ⟨h1,us,h2,h3,-,h4⟩:=B6 hs (z+1) parts.toList 0 cells ((Array.range (len*(z+1))).map (zero.cells[· %zero.cells.size]!)) dF hp (by simp [←hlen])
      have hm:len≤maxLen:=by
       have:len≤len*(z+1):=Nat.le_mul_of_pos_right _ aj
       unfold maxLen;omega
      have ct:(execOp b.eval o).run P w= .ok (.value (.slice (some ⟨w.heap.size,0,none⟩) len len)) {w with heap:=w.heap.push (.cells us el (0,0))}:=by
       have Ar:(sizeOf el).run P w= .ok (z+1) w:=run_sizeOf hz
       have oG:(parts.map fun p=>(p.1,a.eval p.2)).toList=parts.toList.map fun p=>(p.1,a.eval p.2):=by simp
       rw [eC hb]
       unfold execOp
       simp only [ho,Instr.buildSlice,Sem.run_bind,run_underlying hu,Result.andThen_ok,Ar,Sem.run_ite]
       rw [if_neg aj]
       by_cases h0:len*(z+1)=0
       ·rw [if_pos h0]
        simp only [Sem.run_pure,Result.andThen_ok]
        have:(Array.range (len*(z+1))).map (fun x=>(#[]:Array Value)[x%(#[]:Array Value).size]!)=(Array.range (len*(z+1))).map (fun x=>zero.cells[x%zero.cells.size]!):=by rw [h0,ij,ij]
        rw [this,oG,h2]
        rfl
       ·rw [if_neg h0]
        simp only [iM hzero,Result.andThen_ok,Sem.run_pure]
        rw [oG,h2]
        rfl
      have pr:Below w.heap.size w {w with heap:=w.heap.push (.cells us el (0,0))}:=⟨rfl,rfl,rfl,by simp,fun k hk=>cJ w _ k hk⟩
      have gC:cells.length=(z+1)*len:=by rw [h1,hlen,Nat.mul_comm]
      refine cR ct ⟨_,rfl,pr,?_⟩
      simp only [hn]
      refine .rep (eX (r:=⟨z+1,true,false,cells⟩) (dE w _) (lS hs pr _ (.inr ⟨Nat.le_refl _,by simp⟩)) cells 0 (by rw [h3,gC];simp [Nat.mul_comm]) gC (Nat.le_refl _) hm _ (fun _=>rfl) (fun j u x hu hx=>?_))
      exact (h4 j u x (by simpa using hu) hx).mono fun b hb=>⟨lS hs pr b (.inl hb),cJ w _ b hb.1⟩
     ·cases hr
    ·cases hr
   ·cases hr
  ·cases hr
 ·rename_i t l c ho
  split at hr
  ·rename_i kl L kc C el hl hc hu
   split at hr
   ·rename_i i hi
    split at hr
    ·rename_i zero z hz dq
     split at hr
     ·rename_i hb
      cases hr
      have hb:=Nat.eq_of_beq_eq_true hb
      intro hC S0 w0 n a w φ Q b hs Ge
      obtain ⟨Kz,hC⟩:=gZ hC
      obtain ⟨h1,h2,h3,h4,h5,-⟩:=hC
      have LP:b.eval l= .int kl L:=by rw [eC Ge];exact bJ (hl ▸ hs.bp l)
      have ec:b.eval c= .int kc C:=by rw [eC Ge];exact bJ (hc ▸ hs.bp c)
      obtain ⟨cur,ct,wE,bu⟩:=run_make ho LP ec hu hi hz dq hb h1 h2 h3 h4 h5 w
      have pr:Below w.heap.size w {w with heap:=w.heap.push (.cells cur el (0,0))}:=⟨rfl,rfl,rfl,by simp,fun k hk=>cJ w _ k hk⟩
      have F6:(zero.cells.toList.map bB).length=z+1:=by simp [hb]
      have F9:=s9 (zero.cells.toList.map bB) (z+1) F6 h.k
      have hle:(z+1)*h.k≤(z+1)*h.m:=Nat.mul_le_mul_left _ h3
      refine cR ct ⟨_,rfl,pr,?_⟩
      simp only [Kz]
      refine .rep (eX (r:=⟨z+1,true,false,s_ (zero.cells.toList.map bB) h.k⟩) (dE w _) (lS hs pr _ (.inr ⟨Nat.le_refl _,by simp⟩)) _ 0 (by rw [F9,wE];omega) F9 h3 h5 _ (fun _=>rfl) (fun j u x hu hx=>?_))
      have h6:=wV _ (z+1) F6 aj _ _ _ hx
      have h7:=bu j u (by simpa using hu)
      rw [List.getElem?_map] at h6
      have h8:zero.cells.toList[j%(z+1)]?=some u:=by simpa using h7
      rw [h8] at h6;injection h6 with h6;subst h6;exact fP u
     ·cases hr
    ·cases hr
   ·cases hr
  ·cases hr
 ·exact uC (kK hr)
 ·rename_i c xs ts _ ho
  split at hr
  ·rename_i f x hc _
   split at hr
   ·rename_i hE _
    split at hr
    ·rename_i vs C hv vh
     cases hr
     refine wB ho hc hE (fun hC=>hC.1) ?_ fun hC S0 w0 n a w φ hs=>?_
     ·have key:∀(l:List AV) (m:List AV),jM s l=some m->m.length=l.length:=by
       intro l
       induction l with
       | nil=>intro m h;cases h;rfl
       | cons y l ih =>
        intro m h
        simp only [jM] at h
        split at h
        ·rename_i y' m' _ hm
         cases h
         simp [ih m' hm]
        ·cases h
      rw [key _ _ hv];simp
     ·exact ⟨fun b=>b<w.heap.size,fun _ h=>h,(lE hs _ _ hv).2,fun w' v O hg=>sU vh hC.2 hg⟩
    ·cases hr
   ·rename_i hE _
    split at hr
    ·rename_i vv
     cases hr
     refine wB ho hc hE (fun hC=>hC.1) (by simp) fun hC S0 w0 n a w φ hs=>⟨aM S0 w φ [],fun b hb=>hb.1,fun j v x hv hx=>?_,fun w' v O hg=>hg⟩
     have MC:=lJ vv hx
     rw [List.getElem?_map] at hv hx
     cases hj:xs.toList[j]? with
     | none=>rw [hj] at hv;cases hv
     | some y =>
      rw [hj] at hv hx
      injection hv with hv;injection hx with hx;subst hv;subst hx
      exact nL (hs.bp y) MC
    ·cases hr
   ·cases hr
  ·cases hr
 ·exact uC (kK hr)
end
def nn (ds:List Nat):List (Nat×AV)->List (Nat×AV)
 | []=>[]
 | (i,x)::l=>match ds.any (Nat.beq i) with|true=>nn ds l|false=>(i,x)::nn ds l
theorem fR (ds:List Nat):∀(l:List (Nat×AV)) (i:Nat) (x:AV),look (nn ds l) i=some x->look l i=some x∧i ∉ ds
 | [],i,x,h=>by cases h
 | (k,y)::l,i,x,h=>by
  simp only [nn] at h
  have ih:=fR ds l i x
  split at h
  ·rename_i hk
   obtain ⟨h1,h2⟩:=ih h
   rw [aD]
   have cT:k≠i:=fun e=>by
    subst e
    obtain ⟨j,hj,hb⟩:=List.any_eq_true.1 hk
    have:=Nat.eq_of_beq_eq_true hb
    subst this
    exact h2 hj
   rw [if_neg cT];exact ⟨h1,h2⟩
  ·rename_i hk
   rw [aD] at h ⊢
   by_cases su:k=i
   ·rw [if_pos su] at h ⊢
    refine ⟨h,fun hm=>?_⟩
    have:ds.any (Nat.beq k)=true:=List.any_eq_true.2 ⟨i,hm,by rw [su];exact Nat.beq_refl i⟩
    rw [hk] at this;cases this
   ·rw [if_neg su] at h ⊢
    exact ih h
def ji (ops:List Oper) (gN:List AV):List Nat->List (Nat×AV)
 | []=>[]
 | d::l=>match ops[d]?,gN[d]? with
  | some p,some x=>(match p.dst with|some i=>(i,x)::ji ops gN l|none=>ji ops gN l)
  | _,_=>ji ops gN l
theorem nO (ops:List Oper) (gN:List AV):∀(l:List Nat) (i:Nat) (x:AV),look (ji ops gN l) i=some x-> ∃d p,d∈l∧ops[d]?=some p∧p.dst=some i∧gN[d]?=some x
 | [],i,x,h=>by cases h
 | d::l,i,x,h=>by
  simp only [ji] at h
  have ih:=nO ops gN l i x
  have step:look (ji ops gN l) i=some x-> ∃d' p,d'∈d::l∧ops[d']?=some p∧p.dst=some i∧gN[d']?=some x:=fun h=>by
   obtain ⟨d',p,h1,h2⟩:=ih h
   exact ⟨d',p,by simp [h1],h2⟩
  split at h
  ·rename_i p y hp hy
   split at h
   ·rename_i k hk
    rw [aD] at h
    by_cases e:k=i
    ·rw [if_pos e] at h;injection h with h;subst h;subst e
     exact ⟨d,p,by simp,hp,hk,hy⟩
    ·rw [if_neg e] at h;exact step h
   ·exact step h
  ·exact step h
def vB (s:AS) (ds:List Nat) (ops:List Oper) (gN:List AV) (o:Oper):AS:=⟨ji ops gN (bk o)++nn ds s.F,s.H⟩
def sy (P:Program) (ops:List Oper) (s:AS) (o:Oper) (h:Hint):Option (AV×List Prop) :=
 match o.guard with
 | none=>rj P s o h
 | some (j,want)=>(match ops[j]? with
  | some p=>(match p.dst with
   | some d=>(match jN s d with
    | .val (.bool b)=>(match h.g == want with
     | true=>(match rj P s o h with|some (x,C)=>some (x,(b=h.g)::C)|none=>none)
     | false=>some (.val (.tuple #[]),[b=h.g]))
    | .val (.tuple _)=>some (.val (.tuple #[]),[])
    | _=>none)
   | none=>none)
  | none=>none)
def sV (P:Program) (s:AS) (ds:List Nat) (ops:List Oper) (hs:List (Nat×Hint)):List Oper->Nat->List AV->Option (List AV×List Prop)
 | [],_,gN=>some (gN,[])
 | o::l,i,gN=>match sy P ops (vB s ds ops gN o) o (gv hs i) with
  | some (x,C)=>(match sV P s ds ops hs l (i+1) (gN++ [x]) with|some (i4,D)=>some (i4,C++D)|none=>none)
  | none=>none
def i7:List Oper->List AV->List (Nat×AV)
 | o::l,x::m=>(match o.dst with|some d=>(d,x)::i7 l m|none=>i7 l m)
 | _,_=>[]
def CM (P:Program) (n T:Nat) (ops:List Oper) (hs:List (Nat×Hint)) (s:AS):Option (AS×List Prop) :=
 match P.follows .mixedOrders,ly ops.toArray n,oy ops.toArray T with
 | true,true,true=>(match sV P s ((ops.take T).filterMap (·.dst)) ops hs (ops.take T) 0 [] with
  | some (gN,C)=>(match jV P n ops hs (ops.drop T) T ⟨i7 (ops.take T) gN++nn ((ops.take T).filterMap (·.dst)) s.F,s.H⟩ with|some (s',D)=>some (s',C++D)|none=>none)
  | none=>none)
 | _,_,_=>none
section
variable {P:Program} {ops:List Oper} {S0:bm} {w0:World} {Q:Exit->Act->World->Prop}
theorem Er {s:AS} {o:Oper} {h:Hint} {r:AV×List Prop} (hr:sy P ops s o h=some r) (hC:bx r.2) {n:Nat} {a b:Act} {w:World} {φ:Nat->Option Nat} (hs:aG S0 w0 n [] s a w φ) (hb:b.tmps=a.tmps) :
  gP P ops.toArray Q o b w fun v w'=>w.heap.size≤w'.heap.size∧Den (az s.H φ) (aM S0 w' φ []) w' v r.1:=by
 unfold sy at hr
 unfold gP
 split at hr
 ·rename_i hg
  have hw:Region.wanted o (yielded ops.toArray b.tmps)=true:=by unfold Region.wanted;rw [hg]
  rw [if_pos hw]
  exact Oper.wp_mono (fun b' w' ⟨v,h1,h2,h3⟩=>⟨v,h1,h2,h2.size,h3⟩) (wL hr hC S0 w0 n a w φ Q b hs hb)
 ·rename_i j want hg
  split at hr
  ·rename_i p hp
   split at hr
   ·rename_i d hd
    split at hr
    ·rename_i bb q6
     have ht:=hs.get d
     rw [q6] at ht
     have hy:=l4 (ops:=ops) hp hd (qg ht)
     rw [←hb] at hy
     split at hr
     ·rename_i jS
      split at hr
      ·rename_i x C he
       cases hr
       obtain ⟨AF,hC⟩:=hC
       have hw:Region.wanted o (yielded ops.toArray b.tmps)=true:=by
        unfold Region.wanted;rw [hg];simp only [hy,AF]
        have:h.g=want:=by simpa using jS
        rw [this];simp
       rw [if_pos hw]
       exact Oper.wp_mono (fun b' w' ⟨v,h1,h2,h3⟩=>⟨v,h1,h2,h2.size,h3⟩) (wL he hC S0 w0 n a w φ Q b hs hb)
      ·cases hr
     ·rename_i jS
      cases hr
      obtain ⟨AF,-⟩:=hC
      have hw:¬Region.wanted o (yielded ops.toArray b.tmps)=true:=by
       unfold Region.wanted;rw [hg];simp only [hy,AF]
       have:¬h.g=want:=by simpa using jS
       simpa using this
      rw [if_neg hw]
      exact ⟨Nat.le_refl _,.rep (.val _)⟩
    ·rename_i arr q6
     have ht:=hs.get d
     rw [q6] at ht
     have hy:=l3 (ops:=ops) hp hd (bJ ht)
     rw [←hb] at hy
     cases hr
     have hw:¬Region.wanted o (yielded ops.toArray b.tmps)=true:=by
      unfold Region.wanted;rw [hg];simp [hy]
     rw [if_neg hw]
     exact ⟨Nat.le_refl _,.rep (.val _)⟩
    ·cases hr
   ·cases hr
  ·cases hr
theorem uS {s:AS} {ds:List Nat} {hs:List (Nat×Hint)}:∀(l:List Oper) (i:Nat) (gN i4:List AV) (C:List Prop),sV P s ds ops hs l i gN=some (i4,C)->bx C->gN.length=i ->
  i4.length=i+l.length∧i4.take i=gN∧ ∀(j:Nat) (o:Oper),l[j]?=some o-> ∃x D,i4[i+j]?=some x∧sy P ops (vB s ds ops (i4.take (i+j)) o) o (gv hs (i+j))=some (x,D)∧bx D
 | [],i,gN,i4,C,he,hC,hl=>by
  cases he
  exact ⟨by simp [hl],by rw [←hl,List.take_length],fun j o h=>by simp at h⟩
 | o::l,i,gN,i4,C,he,hC,hl=>by
  simp only [sV] at he
  split at he
  ·rename_i x C1 h1
   split at he
   ·rename_i Sx D h2
    cases he
    obtain ⟨iH,hD⟩:=bQ.1 hC
    obtain ⟨e1,e2,e3⟩:=uS l (i+1) (gN++ [x]) i4 D h2 hD (by simp [hl])
    have e4:i4.take i=gN:=by
     have:=congrArg (List.take i) e2
     rw [List.take_take,Nat.min_eq_left aj,←hl,List.take_left] at this
     rw [←hl];exact this
    have e5:i4[i]?=some x:=by
     have h3:(i4.take (i+1))[i]?=some x:=by rw [e2,List.getElem?_append_right aj,hl];simp
     exact bY _ _ _ _ h3
    refine ⟨by rw [e1,List.length_cons];omega,e4,fun j p hp=>?_⟩
    cases j with
    | zero =>
     simp at hp;subst hp
     exact ⟨x,C1,by simpa using e5,by simp only [Nat.add_zero];rw [e4];exact h1,iH⟩
    | succ j =>
     obtain ⟨y,D',h5,h6,h7⟩:=e3 j p (by simpa using hp)
     rw [show i+1+j=i+(j+1) by omega] at h5 h6
     exact ⟨y,D',h5,h6,h7⟩
   ·cases he
  ·cases he
theorem kD:∀(l:List Oper) (m:List AV) (i:Nat) (x:AV),look (i7 l m) i=some x-> ∃(k:Nat) (o:Oper),l[k]?=some o∧o.dst=some i∧m[k]?=some x
 | [],m,i,x,h=>by simp [i7,look] at h
 | o::l,[],i,x,h=>by simp [i7,look] at h
 | o::l,y::m,i,x,h=>by
  simp only [i7] at h
  have step:look (i7 l m) i=some x-> ∃(k:Nat) (p:Oper),(o::l)[k]?=some p∧p.dst=some i∧(y::m)[k]?=some x:=fun h=>by
   obtain ⟨k,p,h1,h2,h3⟩:=kD l m i x h
   exact ⟨k+1,p,by simpa using h1,h2,by simpa using h3⟩
  split at h
  ·rename_i d hd
   rw [aD] at h
   by_cases e:d=i
   ·rw [if_pos e] at h;injection h with h;subst h;subst e
    exact ⟨0,o,rfl,hd,rfl⟩
   ·rw [if_neg e] at h;exact step h
  ·exact step h
theorem lM (ops:List Oper) (T:Nat) (p:Oper×Nat):p∈ops.zipIdx.take T↔(p.2<T∧ops[p.2]?=some p.1):=by
 rw [List.mem_iff_getElem?]
 constructor
 ·rintro ⟨x,hx⟩
  rw [List.getElem?_take] at hx
  split at hx
  ·rename_i At
   rw [List.getElem?_zipIdx] at hx
   cases ho:ops[x]? with
   | none=>rw [ho] at hx;simp at hx
   | some q=>rw [ho] at hx;simp at hx;subst hx;exact ⟨by simpa using At,by simpa using ho⟩
  ·cases hx
 ·rintro ⟨h1,h2⟩
  refine ⟨p.2,?_⟩
  rw [List.getElem?_take,if_pos h1,List.getElem?_zipIdx,h2];simp
theorem ki (ops:List Oper) (T i:Nat):i ∉ (ops.take T).filterMap (·.dst)↔ ∀(j:Nat) (p:Oper),j<T->ops[j]?=some p->p.dst≠some i:=by
 constructor
 ·intro h j p hj hp hd
  refine h (List.mem_filterMap.2 ⟨p,?_,hd⟩)
  exact List.mem_of_getElem? (i:=j) (by rw [List.getElem?_take,if_pos hj];exact hp)
 ·intro h hm
  obtain ⟨p,hp,hd⟩:=List.mem_filterMap.1 hm
  obtain ⟨j,hj⟩:=List.getElem?_of_mem hp
  rw [List.getElem?_take] at hj
  split at hj
  ·rename_i Qt;exact h j p Qt hj hd
  ·cases hj
theorem FF {n T:Nat} {hs:List (Nat×Hint)} {s s':AS} {C:List Prop} (he:CM P n T ops hs s=some (s',C)) (hC:bx C) {a:Act} {w:World} (f_:iv S0 w0 n s a w) (hQ:∀a' w',iv S0 w0 n s' a' w'->Q .normal a' w'):P.follows .mixedOrders=true∧wpAny P .any ops.toArray Q ops.toArray.size (Array.replicate ops.toArray.size false) a {w with drawn:=w.drawn+1}:=by
 unfold CM at he
 split at he
 ·rename_i hm hB hT
  split at he
  ·rename_i gN C1 Cl
   split at he
   ·rename_i s2 D oF
    cases he
    obtain ⟨iH,hD⟩:=bQ.1 hC
    obtain ⟨φ,kT⟩:=f_
    have gS:aG S0 w0 n [] s a w.drew φ:=kT.grow ((Below.refl _ _).drew)
    obtain ⟨hlen,-,gT⟩:=uS _ 0 [] gN C1 Cl iH rfl
    simp only [Nat.zero_add] at hlen gT
    obtain ⟨dd,im,vg⟩:=fT hB
    unfold oy at hT
    simp only [Bool.and_eq_true,decide_eq_true_eq] at hT
    obtain ⟨⟨⟨Gf,KQ⟩,KP⟩,KO⟩:=hT
    have R1:T<ops.length:=by simpa using Gf
    have R0:gN.length=T:=by rw [hlen,List.length_take];omega
    let F:Nat->Value->World->Prop:=fun k v w'=>w.heap.size≤w'.heap.size∧ ∀x,gN[k]?=some x->Den (az s.H φ) (aM S0 w' φ []) w' v x
    have ux:∀k v w1 w2,Below w1.heap.size w1 w2->F k v w1->F k v w2:=by
     intro k v w1 w2 hb ⟨h1,h2⟩
     refine ⟨Nat.le_trans h1 hb.size,fun x hx=>(h2 x hx).mono (fun _ _ h=>h) (fun b hS=>⟨⟨by have:=hS.1;have:=hb.size;omega,hS.2⟩,hb.block b hS.1⟩) (fun id e m g hi=>?_)⟩
     obtain ⟨r,-,-,-,cp⟩:=aO hi
     have:=(kT.cU id g cp).2
     unfold aV;rw [hb.block g aj]
    refine ⟨hm,Bw Gf KQ KP KO kT.jL hB F ux ?_ ?_ ops.toArray.size _ a _ ⟨(Below.refl _ _).drew,by simp,?_,rfl,rfl,?_,?_,fun _ _=>rfl⟩ (fun j _=>by simp only [List.size_toArray];exact getD_replicate_false _ _) (by simp)⟩
    ·
     intro k o vw ho a' w' hb i9 fq
     have qW:ops[k]?=some o:=by simpa using ho
     obtain ⟨x,Dk,hx,dU,QA⟩:=gT k o (by rw [List.getElem?_take,if_pos vw];exact qW)
     have kF:Below w.heap.size w w':=hb
     have hg:=kT.grow kF
     have JC:aG S0 w0 a'.tmps.size [] (vB s ((ops.take T).filterMap (·.dst)) ops (gN.take k) o) ⟨a'.tmps,S0.r8⟩ w' φ:=by
      refine ⟨rfl,rfl,hg.cV,fun i av hi=>?_,hg.rows,hg.only,hg.inj,hg.cU,hg.apart,hg.new⟩
      show Den (az s.H φ) _ _ _ _
      unfold vB at hi
      rw [bM] at hi
      cases Ie:look (ji ops (gN.take k) (bk o)) i with
      | some y =>
       rw [Ie] at hi
       simp at hi;subst hi
       obtain ⟨d,p,h1,h2,h3,h4⟩:=nO _ _ _ _ _ Ie
       rcases i9 d h1 with hF|⟨q,hq,hn⟩
       ·have jH:rH ops.toArray a' d=a'.tmps.getD i undef:=by
         unfold rH
         have:(ops.toArray[d]?).bind (·.dst)=some i:=by simp [h2,h3]
         rw [this]
        rw [jH] at hF
        exact hF.2 y (bY _ _ _ _ h4)
       ·have gM:ops[d]?=some q:=by simpa using hq
        rw [h2] at gM;injection gM with gM;subst gM
        rw [h3] at hn;cases hn
      | none =>
       rw [Ie] at hi
       simp at hi
       obtain ⟨h1,h2⟩:=fR _ _ _ _ hi
       have hk:=fq i (fun j p hj hp=>(ki ops T i).1 h2 j p hj (by simpa using hp))
       have oq:a'.tmps.getD i undef=a.tmps.getD i undef:=hk
       show Den _ _ _ (a'.tmps.getD i undef) av
       rw [oq]
       exact hg.cB i av h1
     have:=Er (Q:=Q) (ops:=ops) dU QA JC (b:=a') rfl
     unfold gP at this ⊢
     split
     ·rename_i hw
      rw [if_pos hw] at this
      exact Oper.wp_mono (fun b' w2 ⟨v,h1,h2,h3,h4⟩=>⟨v,h1,h2,Nat.le_trans kF.size h3,fun y hy=>by rw [hx] at hy;injection hy with hy;subst hy;exact h4⟩) this
     ·rename_i hw
      rw [if_neg hw] at this
      exact ⟨kF.size,fun y hy=>by rw [hx] at hy;injection hy with hy;subst hy;exact this.2⟩
    ·
     intro vs w' hb xL
     have kF:Below w.heap.size w w':=hb
     have hg:=kT.grow kF
     have jI:=jD vs (ops.zipIdx.take T) a (by
      have h1:(ops.zipIdx.take T).filterMap (·.1.dst)=(ops.take T).filterMap (·.dst):=by
       conv=>rhs;rw [←List.zipIdx_map_fst 0 ops,←List.map_take]
       rw [List.filterMap_map];rfl
      rw [h1]
      exact List.Nodup.sublist ((List.take_sublist T ops).filterMap _) (by simpa using im))
     show wpList P ops.toArray Q (ops.drop T) (eD (ops.zipIdx.take T) vs a) w'
     refine jJ (S0:=S0) (w0:=w0) _ _ _ _ _ oF hD _ _ ⟨φ,?_⟩ hQ
     refine ⟨jI.1.trans kT.jL,jI.2.1.trans kT.jO,hg.cV,fun i av hi=>?_,hg.rows,hg.only,hg.inj,hg.cU,hg.apart,hg.new⟩
     show Den (az s.H φ) _ _ _ _
     rw [bM] at hi
     cases hh:look (i7 (ops.take T) gN) i with
     | some y =>
      rw [hh] at hi
      simp at hi;subst hi
      obtain ⟨k,o,h1,h2,h3⟩:=kD _ _ _ _ hh
      have vw:k<T:=by have:=(List.getElem?_eq_some_iff.1 h3).1;omega
      have ho:ops[k]?=some o:=bY _ _ _ _ h1
      have hv:=jI.2.2.1 (o,k) ((lM ops T _).2 ⟨vw,ho⟩) i h2 (by rw [kT.jL];exact vg k o i (by simpa using ho) h2)
      have:(eD (ops.zipIdx.take T) vs a).tmps.getD i undef=vs k:=by
       simp [hv]
      rw [this]
      exact (xL k vw).2 y h3
     | none =>
      rw [hh] at hi
      simp at hi
      obtain ⟨h1,h2⟩:=fR _ _ _ _ hi
      have hv:=jI.2.2.2 i (fun p hp hd=>(ki ops T i).1 h2 p.2 p.1 ((lM ops T p).1 hp).1 ((lM ops T p).1 hp).2 hd)
      have:(eD (ops.zipIdx.take T) vs a).tmps.getD i undef=a.tmps.getD i undef:=by
       simp [hv]
      rw [this]
      exact hg.cB i av h1
    ·intro k o hk;rw [getD_replicate_false] at hk;cases hk
    ·intro k o s hk;rw [getD_replicate_false] at hk;cases hk
    ·intro k o hk;rw [getD_replicate_false] at hk;cases hk
   ·cases he
  ·cases he
 ·cases he
end
def bR (s s':AS):Prop:=∀S0 w0 n a w,iv S0 w0 n s a w->iv S0 w0 n s' a w
def BB (P:Program):Code->(Exit->Act->World->Prop)->Act->World->Prop
 | .skip,Q,a,w=>Q .normal a w
 | .region _ ops false,Q,a,w=>wpList P ops Q ops.toList a w
 | .region _ ops true,Q,a,w=>P.follows .mixedOrders=true∧wpAny P .any ops Q ops.size (Array.replicate ops.size false) a {w with drawn:=w.drawn+1}
 | .seq x y,Q,a,w=>BB P x (Exit.then (BB P y Q) Q) a w
 | .cond c x y,Q,a,w=>∃t:Bool,a.eval c= .bool t∧(t=true->BB P x Q a w)∧(t=false->BB P y Q a w)
 | .block id c,Q,a,w=>BB P c (Exit.inBlock id Q) a w
 | .loop c,Q,a,w=>∃(J:Nat->Act->World->Prop) (k0:Nat),J k0 a w∧ ∀k a w,J k a w->BB P c (Exit.then (fun a' w'=>∃k',k'<k∧J k' a' w') Q) a w
 | .exit id,Q,a,w=>Q (.exit id) a w
 | .ret,Q,a,w=>Q .ret a w
 | .rangeFunc g ps x b,Q,a,w=>(Code.rangeFunc g ps x b).wp P Q a w
 | _,_,_,_=>False
section
variable {P:Program} {Q Q':Exit->Act->World->Prop}
theorem ml (hQ:∀e a w,Q e a w->Q' e a w) (h:LetsOut Q):LetsOut Q':=let ⟨a,w,h⟩:=h;⟨a,w,hQ _ _ _ h⟩
theorem wo {o:Oper} {a:Act} {w:World} {K K':Act->World->Prop} (hK:∀a w,K a w->K' a w) (hQ:∀e a w,Q e a w->Q' e a w) (hh:o.wp P a w K Q):o.wp P a w K' Q':=by
 unfold Oper.wp at *
 generalize (execOp a.eval o).run P w=r at *
 cases r with
 | ok n w' =>
  cases n<;>simp only [Oper.upon] at hh ⊢ <;>
   first
    | exact hK _ _ hh
    | exact Calls.mono hh (fun e fp he=>by cases e<;>first|exact hK _ _ he|exact hQ _ _ _ he|exact ml hQ he)
    | exact Rows.mono hh (fun _ _ he=>hK _ _ he)
 | halt x w'=>cases x<;>simp only [Oper.upon] at hh ⊢ <;>first|exact hQ _ _ _ hh|exact hh
theorem jX {ops:Array Oper} (hQ:∀e a w,Q e a w->Q' e a w):∀(l:List Oper) (a:Act) (w:World),wpList P ops Q l a w->wpList P ops Q' l a w
 | [],a,w,h=>hQ _ _ _ h
 | o::l,a,w,h=>by
  unfold wpList at h ⊢
  split at h
  ·rename_i hw
   rw [if_pos hw]
   exact h.imp (wo (jX hQ l) hQ) fun ⟨h1,h2⟩=>⟨h1,ml hQ h2⟩
  ·rename_i hw
   rw [if_neg hw]
   exact jX hQ l _ _ h
theorem Bv {ops:Array Oper} {i:Nat} {a:Act} {w:World} {K K':Act->World->Prop} (hK:∀a w,K a w->K' a w) (hQ:∀e a w,Q e a w->Q' e a w) (hh:wpOp P ops Q i K a w):wpOp P ops Q' i K' a w:=by
 unfold wpOp at *
 split
 ·exact hK _ _ (by simpa [*] using hh)
 ·rename_i o ho
  simp only [ho] at hh
  split
  ·rename_i hw;simp only [hw,if_true] at hh;exact hh.imp (wo hK hQ) fun ⟨h1,h2⟩=>⟨h1,ml hQ h2⟩
  ·rename_i hw;simp only [hw] at hh;exact hK _ _ hh
theorem rF {md:Region.Mode} {ops:Array Oper} (hQ:∀e a w,Q e a w->Q' e a w):∀(fuel:Nat) (listed:Array Bool) (a:Act) (w:World),wpAny P md ops Q fuel listed a w->wpAny P md ops Q' fuel listed a w
 | 0,_,_,_,h=>⟨h.1,hQ _ _ _ h.2⟩
 | fuel+1,listed,a,w,h=>⟨fun h0=>hQ _ _ _ (h.1 h0),fun i hi=>Bv (rF hQ fuel _) hQ (h.2 i hi)⟩
theorem lG {K K':Act->World->Prop} (hK:∀a w,K a w->K' a w) (hQ:∀e a w,Q e a w->Q' e a w) (e:Exit) (a:Act) (w:World) (h:Exit.then K Q e a w):Exit.then K' Q' e a w:=by
 cases e<;>first|exact hK _ _ h|exact hQ _ _ _ h
theorem xG {id:Nat} (hQ:∀e a w,Q e a w->Q' e a w) (e:Exit) (a:Act) (w:World) (h:Exit.inBlock id Q e a w):Exit.inBlock id Q' e a w:=by
 cases e with
 | exit i =>
  simp only [Exit.inBlock] at h ⊢
  split
  ·rename_i hi;rw [if_pos hi] at h;exact hQ _ _ _ h
  ·rename_i hi;rw [if_neg hi] at h;exact hQ _ _ _ h
 | _=>exact hQ _ _ _ h
theorem dX:∀(c:Code) (Q Q':Exit->Act->World->Prop),(∀e a w,Q e a w->Q' e a w)-> ∀(a:Act) (w:World),BB P c Q a w->BB P c Q' a w
 | .skip,_,_,hQ,a,w,h=>hQ _ _ _ h
 | .region _ ops false,_,_,hQ,a,w,h=>jX hQ _ _ _ h
 | .region _ ops true,_,_,hQ,a,w,h=>⟨h.1,rF hQ _ _ _ _ h.2⟩
 | .seq x y,_,_,hQ,a,w,h=>dX x _ _ (lG (dX y _ _ hQ) hQ) a w h
 | .cond c x y,_,_,hQ,a,w,⟨t,h1,h2,h3⟩=>⟨t,h1,fun e=>dX x _ _ hQ a w (h2 e),fun e=>dX y _ _ hQ a w (h3 e)⟩
 | .block id c,_,_,hQ,a,w,h=>dX c _ _ (xG hQ) a w h
 | .loop c,_,_,hQ,a,w,⟨J,k0,h0,h⟩=>⟨J,k0,h0,fun k a w hJ=>dX c _ _ (lG (fun _ _ h=>h) hQ) a w (h k a w hJ)⟩
 | .exit id,_,_,hQ,a,w,h=>hQ _ _ _ h
 | .ret,_,_,hQ,a,w,h=>hQ _ _ _ h
 | .rangeFunc g ps x b,_,_,hQ,a,w,h=>wp_mono h hQ
 | .scope _,_,_,_,_,_,h=>h.elim
 | .label _,_,_,_,_,_,h=>h.elim
 | .goto _,_,_,_,_,_,h=>h.elim
 | .refuse _,_,_,_,_,_,h=>h.elim
end
theorem DW {P:Program} {c:Code} {Q:Exit->Act->World->Prop} {a:Act} {w:World} (J:Nat->Act->World->Prop) (k0:Nat) (h0:J k0 a w)
  (round:∀k a w,J k a w->c.wp P (Exit.then (fun a' w'=>∃k',k'<k∧J k' a' w') Q) a w):(Code.loop c).wp P Q a w:=by
 intro b k cs
 have key:∀n a w,J n a w-> ∃e a' w',Q e a' w'∧Arrives P (lone (b.at a (.code c:: .inLoop c::k)) cs w) b k cs e a' w':=by
  intro n
  induction n using Nat.strongRecOn with
  | _ n ih =>
   intro a w hJ
   obtain ⟨e,FW,EG,hq,sw⟩:=round n a w hJ b (.inLoop c::k) cs
   cases e with
   | normal =>
    obtain ⟨k',dd,M4⟩:=hq
    obtain ⟨So,Sw,QN,Pa,KM⟩:=ih k' dd FW EG M4
    exact ⟨So,Sw,QN,Pa,.of_steps (Steps.trans sw (.one step_inLoop)) KM⟩
   | exit id=>exact ⟨_,FW,EG,hq,.pass (x:=.inLoop c) rfl (fun _ _=>.inl (by simp)) sw⟩
   | goto l=>exact ⟨_,FW,EG,hq,.pass (x:=.inLoop c) rfl (fun _ _=>.inl (by simp)) sw⟩
   | ret=>exact ⟨_,FW,EG,hq,.pass (x:=.inLoop c) rfl (fun _ _=>.inl (by simp)) sw⟩
   | panic ch=>exact ⟨_,FW,EG,hq,.pass (x:=.inLoop c) rfl (fun _ _=>.inl (by simp)) sw⟩
   | outgrown=>exact ⟨_,FW,EG,hq,.pass (x:=.inLoop c) rfl (fun _ _=>.inl (by simp)) sw⟩
 obtain ⟨e,a',w',hq,sw⟩:=key k0 a w h0
 exact ⟨e,a',w',hq,.of_steps (.one step_loop) sw⟩
theorem ks {P:Program}:∀(c:Code) (Q:Exit->Act->World->Prop) (a:Act) (w:World),BB P c Q a w->c.wp P Q a w
 | .skip,_,a,w,h=>wp_skip h
 | .region _ ops false,_,a,w,h=>wp_region_list h
 | .region _ ops true,_,a,w,h=>wp_region_any h.1 h.2
 | .seq x y,Q,a,w,h=>wp_seq (ks x _ a w (dX x _ _ (lG (ks y Q) fun _ _ _ h=>h) a w h))
 | .cond c x y,Q,a,w,⟨t,h1,h2,h3⟩=>wp_cond_split h1 (fun e=>ks x Q a w (h2 e)) (fun e=>ks y Q a w (h3 e))
 | .block id c,_,a,w,h=>wp_block (ks c _ a w h)
 | .loop c,_,a,w,⟨J,k0,h0,h⟩=>DW J k0 h0 fun k a w hJ=>ks c _ a w (h k a w hJ)
 | .exit id,_,a,w,h=>wp_exit h
 | .ret,_,a,w,h=>wp_ret h
 | .rangeFunc g ps x b,_,a,w,h=>h
 | .scope _,_,_,_,h=>h.elim
 | .label _,_,_,_,h=>h.elim
 | .goto _,_,_,_,h=>h.elim
 | .refuse _,_,_,_,h=>h.elim
def mark (r:Nat):Deferred:={target:=.collected r,args:= #[]}
structure kV (S0:bm) (w0:World) (S1:bm) (w1:World) (ms:List Nat):Prop where
 kept:Kept S0 w0 w1
 sub:∀b,S1.S b->S0.S b
 X:∀b,S1.X b->w0.heap.size≤b∨S0.X b
 fix:S1.fix=S0.fix
 r8:S1.r8=ms.map mark++S0.r8
 nodup:ms.Nodup
 marks:∀r∈ms,w0.heap.size≤r∧r<w1.heap.size∧w1.heap[r]?=some (.deferred (some []))∧ ¬S1.S r∧ ¬S1.X r
theorem kV.refl {S0:bm} {w0 w:World} (h:Kept S0 w0 w):kV S0 w0 S0 w0 []:=⟨⟨rfl,rfl,rfl,Nat.le_refl _,fun _ _ _=>rfl,h.g0,h.gx⟩,fun _ h=>h,fun _ h=>.inr h,rfl,rfl,List.nodup_nil,fun _ h=>by cases h⟩
theorem Kept.trans {S0 S1:bm} {w0 w1 w2:World} (h:Kept S0 w0 w1) (k:Kept S1 w1 w2) (hX:∀b,S1.X b->w0.heap.size≤b∨S0.X b):Kept S0 w0 w2 :=
 ⟨k.os.trans h.os,k.tape.trans h.tape,k.output.trans h.output,Nat.le_trans h.size k.size,fun b hb hx=>(k.block b (Nat.lt_of_lt_of_le hb h.size) fun Q7=>(hX b Q7).elim (fun h=>aj) hx).trans (h.block b hb hx),h.g0,h.gx⟩
theorem kV.trans {S0 S1 S2:bm} {w0 w1 w2:World} {ms Qd:List Nat} (h:kV S0 w0 S1 w1 ms) (k:kV S1 w1 S2 w2 Qd):kV S0 w0 S2 w2 (Qd++ms) where
 kept:=h.kept.trans k.kept h.X
 sub:=fun b hb=>h.sub b (k.sub b hb)
 X:=fun b hb=>(k.X b hb).elim (fun hb=>.inl (Nat.le_trans h.kept.size hb)) fun hb=>h.X b hb
 fix:=k.fix.trans h.fix
 r8:=by rw [k.r8,h.r8,List.map_append,List.append_assoc]
 nodup:=by
  rw [List.nodup_append]
  refine ⟨k.nodup,h.nodup,fun a ha b hb e=>?_⟩
  subst e
  have:=(k.marks a ha).1
  have:=(h.marks a hb).2.1
  omega
 marks:=fun r hr=>by
  rcases List.mem_append.1 hr with hr|hr
  ·obtain ⟨h1,h2⟩:=k.marks r hr
   exact ⟨Nat.le_trans h.kept.size h1,h2⟩
  ·obtain ⟨h1,h2,h3,h4,h5⟩:=h.marks r hr
   exact ⟨h1,Nat.lt_of_lt_of_le h2 k.kept.size,(k.kept.block r h2 h5).trans h3,fun hs=>h4 (k.sub r hs),fun hx=>(k.X r hx).elim (fun h=>aj) h5⟩
def mP (S0:bm) (w0:World) (n:Nat) (s:AS) (a:Act) (w:World):Prop:=∃S1 w1 ms,kV S0 w0 S1 w1 ms∧iv S1 w1 n s a w
theorem iv.one {S0:bm} {w0:World} {n:Nat} {s:AS} {a:Act} {w:World} (h:iv S0 w0 n s a w):mP S0 w0 n s a w:=⟨S0,w0,[],kV.refl h.choose_spec.cV,h⟩
theorem mP.after {S0 S1:bm} {w0 w1:World} {ms:List Nat} {n:Nat} {s:AS} {a:Act} {w:World} (he:kV S0 w0 S1 w1 ms) (h:mP S1 w1 n s a w):mP S0 w0 n s a w :=
 let ⟨S2,w2,_,h1,h2⟩:=h;⟨S2,w2,_,he.trans h1,h2⟩
def bf (P:Program) (n:Nat) (c:Code) (Q:Exit->AS->Prop) (s:AS):Prop :=
 ∀S0 w0 a w,iv S0 w0 n s a w->BB P c (fun e a' w'=>∃s',Q e s'∧mP S0 w0 n s' a' w') a w
theorem bf.TH {P:Program} {n:Nat} {c:Code} {Q:Exit->AS->Prop} {s:AS} (h:bf P n c Q s) {S0:bm} {w0:World} {a:Act} {w:World} (hs:mP S0 w0 n s a w):BB P c (fun e a' w'=>∃s',Q e s'∧mP S0 w0 n s' a' w') a w:=by
 obtain ⟨S1,w1,ms,h1,h2⟩:=hs
 exact dX _ _ _ (fun e a' w' ⟨s',hq,bZ⟩=>⟨s',hq,bZ.after h1⟩) _ _ (h S1 w1 a w h2)
def rD (K:AS->Prop) (Q:Exit->AS->Prop):Exit->AS->Prop
 | .normal,s=>K s
 | e,s=>Q e s
def ND (id:Nat) (Q:Exit->AS->Prop):Exit->AS->Prop
 | .exit oZ,s=>if oZ=id then Q .normal s else Q (.exit oZ) s
 | e,s=>Q e s
def iq:Code->Code
 | .seq a _=>a
 | c=>c
def dA:Code->Code
 | .seq _ b=>b
 | c=>c
def ox:Code->Code
 | .cond _ a _=>a
 | c=>c
def oH:Code->Code
 | .cond _ _ b=>b
 | c=>c
def ft:Code->Code
 | .block _ b=>b
 | .loop b=>b
 | .scope b=>b
 | c=>c
def Ao:Code->Bool
 | .seq _ _=>true
 | _=>false
def k_:Code->Option Operand
 | .cond x _ _=>some x
 | _=>none
def Jj:Code->Option Nat
 | .block id _=>some id
 | _=>none
def HG:Code->Bool
 | .loop _=>true
 | _=>false
def LO:Code->Option Nat
 | .exit id=>some id
 | _=>none
def HF:Code->Bool
 | .ret=>true
 | _=>false
def B_:Code->Bool
 | .skip=>true
 | _=>false
section
variable {P:Program} {n:Nat} {c:Code} {Q:Exit->AS->Prop} {s:AS}
theorem bf.seq (hc:Ao c=true) (h:bf P n (iq c) (rD (bf P n (dA c) Q) Q) s):bf P n c Q s:=by
 cases c with
 | seq x y =>
  intro S0 w0 a w hs
  refine dX x _ _ (fun e a' w' ⟨s',hq,bZ⟩=>?_) a w (h S0 w0 a w hs)
  cases e with
  | normal=>exact bf.TH hq bZ
  | _=>exact ⟨s',hq,bZ⟩
 | _=>cases hc
theorem bf.cond {x:Operand} {b:Bool} (hc:k_ c=some x) (hx:bp s x= .val (.bool b)) (ht:b=true->bf P n (ox c) Q s) (hf:b=false->bf P n (oH c) Q s):bf P n c Q s:=by
 cases c with
 | cond y p q =>
  cases hc
  intro S0 w0 a w hs
  have hv:a.eval x= .bool b:=by
   obtain ⟨φ,bZ⟩:=hs
   exact bJ (hx ▸ bZ.bp x)
  exact ⟨b,hv,fun e=>ht e S0 w0 a w hs,fun e=>hf e S0 w0 a w hs⟩
 | _=>cases hc
theorem bf.block {id:Nat} (hc:Jj c=some id) (h:bf P n (ft c) (ND id Q) s):bf P n c Q s:=by
 cases c with
 | block oZ b =>
  cases hc
  intro S0 w0 a w hs
  refine dX b _ _ (fun e a' w' ⟨s',hq,bZ⟩=>?_) a w (h S0 w0 a w hs)
  cases e with
  | exit i =>
   simp only [ND] at hq
   simp only [Exit.inBlock]
   split
   ·rename_i hi;rw [if_pos hi] at hq;exact ⟨s',hq,bZ⟩
   ·rename_i hi;rw [if_neg hi] at hq;exact ⟨s',hq,bZ⟩
  | _=>exact ⟨s',hq,bZ⟩
 | _=>cases hc
theorem bf.exit {id:Nat} (hc:LO c=some id) (h:Q (.exit id) s):bf P n c Q s:=by
 cases c with
 | exit i=>cases hc;intro S0 w0 a w hs;exact ⟨s,h,hs.one⟩
 | _=>cases hc
theorem bf.ret (hc:HF c=true) (h:Q .ret s):bf P n c Q s:=by
 cases c with
 | ret=>intro S0 w0 a w hs;exact ⟨s,h,hs.one⟩
 | _=>cases hc
theorem bf.skip (hc:B_ c=true) (h:Q .normal s):bf P n c Q s:=by
 cases c with
 | skip=>intro S0 w0 a w hs;exact ⟨s,h,hs.one⟩
 | _=>cases hc
theorem bf.oe {s':AS} (hw:bR s s') (h:bf P n c Q s'):bf P n c Q s:=fun S0 w0 a w hs=>h S0 w0 a w (hw S0 w0 n a w hs)
theorem bf.mono {Q':Exit->AS->Prop} (h:bf P n c Q s) (hq:∀e s,Q e s->Q' e s):bf P n c Q' s:=fun S0 w0 a w hs=>dX c _ _ (fun e _ _ ⟨s',h1,h2⟩=>⟨s',hq e s' h1,h2⟩) a w (h S0 w0 a w hs)
def Round {ι:Type} (I:ι->AS) (Inv:ι->Prop) (m:ι->Nat) (Q:Exit->AS->Prop) (x:ι):Exit->AS->Prop:=rD (fun s'=>∃y,Inv y∧m y<m x∧bR s' (I y)) Q
theorem bf.loop {ι:Type} (I:ι->AS) (Inv:ι->Prop) (m:ι->Nat) (hc:HG c=true) (x0:ι) (h0:Inv x0) (hw:bR s (I x0)) (h:∀x,Inv x->bf P n (ft c) (Round I Inv m Q x) (I x)):bf P n c Q s:=by
 cases c with
 | loop b =>
  intro S0 w0 a w hs
  refine ⟨fun k a w=>∃x,Inv x∧m x=k∧mP S0 w0 n (I x) a w,m x0,⟨x0,h0,rfl,(hw S0 w0 n a w hs).one⟩,?_⟩
  rintro k a w ⟨x,hx,rfl,hs⟩
  refine dX b _ _ (fun e a' w' ⟨s',hq,bZ⟩=>?_) a w (bf.TH (h x hx) hs)
  cases e with
  | normal =>
   obtain ⟨y,hy,dd,T2⟩:=hq
   obtain ⟨S1,w1,ms,h1,h2⟩:=bZ
   exact ⟨m y,dd,y,hy,rfl,S1,w1,ms,h1,T2 S1 w1 n a' w' h2⟩
  | _=>exact ⟨s',hq,bZ⟩
 | _=>cases hc
end
structure pn where
 hs:List (Nat×Hint):=[]
 T:Nat:=0
def r5 (P:Program) (n:Nat) (c:Code) (x:pn) (s:AS):Option (AS×List Prop) :=
 match c with
 | .region _ ⟨l⟩ false=>jV P n l x.hs l 0 s
 | .region _ ⟨l⟩ true=>CM P n x.T l x.hs s
 | _=>none
def kJ (P:Program) (n:Nat):List pn->Code->AS->Option (AS×List Prop)
 | [],_,s=>some (s,[])
 | x::l,c,s=>match Ao c with
  | true=>(match r5 P n (iq c) x s with
   | some (s1,C)=>(match kJ P n l (dA c) s1 with|some (s2,D)=>some (s2,C++D)|none=>none)
   | none=>none)
  | false=>none
def qf:Nat->Code->Code
 | 0,c=>c
 | k+1,c=>qf k (dA c)
section
variable {P:Program} {n:Nat} {c:Code} {Q:Exit->AS->Prop} {s s':AS} {C:List Prop}
theorem A5 {x:pn} (he:r5 P n c x s=some (s',C)) (hC:bx C) (h:Q .normal s'):bf P n c Q s:=by
 intro S0 w0 a w hs
 unfold r5 at he
 split at he
 ·exact jJ (S0:=S0) (w0:=w0) _ _ _ _ _ he hC a w hs fun a' w' bZ=>⟨s',h,bZ.one⟩
 ·exact FF (S0:=S0) (w0:=w0) he hC hs fun a' w' bZ=>⟨s',h,bZ.one⟩
 ·cases he
theorem bf.OA (x:pn) (he:r5 P n c x s=some (s',C)) (hC:bx C) (h:Q .normal s'):bf P n c Q s:=A5 he hC h
theorem bf.Ox:∀(l:List pn) {c:Code} {s s':AS} {C:List Prop},kJ P n l c s=some (s',C)->bx C->bf P n (qf l.length c) Q s'->bf P n c Q s
 | [],c,s,s',C,he,hC,h=>by cases he;exact h
 | x::l,c,s,s',C,he,hC,h=>by
  simp only [kJ] at he
  split at he
  ·rename_i Ri
   split at he
   ·rename_i s1 C1 h1
    split at he
    ·rename_i s2 D h2
     cases he
     obtain ⟨iH,hD⟩:=bQ.1 hC
     exact bf.seq Ri (A5 h1 iH (bf.Ox l h2 hD h))
    ·cases he
   ·cases he
  ·cases he
end
def kz (a b:Nat):AV->AV
 | .ref i=>match Nat.beq i a with|true=>.ref b|false=>.ref i
 | .pre i n=>match Nat.beq i a with|true=>.pre b n|false=>.pre i n
 | .jl i o n=>match Nat.beq i a with|true=>.jl b o n|false=>.jl i o n
 | .addr i o=>match Nat.beq i a with|true=>.addr b o|false=>.addr i o
 | .agg _=>.dead
 | .br _=>.dead
 | x=>x
def EY (a b:Nat):AV->AV
 | .agg cs=>.agg (cs.map (kz a b))
 | x=>kz a b x
def Mh (a b:Nat):AV->AV
 | .br cs=>.br (cs.map (EY a b))
 | x=>EY a b x
def eQ (a b:Nat) (r:Row):Row:=match r.pure with|true=>r|false=>⟨r.e,false,r.full,r.cells.map (kz a b)⟩
def oR {α:Type} (a b:Nat):List (Nat×α)->List (Nat×α)
 | []=>[]
 | (k,x)::l=>match Nat.beq k a with|true=>(b,x)::oR a b l|false=>(k,x)::oR a b l
def rename (a b:Nat) (s:AS):AS:=⟨dS (Mh a b) s.F,dS (eQ a b) (oR a b s.H)⟩
theorem nk {α:Type} (a b:Nat):∀(l:List (Nat×α)),look l b=none-> ∀i,look (oR a b l) i=if i=b then look l a else if i=a then none else look l i
 | [],_,i=>by simp [oR,look]
 | (k,x)::l,hb,i=>by
  rw [aD] at hb
  have RE:k≠b:=fun e=>by rw [if_pos e] at hb;cases hb
  rw [if_neg RE] at hb
  have ih:=nk a b l hb i
  rcases bI k a with ⟨h,e⟩|⟨h,e⟩
  ·simp only [oR,h,aD,ih]
   by_cases hi:i=b
   ·subst hi;simp [e]
   ·by_cases MJ:i=a
    ·have Ts:b≠a:=fun e'=>hi (by rw [e',MJ])
     simp [MJ,Ts,Ne.symm Ts]
    ·have:k≠i:=fun e'=>MJ (by rw [←e',e])
     simp [hi,MJ,Ne.symm hi,this]
  ·simp only [oR,h,aD,ih]
   by_cases hi:i=b
   ·subst hi;simp [RE,e]
   ·by_cases MJ:i=a
    ·subst MJ;simp [hi,e]
    ·simp [hi,MJ]
section
variable {S0:bm} {w0 w:World} {n:Nat} {s:AS} {a:Act} {φ:Nat->Option Nat}
theorem cG (x y:Nat) (r:Row):(eQ x y r).e=r.e∧(eQ x y r).cells.length=r.cells.length∧(eQ x y r).pure=r.pure∧(eQ x y r).full=r.full:=by
 unfold eQ
 cases h:r.pure<;>simp [h]
theorem aG.J6 (h:aG S0 w0 n [] s a w φ) (x y:Nat) (OQ:y<1000000000000) (cT:x≠y) (hy:look s.H y=none):∃ cz,aG S0 w0 n [] (rename x y s) a w cz:=by
 let cz:Nat->Option Nat:=fun i=>if i=y then φ x else if i=x then none else φ i
 have Q0:φ y=none:=h.only y hy
 have mr:∀i g,cz i=some g-> ∃j,φ j=some g∧(i=y->j=x)∧(i≠y->j=i):=by
  intro i g hi
  by_cases e:i=y
  ·have:φ x=some g:=by simpa [cz,e] using hi
   exact ⟨x,this,fun _=>rfl,fun h=>absurd e h⟩
  ·by_cases e2:i=x
   ·simp [cz,e2,cT] at hi
   ·have:φ i=some g:=by simpa [cz,e,e2] using hi
    exact ⟨i,this,fun h=>absurd h e,fun _=>rfl⟩
 have Ih:∀b,aM S0 w φ [] b->aM S0 w cz [] b:=by
  intro b ⟨h1,h2,h3,h4⟩
  refine ⟨h1,h2,fun i hi=>?_,h4⟩
  obtain ⟨j,hj,-⟩:=mr i b hi
  exact h3 j hj
 have jT:∀i,look (rename x y s).H i=(if i=y then look s.H x else if i=x then none else look s.H i).map (eQ x y):=by
  intro i
  unfold rename
  rw [cw,nk x y _ hy]
 have hI:∀i z,az s.H φ i=some z->az (rename x y s).H cz (if i=x then y else i)=some z:=by
  intro i z hi
  obtain ⟨e,m,b⟩:=z
  obtain ⟨r,hl,h1,h2,h3⟩:=aO hi
  by_cases e1:i=x
  ·subst e1
   rw [if_pos rfl,bq (r:=eQ i y r) (by rw [jT,if_pos rfl,hl];rfl),(cG i y r).1,(cG i y r).2.1,h1,h2]
   simp [cz,h3]
  ·have e2:i≠y:=fun e=>by subst e;rw [hy] at hl;cases hl
   rw [if_neg e1,bq (r:=eQ x y r) (by rw [jT,if_neg e2,if_neg e1,hl];rfl),(cG x y r).1,(cG x y r).2.1,h1,h2]
   simp [cz,e1,e2,h3]
 have sx:∀b,aM S0 w φ [] b->aM S0 w cz [] b∧w.heap[b]?=w.heap[b]?:=fun b h=>⟨Ih b h,rfl⟩
 have ok:jQ (az s.H φ) (az (rename x y s).H cz) (aM S0 w φ []) (aM S0 w cz []) w (kz x y):=by
  refine ⟨fun v av hv h1 h2=>?_,fun _=>rfl,fun _=>rfl⟩
  have pick:∀i z,az s.H φ i=some z->(Nat.beq i x=true∧az (rename x y s).H cz y=some z)∨(Nat.beq i x=false∧az (rename x y s).H cz i=some z):=by
   intro i z hi
   have:=hI i z hi
   rcases bI i x with ⟨hb,e⟩|⟨hb,e⟩
   ·rw [if_pos e] at this;exact .inl ⟨hb,this⟩
   ·rw [if_neg e] at this;exact .inr ⟨hb,this⟩
  cases hv with
  | rep h=>cases h with
   | val v=>exact .rep (.val v)
   | nil=>exact .rep .nil
   | agg vs cs _ _=>exact absurd rfl (h1 cs)
   | br vs cs _ _=>exact absurd rfl (h2 cs)
   | arr vs cs hl h=>exact .rep ((cA.arr vs cs hl h).mono sx)
   | sl A n c e us row hl hn hc hm ha h=>exact .rep ((cA.sl A n c e us row hl hn hc hm ha h).mono sx)
   | pt A n e us row hl hn hm ha h=>exact .rep ((cA.pt A n e us row hl hn hm ha h).mono sx)
   | ptr ad us row off hl hs ha h=>exact .rep ((cA.ptr ad us row off hl hs ha h).mono sx)
   | lB f vs cs hl h=>exact .rep ((cA.lB f vs cs hl h).mono sx)
  | agg vs cs _ _=>exact absurd rfl (h1 cs)
  | br vs cs _ _=>exact absurd rfl (h2 cs)
  | ref i e m g l c hi hm hc hx hs=>rcases pick i _ hi with ⟨hb,jd⟩|⟨hb,jd⟩<;>simp only [kz,hb]<;>exact .ref _ e m g l c jd hm hc hx hs
  | cC i e hi=>rcases pick i _ hi with ⟨hb,jd⟩|⟨hb,jd⟩<;>simp only [kz,hb]<;>exact .cC _ e jd
  | pre i k e m g l c hi hn hm hc hx hs=>rcases pick i _ hi with ⟨hb,jd⟩|⟨hb,jd⟩<;>simp only [kz,hb]<;>exact .pre _ k e m g l c jd hn hm hc hx hs
  | dw i e hi=>rcases pick i _ hi with ⟨hb,jd⟩|⟨hb,jd⟩<;>simp only [kz,hb]<;>exact .dw _ e jd
  | jl i off k e m l c g A hi hn hm hc hx ha=>rcases pick i _ hi with ⟨hb,jd⟩|⟨hb,jd⟩<;>simp only [kz,hb]<;>exact .jl _ off k e m l c g A jd hn hm hc hx ha
  | addr i off e m g hi=>rcases pick i _ hi with ⟨hb,jd⟩|⟨hb,jd⟩<;>simp only [kz,hb]<;>exact .addr _ off e m g jd
  | dead v=>exact .dead _
 have B0:∀z:AV,(∀cs,z≠ .agg cs)->EY x y z=kz x y z:=by
  intro z hz
  cases z with
  | agg cs=>exact absurd rfl (hz cs)
  | _=>rfl
 have BZ:∀z:AV,(∀cs,z≠ .br cs)->Mh x y z=EY x y z:=by
  intro z hz
  cases z with
  | br cs=>exact absurd rfl (hz cs)
  | _=>rfl
 refine ⟨cz,h.jL,h.jO,h.cV,fun i av hi=>?_,fun i r hr=>?_,fun i hi=>?_,fun i j g hi hj=>?_,fun i g hi=>?_,fun i g hi=>by simp,h.new⟩
 ·unfold rename at hi
  rw [cw] at hi
  cases hl:look s.F i with
  | none=>rw [hl] at hi;cases hi
  | some z =>
   rw [hl] at hi;injection hi with hi;subst hi
   exact ok.two (h.cB i z hl) (fun _=>rfl) B0 (fun _=>rfl) BZ
 ·rw [jT] at hr
  have:∃j q,look s.H j=some q∧cz i=φ j∧r=eQ x y q:=by
   by_cases e:i=y
   ·rw [if_pos e] at hr
    cases hl:look s.H x with
    | none=>rw [hl] at hr;cases hr
    | some q=>rw [hl] at hr;injection hr with hr;exact ⟨x,q,hl,by simp [cz,e],hr.symm⟩
   ·rw [if_neg e] at hr
    by_cases e2:i=x
    ·rw [if_pos e2] at hr;cases hr
    ·rw [if_neg e2] at hr
     cases hl:look s.H i with
     | none=>rw [hl] at hr;cases hr
     | some q=>rw [hl] at hr;injection hr with hr;exact ⟨i,q,hl,by simp [cz,e,e2],hr.symm⟩
  obtain ⟨j,q,hq,Mt,rfl⟩:=this
  have aN:=h.rows j q hq
  rw [Mt]
  unfold bN at aN ⊢
  cases hb:φ j with
  | none =>
   rw [hb] at aN
   have:=(cG x y q).2.1
   simp only at aN ⊢
   rw [aN] at this;exact List.length_eq_zero_iff.1 this
  | some g =>
   rw [hb] at aN
   obtain ⟨cur,te,fr,hg,hf,hlen,mI,hc⟩:=aN
   refine ⟨cur,te,fr,hg,hf,by rw [(cG x y q).2.1];exact hlen,by rw [(cG x y q).2.1,(cG x y q).2.2.2];exact mI,fun j u z hu hz=>?_⟩
   rw [(cG x y q).2.2.1]
   unfold bh
   cases hp:q.pure with
   | true =>
    have:eQ x y q=q:=by unfold eQ;rw [hp]
    rw [this] at hz
    have:=hc j u z hu hz
    unfold bh at this;rw [hp] at this
    exact this.mono sx
   | false =>
    have:(eQ x y q).cells=q.cells.map (kz x y):=by unfold eQ;rw [hp]
    rw [this,List.getElem?_map] at hz
    cases hj:q.cells[j]? with
    | none=>rw [hj] at hz;cases hz
    | some z' =>
     rw [hj] at hz;injection hz with hz;subst hz
     have:=hc j u z' hu hj
     unfold bh at this;rw [hp] at this
     exact ok.all this
 ·rw [jT] at hi
  by_cases e:i=y
  ·rw [if_pos e] at hi
   cases hl:look s.H x with
   | none=>simp [cz,e,h.only x hl]
   | some q=>rw [hl] at hi;cases hi
  ·rw [if_neg e] at hi
   by_cases e2:i=x
   ·simp [cz,e2,cT]
   ·rw [if_neg e2] at hi
    cases hl:look s.H i with
    | none=>simp [cz,e,e2,h.only i hl]
    | some q=>rw [hl] at hi;cases hi
 ·obtain ⟨i',h1,h2,h3⟩:=mr i g hi
  obtain ⟨j',h4,h5,h6⟩:=mr j g hj
  have e:=h.inj i' j' g h1 h4
  by_cases ei:i=y<;>by_cases ej:j=y
  ·rw [ei,ej]
  ·have:=h2 ei;have:=h6 ej
   have:j=x:=aj
   subst this
   simp [cz,cT] at hj
  ·have:=h3 ei;have:=h5 ej
   have:i=x:=aj
   subst this
   simp [cz,cT] at hi
  ·have:=h3 ei;have:=h6 ej;omega
 ·obtain ⟨j,h1,h2,h3⟩:=mr i g hi
  have:=h.cU j g h1
  refine ⟨⟨?_,this.1.2⟩,this.2⟩
  by_cases e:i=y
  ·exact .inl aj
  ·rw [←h3 e];exact this.1.1
end
inductive Wk where
 | gp (id:Nat)
 | sm (a b:Nat)
 | nil (slot id e:Nat)
 | aa (cB ids:List Nat)
 | loose (id:Nat)
def mG (s:AS):List Nat->List (Nat×AV)
 | []=>[]
 | i::l=>(i,jN s i)::mG s l
def rQ (H:List (Nat×Row)):List Nat->List (Nat×Row)
 | []=>[]
 | i::l=>match look H i with|some r=>(i,r)::rQ H l|none=>rQ H l
def fZ (ids:List Nat):List (Nat×Row)->List Nat
 | []=>[]
 | (k,_)::l=>match ids.any (Nat.beq k) with|true=>fZ ids l|false=>k::fZ ids l
def Du (s:AS) (id:Nat):Option AS:=match look s.H id with|some r=>some ⟨s.F,(id,⟨r.e,r.pure,false,r.cells⟩)::cN s.H id⟩|none=>none
def L6 (s:AS):Wk->Option AS
 | .gp id=>(match look s.H id with|some r=>(match r.pure with|true=>some (gp id r s)|false=>none)|none=>none)
 | .sm x y=>(match Nat.beq x y,Nat.ble y 999999999999 with|false,true=>some (rename x y (cm y s))|_,_=>none)
 | .nil i id e=>(match jN s i with| .nil=>some (lg ⟨(cm id s).F,(id,⟨e,true,false,[]⟩)::(cm id s).H⟩ i (.ref id))|_=>none)
 | .aa is ids=>some ⟨(aT ⟨mG s is,s.H⟩ (fZ ids s.H)).F,rQ (aT ⟨mG s is,s.H⟩ (fZ ids s.H)).H ids⟩
 | .loose id=>Du s id
def wk:List Wk->AS->Option AS
 | [],s=>some s
 | x::l,s=>match L6 s x with|some s1=>wk l s1|none=>none
theorem uf (s:AS):∀(l:List Nat) (i:Nat) (x:AV),look (mG s l) i=some x->x=jN s i
 | [],i,x,h=>by cases h
 | k::l,i,x,h=>by
  simp only [mG,aD] at h
  by_cases e:k=i
  ·rw [if_pos e] at h;injection h with h;rw [←h,e]
  ·rw [if_neg e] at h;exact uf s l i x h
theorem ue (H:List (Nat×Row)):∀(l:List Nat) (i:Nat),look (rQ H l) i=if i∈l then look H i else none
 | [],i=>by simp [rQ,look]
 | k::l,i=>by
  simp only [rQ]
  have ih:=ue H l i
  cases hk:look H k with
  | none =>
   rw [ih]
   by_cases e:i=k
   ·subst e;simp [hk]
   ·simp [e]
  | some r =>
   simp only [aD,ih]
   by_cases e:k=i
   ·subst e;simp [hk]
   ·simp [e,Ne.symm e]
theorem nj (ids:List Nat):∀(H:List (Nat×Row)) (i:Nat),i ∉ ids->look H i=none∨i∈fZ ids H
 | [],i,_=>.inl rfl
 | (k,r)::H,i,hi=>by
  simp only [fZ,aD]
  by_cases e:k=i
  ·subst e
   right
   have:ids.any (Nat.beq k)=false:=by
    cases hb:ids.any (Nat.beq k) with
    | false=>rfl
    | true =>
     obtain ⟨j,hj,JD⟩:=List.any_eq_true.1 hb
     have:=Nat.eq_of_beq_eq_true JD
     subst this;exact absurd hj hi
   rw [this];simp
  ·rw [if_neg e]
   rcases nj ids H i hi with h|h
   ·exact .inl h
   ·right
    split
    ·exact h
    ·simp [h]
theorem sY {I:Info} {S:Nat->Prop} {w:World} {v:Value} (h:Den I S w v .nil):v= .slice none 0 0:=by
 cases h with|rep h=>cases h;rfl
theorem L5 {s s':AS} {x:Wk} (he:L6 s x=some s'):bR s s':=by
 intro S0 w0 n a w ⟨φ,hs⟩
 cases x with
 | gp id =>
  simp only [L6] at he
  split at he
  ·rename_i r hr
   split at he
   ·rename_i hp;cases he;exact ⟨_,hs.Lq hr hp⟩
   ·cases he
  ·cases he
 | sm x y =>
  simp only [L6] at he
  split at he
  ·rename_i hb dd
   cases he
   have cT:x≠y:=Nat.ne_of_beq_eq_false hb
   have dd:=Nat.le_of_ble_eq_true dd
   obtain ⟨cz,h⟩:=(hs.l9 y).J6 x y aj cT (di y)
   exact ⟨cz,h⟩
  ·cases he
 | nil i id e =>
  simp only [L6] at he
  split at he
  ·rename_i hn
   cases he
   have hv:=hs.get i
   rw [hn] at hv
   have HM:a.tmps.getD i undef= .slice none 0 0:=sY hv
   have h1:=hs.l9 id
   have h2:=h1.rB (id:=id) (r:=⟨e,true,false,[]⟩) (di id) rfl
   refine ⟨erase φ id,h2.jL,h2.jO,h2.cV,fun j av hj=>?_,h2.rows,h2.only,h2.inj,h2.cU,h2.apart,h2.new⟩
   rw [qT] at hj
   by_cases e':i=j
   ·rw [if_pos e'] at hj;injection hj with hj;subst hj;subst e'
    rw [HM]
    exact .cC id e (by
     show az ((id,⟨e,true,false,[]⟩)::(cm id s).H) _ id=_
     rw [bq (r:=⟨e,true,false,[]⟩) (by rw [aD,if_pos rfl]),h1.only id (di id)];rfl)
   ·rw [if_neg e'] at hj;exact h2.cB j av hj
  ·cases he
 | aa is ids =>
  simp only [L6] at he
  cases he
  have h1:aG S0 w0 n [] ⟨mG s is,s.H⟩ a w φ:=by
   refine ⟨hs.jL,hs.jO,hs.cV,fun i av hi=>?_,hs.rows,hs.only,hs.inj,hs.cU,hs.apart,hs.new⟩
   rw [uf s is i av hi]
   exact hs.get i
  obtain ⟨cz,h2,-,h3⟩:=j0 (fZ ids s.H) ⟨mG s is,s.H⟩ φ [] h1
  have gb:∀i,i ∉ ids->look (aT ⟨mG s is,s.H⟩ (fZ ids s.H)).H i=none:=fun i hi=>h3 i (nj ids s.H i hi)
  have jT:∀i,look (rQ (aT ⟨mG s is,s.H⟩ (fZ ids s.H)).H ids) i=look (aT ⟨mG s is,s.H⟩ (fZ ids s.H)).H i:=by
   intro i
   rw [ue]
   by_cases hi:i∈ids
   ·rw [if_pos hi]
   ·rw [if_neg hi,gb i hi]
  have hI:az (rQ (aT ⟨mG s is,s.H⟩ (fZ ids s.H)).H ids) cz=az (aT ⟨mG s is,s.H⟩ (fZ ids s.H)).H cz:=by
   funext i;unfold az;rw [jT]
  refine ⟨cz,h2.jL,h2.jO,h2.cV,fun i av hi=>?_,fun i r hr=>?_,fun i hi=>?_,h2.inj,h2.cU,h2.apart,h2.new⟩
  ·simp only [hI];exact h2.cB i av hi
  ·simp only [hI];simp only [jT] at hr;exact h2.rows i r hr
  ·simp only [jT] at hi;exact h2.only i hi
 | loose id =>
  simp only [L6,Du] at he
  split at he
  ·rename_i r hr
   cases he
   have lu:∀i,look ((id,(⟨r.e,r.pure,false,r.cells⟩:Row))::cN s.H id) i=if id=i then some ⟨r.e,r.pure,false,r.cells⟩ else look s.H i:=by
    intro i
    rw [aD,bH]
    by_cases e:id=i<;>simp [e]
   have hI:az ((id,(⟨r.e,r.pure,false,r.cells⟩:Row))::cN s.H id) φ=az s.H φ:=by
    funext i
    unfold az
    rw [lu]
    by_cases e:id=i
    ·subst e;rw [if_pos rfl,hr];rfl
    ·rw [if_neg e]
   refine ⟨φ,hs.jL,hs.jO,hs.cV,fun i av hi=>?_,fun i q hq=>?_,fun i hi=>?_,hs.inj,hs.cU,hs.apart,hs.new⟩
   ·simp only [hI];exact hs.cB i av hi
   ·simp only [hI]
    simp only [lu] at hq
    by_cases e:id=i
    ·subst e
     rw [if_pos rfl] at hq;injection hq with hq;subst hq
     have aN:=hs.rows id r hr
     unfold bN at aN ⊢
     cases cp:φ id with
     | none=>rw [cp] at aN;exact aN
     | some g =>
      rw [cp] at aN
      obtain ⟨cur,te,fr,hg,hf,hl,-,hc⟩:=aN
      exact ⟨cur,te,fr,hg,hf,hl,fun h=>(by cases h),hc⟩
    ·rw [if_neg e] at hq;exact hs.rows i q hq
   ·simp only [lu] at hi
    by_cases e:id=i
    ·rw [if_pos e] at hi;cases hi
    ·rw [if_neg e] at hi;exact hs.only i hi
  ·cases he
theorem vI:∀(l:List Wk) {s s':AS},wk l s=some s'->bR s s'
 | [],s,s',he=>by cases he;exact fun _ _ _ _ _ h=>h
 | x::l,s,s',he=>by
  simp only [wk] at he
  split at he
  ·rename_i s1 h1
   exact fun S0 w0 n a w h=>vI l he S0 w0 n a w (L5 h1 S0 w0 n a w h)
  ·cases he
theorem bf.wk {P:Program} {n:Nat} {c:Code} {Q:Exit->AS->Prop} {s s':AS} (l:List Wk) (he:wk l s=some s') (h:bf P n c Q s'):bf P n c Q s:=bf.oe (vI l he) h
def AU (s:AS):AV->AV->Option (List Nat×List Prop)
 | .val u,.val v=>some ([],[u=v])
 | .nil,.nil=>some ([],[])
 | .nil,.own _ row=>some ([],[row= []])
 | .nil,.sl _ row=>some ([],[row= []])
 | .sl e row,.sl e' ET=>(match Nat.beq e e' with|true=>some ([],[row=ET])|false=>none)
 | .arr cs,.arr JJ=>some ([],[cs=JJ])
 | .ptr row off,.ptr ET B2=>some ([],[row=ET,off=B2])
 | .lB f cs,.lB f' JJ=>(match Nat.beq f f' with|true=>some ([],[cs=JJ])|false=>none)
 | .ref id,.own e row=>(match look s.H id with|some ⟨e',true,_,cells⟩=>(match Nat.beq e e' with|true=>some ([id],[cells=row])|false=>none)|_=>none)
 | .pre id k,.own e row=>(match look s.H id with|some ⟨e',true,_,cells⟩=>(match Nat.beq e e' with|true=>some ([id],[cells.take k=row])|false=>none)|_=>none)
 | .addr id off,.box row=>(match look s.H id,off with|some ⟨_,false,true,cells⟩,0=>(match dR cells with|true=>some ([id],[cells=row])|false=>none)|_,_=>none)
 | _,_=>none
def AO (f:AV->AV->Option (List Nat×List Prop)):List AV->List AV->Option (List Nat×List Prop)
 | [],[]=>some ([],[])
 | x::xs,r::rs=>match f x r,AO f xs rs with|some (a,C),some (b,D)=>some (a++b,C++D)|_,_=>none
 | _,_=>none
def AQ (s:AS):AV->AV->Option (List Nat×List Prop)
 | .agg xs,.agg rs=>AO (AU s) xs rs
 | x,r=>AU s x r
def k8 (s:AS):AV->AV->Option (List Nat×List Prop)
 | .br xs,.br rs=>AO (AQ s) xs rs
 | x,r=>AQ s x r
section
variable {S0:bm} {w0 w:World} {n:Nat} {s:AS} {a:Act} {φ:Nat->Option Nat}
def blocks (φ:Nat->Option Nat):List Nat->List Nat
 | []=>[]
 | i::l=>match φ i with|some g=>g::blocks φ l|none=>blocks φ l
theorem Dg (φ:Nat->Option Nat) (l m:List Nat):blocks φ (l++m)=blocks φ l++blocks φ m:=by
 induction l with
 | nil=>rfl
 | cons i l ih =>
  simp only [List.cons_append,blocks]
  cases φ i<;>simp [ih]
theorem ig {φ:Nat->Option Nat} {g:Nat}:∀ {l:List Nat},g∈blocks φ l-> ∃i∈l,φ i=some g
 | [],h=>by cases h
 | i::l,h=>by
  simp only [blocks] at h
  split at h
  ·rename_i g' i6
   rcases List.mem_cons.1 h with rfl|h
   ·exact ⟨i,by simp,i6⟩
   ·obtain ⟨j,h1,h2⟩:=ig h
    exact ⟨j,by simp [h1],h2⟩
  ·obtain ⟨j,h1,h2⟩:=ig h
   exact ⟨j,by simp [h1],h2⟩
theorem j6 (hs:aG S0 w0 n [] s a w φ):∀ {l:List Nat},l.Nodup->(blocks φ l).Nodup
 | [],_=>List.nodup_nil
 | i::l,h=>by
  rw [List.nodup_cons] at h
  simp only [blocks]
  split
  ·rename_i g hg
   rw [List.nodup_cons]
   refine ⟨fun hm=>?_,j6 hs h.2⟩
   obtain ⟨j,h1,h2⟩:=ig hm
   have:=hs.inj i j g hg h2
   subst this;exact h.1 h1
  ·exact j6 hs h.2
theorem AR (hs:aG S0 w0 n [] s a w φ) {v:Value} {x r:AV} {ids:List Nat} {C:List Prop} (hx:Den (az s.H φ) (aM S0 w φ []) w v x) (hg:AU s x r=some (ids,C)) (hC:bx C):hY (aM S0 w φ []) w v r (blocks φ ids):=by
 have own:∀(id e l c g:Nat) (fu:Bool) (cells row:List AV),look s.H id=some ⟨e,true,fu,cells⟩->φ id=some g->row.length=e*l->l≤c->c≤maxLen->aV w g=e*c->(∀(j:Nat) x,row[j]?=some x->cells[j]?=some x)->hY (aM S0 w φ []) w (.slice (some ⟨g,0,none⟩) l c) (.own e row) (blocks φ [id]):=by
  intro id e l c g fu cells row hr cp hl hc hm gC Ce
  obtain ⟨cur,te,fr,hg,hf,hle,bu⟩:=kv hs hr rfl cp
  have:blocks φ [id]= [g]:=by simp [blocks,cp]
  rw [this]
  exact .own g l c e row cur te fr hg hf hl hc hm (by unfold aV at gC;rw [hg] at gC;exact gC) fun j u x hu hx=>bu j u x hu (Ce j x hx)
 have Hk:∀(id e:Nat),φ id=none->hY (aM S0 w φ []) w (.slice none 0 0) (.own e []) (blocks φ [id]):=by
  intro id e cp
  have:blocks φ [id]= []:=by simp [blocks,cp]
  rw [this];exact .nil e
 unfold AU at hg
 split at hg
 ·cases hg;have:=hC.1;subst this;exact .rep (by cases hx with|rep h=>exact h)
 ·cases hg;exact .rep (by cases hx with|rep h=>exact h)
 ·cases hg;have:=hC.1;subst this;rw [sY hx];exact .nil _
 ·cases hg;have:=hC.1;subst this;rw [sY hx];exact .rep (iL none 0 0 _ (by simp) (by simp) (by simp))
 ·split at hg
  ·rename_i hb
   cases hg
   have:=hC.1
   subst this
   rw [←Nat.eq_of_beq_eq_true hb]
   exact .rep (pa hx)
  ·cases hg
 ·cases hg;have:=hC.1;subst this;exact .rep (by cases hx with|rep h=>exact h)
 ·cases hg
  obtain ⟨h1,h2,-⟩:=hC
  subst h1;subst h2
  exact .rep (by cases hx with|rep h=>exact h)
 ·split at hg
  ·rename_i hb
   cases hg
   have:=hC.1
   subst this
   rw [←Nat.eq_of_beq_eq_true hb]
   exact .rep (by cases hx with|rep h=>exact h)
  ·cases hg
 ·rename_i id e row
  split at hg
  ·rename_i e' fu cells hr
   split at hg
   ·rename_i hb
    have hb:=Nat.eq_of_beq_eq_true hb
    cases hg
    have:=hC.1
    subst this
    subst hb
    cases hx with
    | rep h=>cases h
    | ref _ e2 m g l c hi hm hc hx bZ =>
     obtain ⟨r',il,h1,h2,cp⟩:=aO hi
     rw [hr] at il;injection il with il;subst il
     simp only at h1 h2
     exact own id e l c g fu cells cells hr cp (by rw [h2,hm,h1]) hc hx (by rw [h1];exact bZ) (fun _ _ h=>h)
    | cC _ e2 hi =>
     obtain ⟨r',il,h1,h2,cp⟩:=aO hi
     rw [hr] at il;injection il with il;subst il
     simp only at h2
     have:cells= []:=List.length_eq_zero_iff.1 h2
     subst this
     exact Hk id e cp
   ·cases hg
  ·cases hg
 ·rename_i id k e row
  split at hg
  ·rename_i e' fu cells hr
   split at hg
   ·rename_i hb
    have hb:=Nat.eq_of_beq_eq_true hb
    cases hg
    have:=hC.1
    subst this
    subst hb
    cases hx with
    | rep h=>cases h
    | pre _ _ e2 m g l c hi hn hm hc hx bZ =>
     obtain ⟨r',il,h1,h2,cp⟩:=aO hi
     rw [hr] at il;injection il with il;subst il
     simp only at h1 h2
     exact own id e l c g fu cells (cells.take k) hr cp (by rw [List.length_take,h2,h1,←hn];omega) hc hx (by rw [h1];exact bZ) (fun j x h=>bY _ _ _ _ h)
    | dw _ e2 hi =>
     obtain ⟨r',il,h1,h2,cp⟩:=aO hi
     simp only [List.take_zero]
     exact Hk id e cp
   ·cases hg
  ·cases hg
 ·rename_i id off row
  split at hg
  ·rename_i e cells hr
   split at hg
   ·rename_i hp
    cases hg
    have:=hC.1
    subst this
    obtain ⟨e2,m,g,hi,hv⟩:=jK hx
    obtain ⟨r',il,h1,h2,cp⟩:=aO hi
    have aN:=hs.rows id _ hr
    rw [cp] at aN
    obtain ⟨cur,te,fr,u1,u2,u3,u4,u5⟩:=aN
    have:blocks φ [id]= [g]:=by simp [blocks,cp]
    rw [this,hv]
    refine .box g cells cur te fr u1 u2 (u4 rfl) fun j u x hu hx=>?_
    have hd:Den (az s.H φ) (aM S0 w φ []) w u x:=u5 j u x hu hx
    exact (eE hd (iz hp hx)).1
   ·cases hg
  ·cases hg
 ·cases hg
theorem uH {f:AV->AV->Option (List Nat×List Prop)} {R:Value->AV->List Nat->Prop} (hf:∀v x r ids C,Den (az s.H φ) (aM S0 w φ []) w v x->f x r=some (ids,C)->bx C->R v r (blocks φ ids)):∀(vs:List Value) (xs rs:List AV) (ids:List Nat) (C:List Prop),vs.length=xs.length->(∀(j:Nat) v c,vs[j]?=some v->xs[j]?=some c->Den (az s.H φ) (aM S0 w φ []) w v c)->AO f xs rs=some (ids,C)->bx C->kR R vs rs (blocks φ ids)
 | vs,[],rs,ids,C,hl,hd,hg,hC=>by
  cases vs with
  | cons=>simp at hl
  | nil =>
   cases rs with
   | nil=>cases hg;exact .nil
   | cons=>cases hg
 | vs,x::xs,[],ids,C,hl,hd,hg,hC=>by cases hg
 | [],x::xs,r::rs,ids,C,hl,hd,hg,hC=>by simp at hl
 | v::vs,x::xs,r::rs,ids,C,hl,hd,hg,hC=>by
  simp only [AO] at hg
  split at hg
  ·rename_i a C1 b D h1 h2
   cases hg
   obtain ⟨iH,hD⟩:=bQ.1 hC
   rw [Dg]
   exact .cons (hf v x r a C1 (hd 0 v x rfl rfl) h1 iH) (uH hf vs xs rs b D (by simpa using hl) (fun j v c hv hc=>hd (j+1) v c (by simpa using hv) (by simpa using hc)) h2 hD)
  ·cases hg
theorem AP (hs:aG S0 w0 n [] s a w φ) {v:Value} {x r:AV} {ids:List Nat} {C:List Prop} (hx:Den (az s.H φ) (aM S0 w φ []) w v x) (hg:AQ s x r=some (ids,C)) (hC:bx C):nJ (aM S0 w φ []) w v r (blocks φ ids):=by
 unfold AQ at hg
 split at hg
 ·obtain ⟨vs,rfl,hl,hd⟩:=ka hx
  exact .inr ⟨vs,_,rfl,rfl,uH (f:=AU s) (R:=hY (aM S0 w φ []) w) (fun v x r ids C h1 h2 h3=>AR hs h1 h2 h3) vs _ _ ids C hl hd hg hC⟩
 ·exact .inl (AR hs hx hg hC)
theorem p7 (hs:aG S0 w0 n [] s a w φ) {v:Value} {x r:AV} {ids:List Nat} {C:List Prop} (hx:Den (az s.H φ) (aM S0 w φ []) w v x) (hg:k8 s x r=some (ids,C)) (hC:bx C):sF (aM S0 w φ []) w v r (blocks φ ids):=by
 unfold k8 at hg
 split at hg
 ·obtain ⟨vs,rfl,hl,hd⟩:=yp hx
  exact .inr ⟨vs,_,rfl,rfl,uH (f:=AQ s) (R:=nJ (aM S0 w φ []) w) (fun v x r ids C h1 h2 h3=>AP hs h1 h2 h3) vs _ _ ids C hl hd hg hC⟩
 ·exact .inl (AP hs hx hg hC)
end
def GV (P:Program) (s:AS):ResultVar->Option (AV×List Prop)
 | .tmp t=>some (jN s t,[])
 | .cell x t=>(match jN s x with
  | .addr id off=>(match look s.H id with
   | some r=>(match HH P t,r.pure,off with
    | true,true,0=>(match ea P t with|some z=>some (.arr r.cells,[r.cells.length=z])|none=>none)
    | _,_,_=>o9 P t r.pure r.cells off {})
   | none=>none)
  | _=>none)
def EU (P:Program) (s:AS):List ResultVar->Option (List AV×List Prop)
 | []=>some ([],[])
 | x::l=>match GV P s x,EU P s l with|some (y,C),some (m,D)=>some (y::m,C++D)|_,_=>none
def nA (P:Program) (s:AS) (rs:List ResultVar) (r:AV):Option (List Prop) :=
 match EU P s rs with
 | some (xs,C)=>(match (match xs with| [x]=>k8 s x r|xs=>k8 s (.br xs) r) with
  | some (ids,D)=>(match nodupB ids with|true=>some (C++D)|false=>none)
  | none=>none)
 | none=>none
section
variable {P:Program} {S0:bm} {w0 w:World} {n:Nat} {s:AS} {a:Act} {φ:Nat->Option Nat}
def m_ (a:Act):ResultVar->Sem Value
 | .tmp t=>pure (a.tmps.getD t undef)
 | .cell b t=>do loadVar t (←asAddr (a.tmps.getD b undef))
theorem GU (hs:aG S0 w0 n [] s a w φ) {x:ResultVar} {y:AV} {C:List Prop} (he:GV P s x=some (y,C)) (hC:bx C) :
  ∃v,(m_ a x).run P w= .ok v w∧Den (az s.H φ) (aM S0 w φ []) w v y:=by
 cases x with
 | tmp t=>cases he;exact ⟨_,rfl,hs.get t⟩
 | cell b t =>
  simp only [GV] at he
  split at he
  ·rename_i id off hb
   split at he
   ·rename_i r hr
    have hx:=hs.get b
    rw [hb] at hx
    obtain ⟨e,m,g,hi,hv⟩:=jK hx
    obtain ⟨r',il,-,-,cp⟩:=aO hi
    obtain ⟨cur,te,fr,hg,hf,hle,hc⟩:=BN hs hr cp
    have rd:∀(z:AV×List Prop) (h:Hint),o9 P t r.pure r.cells off h=some z->bx z.2-> ∃v,(m_ a (.cell b t)).run P w= .ok v w∧Den (az s.H φ) (aM S0 w φ []) w v z.1:=by
     intro z h hz Va
     obtain ⟨v,h1,h2⟩:=rh (I:=az s.H φ) (S:=aM S0 w φ []) hz Va ⟨g,off,none⟩ cur.toList hle (fun j u hu=>by rw [lY,cell_of_row w g _ cur te fr hg];simpa using hu) (fun j u x hu hx=>hc j u x (by simpa using hu) hx)
     exact ⟨v,by simp only [m_];rw [hv];simp [asAddr,h1],h2⟩
    split at he
    ·rename_i sw hp
     split at he
     ·rename_i z hz
      cases he
      have hlen:=hC.1
      unfold HH at sw
      split at sw
      ·rename_i k el hu
       refine rd (.arr r.cells,[(r.cells.drop 0).take z=r.cells,r.cells.length=z]) {av:=some (.arr r.cells)} ?_ ⟨by rw [List.drop_zero,List.take_of_length_le aj],hlen,trivial⟩
       unfold o9
       rw [hz,hu,hp]
      ·cases sw
     ·cases he
    ·exact rd _ _ he hC
   ·cases he
  ·cases he
theorem xc (hs:aG S0 w0 n [] s a w φ):∀(l:List ResultVar) (ys:List AV) (C:List Prop),EU P s l=some (ys,C)->bx C ->
  ∃vs:List Value,(l.mapM (m_ a)).run P w= .ok vs w∧vs.length=ys.length∧ ∀(j:Nat) v c,vs[j]?=some v->ys[j]?=some c->Den (az s.H φ) (aM S0 w φ []) w v c
 | [],ys,C,he,hC=>by cases he;exact ⟨[],rfl,rfl,fun j v c hv=>by simp at hv⟩
 | x::l,ys,C,he,hC=>by
  simp only [EU] at he
  split at he
  ·rename_i y C1 m D h1 h2
   cases he
   obtain ⟨iH,hD⟩:=bQ.1 hC
   obtain ⟨v,My,Mx⟩:=GU hs h1 iH
   obtain ⟨vs,h3,h4,h5⟩:=xc hs l m D h2 hD
   refine ⟨v::vs,?_,by simp [h4],fun j u c hu hc=>?_⟩
   ·rw [List.mapM_cons,Sem.run_bind,My]
    simp only [Result.andThen_ok]
    rw [Sem.run_bind,h3]
    rfl
   ·cases j with
    | zero=>simp at hu hc;subst hu;subst hc;exact Mx
    | succ j=>exact h5 j u c (by simpa using hu) (by simpa using hc)
  ·cases he
theorem IB (hs:aG S0 w0 n [] s a w φ) {fn:Func} {r:AV} {C:List Prop} (he:nA P s fn.results.toList r=some C) (hC:bx C) :
  ∃v O,(results fn a.tmps).run P w= .ok v w∧O.Nodup∧(∀g∈O,∃i,φ i=some g)∧sF (aM S0 w φ []) w v r O:=by
 unfold nA at he
 split at he
 ·rename_i xs C1 hr
  split at he
  ·rename_i ids D hg
   split at he
   ·rename_i hn
    cases he
    obtain ⟨iH,hD⟩:=bQ.1 hC
    obtain ⟨vs,ct,hl,hd⟩:=xc hs _ _ _ hr iH
    have hm:(fn.results.mapM (m_ a)).run P w= .ok vs.toArray w:=by
     rw [Array.mapM_eq_mapM_toList,Sem.run_map,ct];rfl
    have HT:(results fn a.tmps).run P w= .ok (if h:vs.toArray.size=1 then vs.toArray[0] else .tuple vs.toArray) w:=by
     have he:results fn a.tmps=(do let vs ←fn.results.mapM (m_ a);pure (if h:vs.size=1 then vs[0] else .tuple vs):Sem Value):=by
      unfold results
      congr 1
     rw [he,Sem.run_bind,hm]
     rfl
    refine ⟨_,blocks φ ids,HT,j6 hs (iB hn),fun g hg=>(ig hg).imp fun i h=>h.2,?_⟩
    split at hg
    ·rename_i x
     cases vs with
     | nil=>simp at hl
     | cons v vs =>
      have:vs= []:=by simpa using hl
      subst this
      exact p7 hs (hd 0 v x rfl rfl) hg hD
    ·rename_i cT
     have dq:¬vs.toArray.size=1:=by
      intro h1
      have h2:xs.length=1:=by rw [←hl];simpa using h1
      obtain ⟨x,rfl⟩:=List.length_eq_one_iff.1 h2
      exact cT x rfl
     rw [dif_neg dq]
     exact p7 hs (.br vs xs hl hd) hg hD
   ·cases he
  ·cases he
 ·cases he
end
def kP:Nat->List AV->List (Nat×AV)
 | _,[]=>[]
 | i,x::l=>(i,x)::kP (i+1) l
theorem mi:∀(l:List AV) (i j:Nat) (x:AV),look (kP i l) j=some x-> ∃k,j=i+k∧l[k]?=some x
 | [],i,j,x,h=>by cases h
 | y::l,i,j,x,h=>by
  simp only [kP,aD] at h
  by_cases e:i=j
  ·rw [if_pos e] at h;exact ⟨0,aj,by simpa using h⟩
  ·rw [if_neg e] at h
   obtain ⟨k,h1,h2⟩:=mi l (i+1) j x h
   exact ⟨k+1,aj,by simpa using h2⟩
def vG (P:Program) (rs:List ResultVar) (r:AV):Exit->AS->Prop
 | .normal,s=>∃C,nA P s rs r=some C∧bx C
 | .ret,s=>∃C,nA P s rs r=some C∧bx C
 | _,_=>False
theorem mm {P:Program} {fn:Func} {tmps:Array Value} {R:Ending->World->Prop}:∀(ms:List Nat) (w:World),ms.Nodup->(∀r∈ms,w.heap[r]?=some (.deferred (some []))) ->
  (∀w',w'.os=w.os->w'.tape=w.tape->w'.output=w.output->w'.heap.size=w.heap.size->(∀b,b ∉ ms->w'.heap[b]?=w.heap[b]?)-> ∃v,(results fn tmps).run P w'= .ok v w'∧R (.returned v) w') ->
  LeavesInM Fence.wide 0 P fn tmps R (ms.map mark) .returning w
 | [],w,_,_,h=>h w rfl rfl rfl rfl fun _ _=>rfl
 | r::ms,w,nd,hm,h=>by
  rw [List.nodup_cons] at nd
  refine ⟨by simp,.inl ⟨r,w.putObj r (.deferred none),rfl,run_takeDeferred (hm r (by simp)),?_⟩⟩
  refine mm ms _ nd.2 (fun r' il=>?_) (fun w' h1 h2 h3 h4 h5=>h w' h1 h2 h3 (by rw [h4];exact World.putObj_size) fun b hb=>?_)
  ·rw [World.putObj_heap_other fun e=>nd.1 (by rw [←e];exact il)];exact hm r' (by simp [il])
  ·simp only [List.mem_cons,not_or] at hb
   rw [h5 b hb.2,World.putObj_heap_other hb.1]
theorem mP.close {Z:bm} {w w' fp:World} {n:Nat} {s:AS} {a:Act} (hd:Z.r8= []) (lP:∀b,(w.heap.size≤b∨Z.X b)->Z.S b) {S1:bm} {w1:World} {ms:List Nat} (hE:kV Z w S1 w1 ms) {φ:Nat->Option Nat} (hs:aG S1 w1 n [] s a w' φ)
  (h1:fp.os=w'.os) (h2:fp.tape=w'.tape) (h3:fp.output=w'.output) (h4:fp.heap.size=w'.heap.size) (h5:∀b,b ∉ ms->fp.heap[b]?=w'.heap[b]?):aG Z w n [] s ⟨a.tmps,[]⟩ fp φ:=by
 have hS:∀b,S1.S b->fp.heap[b]?=w'.heap[b]?:=fun b hb=>h5 b fun hm=>(hE.marks b hm).2.2.2.1 hb
 have hF:∀b,aM S1 w' φ [] b->aM Z fp φ [] b∧fp.heap[b]?=w'.heap[b]?:=fun b hb=>⟨⟨by rw [h4];exact hb.1,hb.2.1,hb.2.2.1,hE.sub b hb.2.2.2⟩,hS b hb.2.2.2⟩
 have cp:∀id g,φ id=some g->fp.heap[g]?=w'.heap[g]?:=fun id g hg=>hS g (hs.new g (hs.cU id g hg).1.2)
 have hL:∀id e m g,az s.H φ id=some (e,m,some g)->aV fp g=aV w' g:=fun id e m g hi=>by
  obtain ⟨_,-,-,-,hg⟩:=aO hi
  unfold aV;rw [cp id g hg]
 refine ⟨hs.jL,hd.symm,?_,fun i av hi=>(hs.cB i av hi).mono (fun _ _ h=>h) hF hL,fun id r hr=>?_,hs.only,hs.inj,fun id g hg=>⟨⟨?_,?_⟩,by rw [h4];exact (hs.cU id g hg).2⟩,fun _ _ _ h=>(by cases h),lP⟩
 ·have k:=hE.kept.trans hs.cV hE.X
  exact ⟨h1.trans k.os,h2.trans k.tape,h3.trans k.output,by rw [h4];exact k.size,fun b hb hx=>(h5 b fun hm=>by have:=(hE.marks b hm).1;omega).trans (k.block b hb hx),k.g0,k.gx⟩
 ·have aN:=hs.rows id r hr
  unfold bN at aN ⊢
  cases hg:φ id with
  | none=>rw [hg] at aN;exact aN
  | some g =>
   rw [hg] at aN
   obtain ⟨cur,te,fr,u1,u2,u3,u4,u5⟩:=aN
   refine ⟨cur,te,fr,(cp id g hg).trans u1,u2,u3,u4,fun j u x hu hx=>?_⟩
   have:=u5 j u x hu hx
   unfold bh at this ⊢
   cases hp:r.pure with
   | true=>rw [hp] at this;exact this.mono hF
   | false=>rw [hp] at this;exact this.mono (fun _ _ h=>h) hF hL
 ·exact (hs.cU id g hg).1.1.imp (fun h=>h) fun h=>by rw [←hE.fix];exact h
 ·rcases (hs.cU id g hg).1.2 with h|h
  ·exact .inl (Nat.le_trans hE.kept.size h)
  ·exact hE.X g h
theorem qm {P:Program} {f:FuncId} {fn:Func} {c:Code} {args:Array Value} {w:World} {R:Ending->World->Prop} (hf:P.funcs[f]?=some fn) (hb:fn.body=some c) {Z:bm} {n:Nat} (hd:Z.r8= []) (lP:∀b,(w.heap.size≤b∨Z.X b)->Z.S b) {Q:Exit->AS->Prop} (hQ:∀e s,Q e s->e= .normal∨e= .ret)
  (h:BB P c (fun e a' w'=>∃s',Q e s'∧mP Z w n s' a' w') {tmps:=args++Array.replicate (fn.ntmps-args.size) undef,defers:=[]} w)
  (j8:∀e s' (a':Act) w',Q e s'->a'.defers= []->iv Z w n s' a' w'-> ∃v,(results fn a'.tmps).run P w'= .ok v w'∧R (.returned v) w'):Calls P f args w R:=by
 refine callsIn_wide.1 (callsIn_of_wp_marks (F:=Fence.wide) (n:=0) hf hb trivial ?_)
 refine wpIn_wide.2 (wp_mono (ks _ _ _ _ h) fun e a' w' ⟨s',hq,S1,w1,ms,hE,φ,hs⟩=>?_)
 have fin:LeavesInM Fence.wide 0 P fn a'.tmps R a'.defers .returning w':=by
  have MW:a'.defers=ms.map mark:=by rw [hs.jO,hE.r8,hd,List.append_nil]
  rw [MW]
  refine mm ms w' hE.nodup (fun r hr=>?_) (fun fp h1 h2 h3 h4 h5=>j8 e s' ⟨a'.tmps,[]⟩ fp hq rfl ⟨φ,mP.close hd lP hE hs h1 h2 h3 h4 h5⟩)
  obtain ⟨-,k2,k3,-,k5⟩:=hE.marks r hr
  exact (hs.cV.block r k2 k5).trans k3
 rcases hQ e s' hq with rfl|rfl
 ·exact fin
 ·exact fin
theorem bK.pO {P:Program} {f:FuncId} {fn:Func} {c:Code} {args:List AV} {r:AV} (hf:P.funcs[f]?=some fn) (hb:fn.body=some c) (n:Nat) (hn:fn.ntmps=n) (iC:args.length≤n) (h:bf P n c (vG P fn.results.toList r) ⟨kP 0 args,[]⟩):bK P f args r:=by
 intro w S vs jU hS hl b7
 let Z:bm:=⟨fun b=>S b∨w.heap.size≤b,fun _=>False,fun _=>none,[]⟩
 have LN:aG Z w n [] ⟨kP 0 args,[]⟩ {tmps:=vs.toArray++Array.replicate (fn.ntmps-vs.toArray.size) undef,defers:=[]} w (fun _=>none):=by
  refine ⟨by simp;omega,rfl,⟨rfl,rfl,rfl,Nat.le_refl _,fun _ _ _=>rfl,jU,fun _ _ h=>h⟩,fun i av hi=>?_,fun id r hr=>(by cases hr),fun _ _=>rfl,fun _ _ _ h=>(by cases h),fun _ _ h=>(by cases h),fun _ _ h=>(by cases h),fun b hb=>Or.inr (hb.elim id fun h=>h.elim)⟩
  obtain ⟨k,rfl,hk⟩:=mi args 0 i av hi
  have iF:k<vs.length:=by have:=(List.getElem?_eq_some_iff.1 hk).1;omega
  have hv:vs[k]?=some vs[k]:=List.getElem?_eq_getElem iF
  have e:(vs.toArray++Array.replicate (fn.ntmps-vs.toArray.size) undef).getD (0+k) undef=vs[k]:=by
   rw [Nat.zero_add,Array.getD_eq_getD_getElem?,Array.getElem?_append_left (by simpa using iF)]
   simp [iF]
  simp only [e]
  exact .rep ((b7 k vs[k] av hv hk).mono fun b hb=>⟨⟨hS b hb,by simp,fun _ h=>(by cases h),Or.inl hb⟩,rfl⟩)
 refine qm hf hb (Z:=Z) rfl (fun b hb=>Or.inr (hb.elim id fun h=>h.elim)) (Q:=vG P fn.results.toList r) (fun e s hq=>by cases e<;>first|exact .inl rfl|exact .inr rfl|exact hq.elim) (h Z w _ w ⟨_,LN⟩) fun e s' a' w' hq hd ⟨φ,bZ⟩=>?_
 have hq:∃C,nA P s' fn.results.toList r=some C∧bx C:=by cases e<;>first|exact hq|exact hq.elim
 obtain ⟨C,he,hC⟩:=hq
 obtain ⟨v,O,ct,im,hO,hg⟩:=IB bZ he hC
 refine ⟨v,ct,v,O,rfl,bZ.cV.below (fun _ h=>h),im,fun g hg=>?_,hg.mono fun b hb=>?_⟩
 ·obtain ⟨i,hi⟩:=hO g hg
  exact ⟨(bZ.cU i g hi).1.2.elim id fun h=>h.elim,(bZ.cU i g hi).2⟩
 ·rcases hb.2.2.2 with h1|h1
  ·exact .inl h1
  ·exact .inr ⟨h1,hb.1,fun hm=>by obtain ⟨i,hi⟩:=hO b hm;exact hb.2.2.1 i hi⟩
def dm (fn:Func):Code:=match fn.body with|some c=>c|none=>.skip
theorem bK.Hg {P:Program} {f:FuncId} {fn:Func} {args:List AV} {r:AV} (hf:P.funcs[f]?=some fn) (hb:fn.body.isSome=true) (n:Nat) (hn:fn.ntmps=n) (iC:Nat.ble args.length n=true) (h:bf P n (dm fn) (vG P fn.results.toList r) ⟨kP 0 args,[]⟩):bK P f args r:=by
 cases uE:fn.body with
 | none=>rw [uE] at hb;cases hb
 | some c =>
  have:dm fn=c:=by unfold dm;rw [uE]
  rw [this] at h
  exact bK.pO hf uE n hn (Nat.le_of_ble_eq_true iC) h
theorem bf.na {P:Program} {n:Nat} {c:Code} {Q:Exit->AS->Prop} {s s':AS} {C:List Prop} (k:Nat) (l:List pn) (hk:Nat.beq l.length k=true) (he:kJ P n l c s=some (s',C)) (hC:bx C) (h:bf P n (qf k c) Q s'):bf P n c Q s:=by
 rw [←Nat.eq_of_beq_eq_true hk] at h
 exact bf.Ox l he hC h
theorem vG.J3 {P:Program} {rs:List ResultVar} {r:AV} {s:AS} {C:List Prop} (he:nA P s rs r=some C) (hC:bx C):vG P rs r .ret s:=⟨C,he,hC⟩
section
variable {P:Program} {n:Nat} {c:Code} {Q:Exit->AS->Prop} {K:AS->Prop} {s s1 s2:AS}
theorem bf.I_ {x:Operand} {b:Bool} (hc:k_ c=some x) (hx:bp s x= .val (.bool b)) (hb:b=true) (h:bf P n (ox c) Q s):bf P n c Q s:=bf.cond hc hx (fun _=>h) (fun e=>by rw [hb] at e;cases e)
theorem bf.Ja {x:Operand} {b:Bool} (hc:k_ c=some x) (hx:bp s x= .val (.bool b)) (hb:b=false) (h:bf P n (oH c) Q s):bf P n c Q s:=bf.cond hc hx (fun e=>by rw [hb] at e;cases e) (fun _=>h)
theorem bf.PX {x:Operand} {p:Prop} [Decidable p] (hc:k_ c=some x) (hx:bp s x= .val (.bool (decide p))) (ht:p->bf P n (ox c) Q s) (hf:¬p->bf P n (oH c) Q s):bf P n c Q s:=bf.cond hc hx (fun e=>ht (of_decide_eq_true e)) (fun e=>hf (of_decide_eq_false e))
theorem bf.Jb {α:Type} [BEq α] [LawfulBEq α] {x:Operand} {u v:α} (hc:k_ c=some x) (hx:bp s x= .val (.bool (u == v))) (ht:u=v->bf P n (ox c) Q s) (hf:u≠v->bf P n (oH c) Q s):bf P n c Q s:=bf.cond hc hx (fun e=>ht (eq_of_beq e)) (fun e=>hf (by simpa using e))
theorem bf.PW {α:Type} [BEq α] [LawfulBEq α] {x:Operand} {u v:α} (hc:k_ c=some x) (hx:bp s x= .val (.bool (u != v))) (ht:u≠v->bf P n (ox c) Q s) (hf:u=v->bf P n (oH c) Q s):bf P n c Q s:=bf.cond hc hx (fun e=>ht (by simpa using e)) (fun e=>hf (by simpa using e))
theorem bf.join (J:AS) (hc:Ao c=true) (h1:bf P n (iq c) (rD (fun s'=>bR s' J) Q) s) (h2:bf P n (dA c) Q J):bf P n c Q s:=by
 refine bf.seq hc (h1.mono fun e s' hq=>?_)
 cases e with
 | normal=>exact bf.oe hq h2
 | _=>exact hq
theorem bf.k7 {ι:Type} (J:ι->AS) (Inv:ι->Prop) (hc:Ao c=true) (h1:bf P n (iq c) (rD (fun s'=>∃x,Inv x∧bR s' (J x)) Q) s) (h2:∀x,Inv x->bf P n (dA c) Q (J x)):bf P n c Q s :=
 bf.seq hc (bf.mono h1 fun e s' h=>by
  cases e with
  | normal=>obtain ⟨x,hx,hw⟩:=h;exact bf.oe hw (h2 x hx)
  | exit _=>exact h
  | ret=>exact h
  | _=>exact h)
theorem ak (h:K s):rD K Q .normal s:=h
theorem a_ {id:Nat} (h:Q (.exit id) s):rD K Q (.exit id) s:=h
theorem aK (h:Q .ret s):rD K Q .ret s:=h
theorem aL {id:Nat} (h:Q .normal s):ND id Q .normal s:=h
theorem bc {id:Nat} (h:Q .ret s):ND id Q .ret s:=h
theorem bo {id:Nat} (h:Q .normal s):ND id Q (.exit id) s:=by show (if _ then _ else _);rw [if_pos rfl];exact h
theorem OM {id i:Nat} (hi:Nat.beq i id=false) (h:Q (.exit i) s):ND id Q (.exit i) s:=by show (if _ then _ else _);rw [if_neg (Nat.ne_of_beq_eq_false hi)];exact h
theorem bR.of (l:List Wk) (he:wk l s=some s1) (e:s1=s2):bR s s2:=e ▸ vI l he
theorem aH {ι:Type} {I:ι->AS} {Inv:ι->Prop} {m:ι->Nat} {x:ι} (y:ι) (h1:Inv y) (h2:m y<m x) (h3:bR s (I y)):Round I Inv m Q x .normal s:=⟨y,h1,h2,h3⟩
theorem aP {ι:Type} {I:ι->AS} {Inv:ι->Prop} {m:ι->Nat} {x:ι} {id:Nat} (h:Q (.exit id) s):Round I Inv m Q x (.exit id) s:=h
theorem dz {ι:Type} {I:ι->AS} {Inv:ι->Prop} {m:ι->Nat} {x:ι} (h:Q .ret s):Round I Inv m Q x .ret s:=h
end
def u64 (n:Int):UInt64:=UInt64.ofInt n
def u8 (n:Int):UInt8:=UInt8.ofInt n
theorem y0 (n:Int):IntKind.u64.wrap n=wv (u64 n):=by
 unfold wv u64;rw [IntKind.wrap_u64]
 simp [UInt64.ofInt]
 omega
theorem Jh (n:Int):IntKind.u8.wrap n=bv (u8 n):=by
 unfold bv u8;rw [IntKind.wrap_u8]
 simp [UInt8.ofInt]
 omega
abbrev aw (x:UInt64):AV:=.val (.int .u64 (wv x))
abbrev ab (x:UInt8):AV:=.val (.int .u8 (bv x))
abbrev ai (n:Int):AV:=.val (.int .i64 n)
abbrev ao (b:Bool):AV:=.val (.bool b)
abbrev cZ (s:List UInt8):AV:=.val (.string ⟨s.toArray⟩)
theorem d_ {n:Int} (h1: -9223372036854775808≤n) (h2:n≤9223372036854775807):AV.val (.int .i64 (IntKind.i64.wrap n))= .val (.int .i64 n):=by
 rw [show IntKind.i64.wrap n=n by rw [IntKind.wrap_i64];omega]
theorem a8 (n:Int):AV.val (.int .u64 (IntKind.u64.wrap n))=aw (u64 n):=by rw [y0]
theorem iW (n:Int):AV.val (.int .u8 (IntKind.u8.wrap n))=ab (u8 n):=by rw [Jh]
theorem Di (c:UInt8):AV.val (.int .u64 (IntKind.u64.wrap (bv c)))=aw c.toUInt64:=by
 rw [PZ,show IntKind.u64.wrap (wv c.toUInt64)=wv c.toUInt64 by have:=On c.toUInt64;have:=Lm c.toUInt64;rw [IntKind.wrap_u64];omega]
theorem iV (x y:UInt64):AV.val (.int .u64 (IntKind.u64.wrap ((BitVec.ofInt IntKind.u64.bits (wv x)&&&BitVec.ofInt IntKind.u64.bits (wv y)).toNat:Nat)))=aw (x&&&y):=congrArg (fun n=>AV.val (.int .u64 n)) (L3 x y)
theorem pg (x y:UInt64):AV.val (.int .u64 (IntKind.u64.wrap ((BitVec.ofInt IntKind.u64.bits (wv x)|||BitVec.ofInt IntKind.u64.bits (wv y)).toNat:Nat)))=aw (x|||y):=congrArg (fun n=>AV.val (.int .u64 n)) (Om x y)
theorem cL (x y:UInt64):AV.val (.int .u64 (IntKind.u64.wrap ((BitVec.ofInt IntKind.u64.bits (wv x)^^^BitVec.ofInt IntKind.u64.bits (wv y)).toNat:Nat)))=aw (x^^^y):=congrArg (fun n=>AV.val (.int .u64 n)) (LW x y)
theorem Li (x y:UInt8):AV.val (.int .u8 (IntKind.u8.wrap ((BitVec.ofInt IntKind.u8.bits (bv x)&&&BitVec.ofInt IntKind.u8.bits (bv y)).toNat:Nat)))=ab (x&&&y):=congrArg (fun n=>AV.val (.int .u8 n)) (bv_and x y)
theorem Ex (x y:UInt8):AV.val (.int .u8 (IntKind.u8.wrap ((BitVec.ofInt IntKind.u8.bits (bv x)^^^BitVec.ofInt IntKind.u8.bits (bv y)).toNat:Nat)))=ab (x^^^y):=congrArg (fun n=>AV.val (.int .u8 n)) (Ns x y)
theorem fg (x:UInt64) (n:Int) (h0:0≤n) (h1:n<64):AV.val (.int .u64 ((wv x).fdiv (2^min n.toNat IntKind.u64.bits)))=aw (x>>>UInt64.ofNat n.toNat):=by
 rw [show min n.toNat IntKind.u64.bits=n.toNat from Nat.min_eq_left (by show n.toNat≤64;omega),Int.fdiv_eq_ediv_of_nonneg _ (Int.pow_nonneg (by decide)),LX x n.toNat aj]
theorem jx (x:UInt64) (n:Int) (h0:0≤n) (h1:n<64):AV.val (.int .u64 (IntKind.u64.wrap (wv x*2^min n.toNat IntKind.u64.bits)))=aw (x<<<UInt64.ofNat n.toNat):=by
 rw [show min n.toNat IntKind.u64.bits=n.toNat from Nat.min_eq_left (by show n.toNat≤64;omega),LY x n.toNat aj]
theorem Nt (x:UInt8) (k:Nat) (hk:k<8):bv x/2^k=bv (x>>>UInt8.ofNat k):=by
 unfold bv
 rw [UInt8.toNat_shiftRight,UInt8.toNat_ofNat_of_lt' (by show k<2^8;omega),Nat.mod_eq_of_lt hk,Nat.shiftRight_eq_div_pow]
 simp [Int.natCast_ediv,Int.natCast_pow]
theorem Nu (x:UInt8) (k:Nat) (hk:k<8):IntKind.u8.wrap (bv x*2^k)=bv (x<<<UInt8.ofNat k):=by
 unfold bv
 rw [IntKind.wrap_u8,UInt8.toNat_shiftLeft,UInt8.toNat_ofNat_of_lt' (by show k<2^8;omega),Nat.mod_eq_of_lt hk,Nat.shiftLeft_eq]
 simp [Int.natCast_emod,Int.natCast_mul,Int.natCast_pow]
theorem Lg (x:UInt8) (n:Int) (h0:0≤n) (h1:n<8):AV.val (.int .u8 ((bv x).fdiv (2^min n.toNat IntKind.u8.bits)))=ab (x>>>UInt8.ofNat n.toNat):=by
 rw [show min n.toNat IntKind.u8.bits=n.toNat from Nat.min_eq_left (by show n.toNat≤8;omega),Int.fdiv_eq_ediv_of_nonneg _ (Int.pow_nonneg (by decide)),Nt x n.toNat aj]
theorem Lh (x:UInt8) (n:Int) (h0:0≤n) (h1:n<8):AV.val (.int .u8 (IntKind.u8.wrap (bv x*2^min n.toNat IntKind.u8.bits)))=ab (x<<<UInt8.ofNat n.toNat):=by
 rw [show min n.toNat IntKind.u8.bits=n.toNat from Nat.min_eq_left (by show n.toNat≤8;omega),Nu x n.toNat aj]
theorem fm (x y:UInt64):AV.val (.bool (wv x == wv y))=ao (x == y):=by rw [Gk]
theorem cI (x y:UInt64):AV.val (.bool (wv x != wv y))=ao (x != y):=by rw [L1]
theorem Ny (x y:UInt8):AV.val (.bool (bv x == bv y))=ao (x == y):=by rw [bv_beq]
theorem yx {a b:Int} (h:0≤a) (h1:a≤9223372036854775807) (hb:1≤b):AV.val (.int .i64 (IntKind.i64.wrap (a.tdiv b)))=ai (a/b):=by
 rw [Int.tdiv_eq_ediv_of_nonneg h]
 exact d_ (by have:=Int.ediv_nonneg h (by omega:0≤b);omega) (by have:=Int.ediv_le_self b h;omega)
theorem fY (a b:List UInt8):AV.val (.bool ((⟨a.toArray⟩:ByteArray).toList == (⟨b.toArray⟩:ByteArray).toList))=ao (a == b):=by simp
theorem Mb (a b:List UInt8):AV.val (.bool (!((⟨a.toArray⟩:ByteArray).toList == (⟨b.toArray⟩:ByteArray).toList)))=ao (a != b):=by
 have:=fY a b
 injection this with this;injection this with this
 rw [this];rfl
theorem n_ {l:List UInt8} {k:Nat} (h:k<l.length):(ag l)[k]?=some (ab (l.getD k 0)):=by simp [ag,h]
theorem dB {l:List UInt64} {k:Nat} (h:k<l.length):(ah l)[k]?=some (aw (l.getD k 0)):=by simp [ah,h]
theorem lO {l:List Int} {k:Nat} (h:k<l.length):(ax l)[k]?=some (ai (l.getD k 0)):=by simp [ax,h]
theorem cX (a b:List UInt8):ag a++ag b=ag (a++b):=by simp [ag]
theorem ja (a b:List UInt64):ah a++ah b=ah (a++b):=by simp [ah]
theorem Fe (a b:List Int):ax a++ax b=ax (a++b):=by simp [ax]
theorem ko (a:List UInt64) (k:Nat) (c:UInt64):(ah a).set k (aw c)=ah (a.set k c):=by simp [ah,List.map_set]
theorem Fc (a:List Int) (k:Nat) (c:Int):(ax a).set k (ai c)=ax (a.set k c):=by simp [ax,List.map_set]
theorem sd (a:List UInt8) (k:Nat):(ag a).take k=ag (a.take k):=by simp [ag,List.map_take]
theorem se (a:List UInt8) (k:Nat):(ag a).drop k=ag (a.drop k):=by simp [ag,List.map_drop]
theorem ti (n:Nat):List.replicate n (AV.val (.int .u64 0))=ah (List.replicate n 0):=by simp [ah,wv]
theorem ry {n:Int} (h1:0≤n) (h2:n<18446744073709551616):AV.val (.int .u64 (IntKind.u64.wrap n))= .val (.int .u64 n):=by
 rw [show IntKind.u64.wrap n=n by rw [IntKind.wrap_u64];omega]
def af {T:Type} (f:T->List AV) (l:List T):List AV:=l.flatMap f
section
variable {T:Type} {f:T->List AV} {e:Nat}
theorem jh (x:T) (l:List T):af f (x::l)=f x++af f l:=rfl
theorem fB (a b:List T):af f a++af f b=af f (a++b):=by simp [af]
theorem IX (x:T):af f [x]=f x:=by simp [af]
theorem aE (he:∀x,(f x).length=e) (l:List T):(af f l).length=l.length*e:=by
 induction l with
 | nil=>simp [af]
 | cons x l ih=>rw [jh,List.length_append,ih,he,List.length_cons,Nat.succ_mul];omega
theorem nY (he:∀x,(f x).length=e) (l:List T) (k:Nat):(af f l).drop (k*e)=af f (l.drop k):=by
 induction k generalizing l with
 | zero=>simp
 | succ k ih =>
  cases l with
  | nil=>simp [af]
  | cons x l =>
   rw [jh,List.drop_succ_cons,←ih l,Nat.succ_mul,Nat.add_comm,←List.drop_drop,List.drop_append_of_le_length (by rw [he];omega),show List.drop e (f x)= [] from List.drop_eq_nil_of_le (by rw [he];omega),List.nil_append]
theorem nX (he:∀x,(f x).length=e) (l:List T) (k:Nat):(af f l).take (k*e)=af f (l.take k):=by
 induction k generalizing l with
 | zero=>simp [af]
 | succ k ih =>
  cases l with
  | nil=>simp [af]
  | cons x l =>
   rw [jh,List.take_succ_cons,jh,←ih l,Nat.succ_mul,Nat.add_comm,List.take_append,he,show e+k*e-e=k*e by omega,List.take_of_length_le (by rw [he];omega)]
theorem km [Inhabited T] (he:∀x,(f x).length=e) {l:List T} {k:Nat} (hk:k<l.length):((af f l).drop (k*e)).take e=f (l.getD k default):=by
 rw [nY he,List.drop_eq_getElem_cons hk,jh,List.take_append_of_le_length (by rw [he];omega),List.take_of_length_le (by rw [he];omega)]
 simp [hk]
theorem nZ [Inhabited T] (he:∀x,(f x).length=e) {l:List T} {k j:Nat} {c:AV} (hk:k<l.length) (hj:(f (l.getD k default))[j]?=some c):(af f l)[k*e+j]?=some c:=by
 have h1:j<e:=by
  have:=(List.getElem?_eq_some_iff.1 hj).1
  rw [he] at this;exact this
 rw [←km he hk,List.getElem?_take_of_lt h1,List.getElem?_drop] at hj
 exact hj
theorem IW [Inhabited T] (he:∀x,(f x).length=e) {l:List T} {k j z:Nat} {cs:List AV} (hk:k<l.length) (hz:j+z≤e) (hj:((f (l.getD k default)).drop j).take z=cs):((af f l).drop (k*e+j)).take z=cs:=by
 rw [←hj,←km he hk,List.drop_take,List.take_take,Nat.min_eq_left aj,List.drop_drop]
theorem dG (hf:∀x,cH (f x)) (l:List T):cH (af f l):=by
 intro x hx
 simp only [af,List.mem_flatMap] at hx
 obtain ⟨y,_,h⟩:=hx
 exact hf y x h
end
theorem bK.len {P:Program} {f:FuncId} {args:List AV} {r:AV} (i:Nat) {e:Nat} {row:List AV} (hi:args[i]?=some (.sl e row)) (h:row.length≤e*9223372036854775807->bK P f args r):bK P f args r:=by
 intro w S vs jU hS hl hr
 have dd:i<vs.length:=by rw [hl];exact (List.getElem?_eq_some_iff.1 hi).1
 have b7:=hr i vs[i] _ (List.getElem?_eq_getElem dd) hi
 refine h ?_ w S vs jU hS hl hr
 generalize vs[i]=v at b7
 cases b7 with
 | sl A n c e us row hl hn hc hm ha h =>
  rw [hn]
  refine Nat.mul_le_mul_left e ?_
  simp only [maxLen] at hm
  omega
theorem tP {α:Type} (g:Nat->α) (j:Nat):(List.range j).map g++ [g j]=(List.range (j+1)).map g:=by rw [List.range_succ,List.map_append];rfl
theorem gJ {T:Type} {f:T->List AV} (l:List T) (x:T):af f l++f x=af f (l++ [x]):=by rw [←fB,IX]
theorem FJ {T:Type} {f:T->List AV} (g:Nat->T) (j:Nat):af f ((List.range j).map g)++f (g j)=af f ((List.range (j+1)).map g):=by rw [gJ,tP]
end Go.Proofs.YtjgbhhnghedgdaaGreatDoor
namespace Go.Proofs.YtjgbhhnghedgdaaGreatDoor
open Go.RowKit Go.ChangeShapes Go.WideShapes Go.ChangeAt
def oI (P:Program) (t:TypeId) {T:Type} (f:T->List AV) (ok:T->Prop):Prop :=
 ∀(H:Type) (enc:TypeId×Value->H) (w:World) (fuel:Nat) (cs:List Value) (x:DataW H×List MemPlace),DataW.trod enc P w 0 (fun _=>true) true fuel t cs=some x ->
  ∃a,ok a∧(f a).length=cs.length∧ ∀(j:Nat) u y,cs[j]?=some u->(f a)[j]?=some y->cA (fun b=>b<w.heap.size) w u y
def P6 (P:Program) (t:TypeId) {T:Type} (g:T->AV) (ok:T->Prop):Prop :=
 ∀(H:Type) (enc:TypeId×Value->H) (w:World) (base:Nat) (v:Value) (d:DataW H) (ps:List MemPlace),Value.okWide P w .any base t v->DataW.Trod enc P w 0 (fun _=>true) true t v d ps ->
  ∃a,ok a∧cA (fun b=>b<w.heap.size) w v (g a)
section
variable {P:Program} {t:TypeId} {T T':Type} {f:T->List AV} {ok:T->Prop}
theorem oI.map (h:oI P t f ok) (g:T->T') {f':T'->List AV} {SM:T'->Prop} (hf:∀a,ok a->f' (g a)=f a) (ho:∀a,ok a->SM (g a)):oI P t f' SM:=by
 intro H enc w fuel cs x hx
 obtain ⟨a,h1,h2,h3⟩:=h H enc w fuel cs x hx
 exact ⟨g a,ho a h1,by rw [hf a h1];exact h2,by rw [hf a h1];exact h3⟩
theorem oQ {S:Nat->Prop} {w:World} {v:Value} {x:AV} (h:cA S w v x) (j:Nat) (u:Value) (y:AV) (hu:[v][j]?=some u) (hy:[x][j]?=some y):cA S w u y:=by
 cases j with
 | zero=>simp at hu hy;subst hu hy;exact h
 | succ j=>simp at hu
abbrev HJ (n:Int):Prop:= -9223372036854775808≤n∧n≤9223372036854775807
theorem G6 (ht:P.underlying t=some (.int .i64)):oI P t (fun c:Int=>[ai c]) HJ:=by
 intro H enc w fuel cs x hx
 obtain ⟨n,rfl,_,hw⟩:=DataW.trod_int ht hx
 refine ⟨n,?_,rfl,oQ (.val _)⟩
 simpa [Lit.wf,IntKind.min,IntKind.max,IntKind.signed,IntKind.bits] using hw
theorem Hs {α β:Type} {g:α->Option β}:∀ {l:List α} {m:List β},l.mapM g=some m->m.length=l.length∧ ∀(i:Nat) (a:α),l[i]?=some a->g a=m[i]?:=by
 intro l
 induction l with
 | nil=>intro m h;simp at h;subst h;simp
 | cons a l ih =>
  intro m h
  simp only [List.mapM_cons,Option.bind_eq_bind,Option.bind_eq_some_iff,Option.pure_def,Option.some.injEq] at h
  obtain ⟨b,hb,m',hm,rfl⟩:=h
  obtain ⟨h1,h2⟩:=ih hm
  refine ⟨by simp [h1],fun i x hx=>?_⟩
  cases i with
  | zero=>simp at hx;subst hx;simpa using hb
  | succ i=>simpa using h2 i x (by simpa using hx)
theorem Jg {w:World} {ad:Addr} {n:Nat} {cs:List Value} (h:w.cells? 0 ad n=some cs):cs.length=n∧ ∀j,j<n->w.cell? (ad.add j)=cs[j]?:=by
 simp only [World.cells?,Nat.zero_le,if_true] at h
 obtain ⟨h1,h2⟩:=Hs h
 exact ⟨by simpa using h1,fun j hj=>h2 j j (by simp [hj])⟩
theorem CY {H:Type} {enc:TypeId×Value->H} {w:World} {fuel e:Nat} (hC:oI P t f ok) (ad:Addr):∀(n:Nat) (elems:List (DataW H×List MemPlace)),n≤elems.length ->
  (∀i,i<n->(w.cells? 0 (ad.add (i*e)) e).bind (DataW.trod enc P w 0 (fun _=>true) true fuel t)=elems[i]?) ->
  ∃(l:List T) (us:List Value),l.length=n∧(∀a∈l,ok a)∧us.length=n*e∧(af f l).length=n*e∧(∀(j:Nat) u,us[j]?=some u->w.cell? (ad.add j)=some u)∧ ∀(j:Nat) u y,us[j]?=some u->(af f l)[j]?=some y->cA (fun b=>b<w.heap.size) w u y:=by
 intro n
 induction n with
 | zero=>intro elems _ _;exact ⟨[],[],rfl,by simp,by simp,by simp [af],by simp,by simp⟩
 | succ n ih =>
  intro elems hn MP
  obtain ⟨l,us,h1,h2,h3,h4,h5,h6⟩:=ih elems aj (fun i hi=>MP i aj)
  have hx:=MP n aj
  rw [List.getElem?_eq_getElem aj] at hx
  rw [Option.bind_eq_some_iff] at hx
  obtain ⟨cs,wE,T9⟩:=hx
  obtain ⟨gC,UQ⟩:=Jg wE
  obtain ⟨a,ha,vh,gH⟩:=hC H enc w fuel cs _ T9
  refine ⟨l++ [a],us++cs,by simp [h1],?_,?_,?_,?_,?_⟩
  ·intro b hb
   rcases List.mem_append.1 hb with hb|hb
   ·exact h2 b hb
   ·simp at hb;subst hb;exact ha
  ·rw [List.length_append,h3,gC,Nat.add_mul];omega
  ·rw [←gJ,List.length_append,h4,vh,gC,Nat.add_mul];omega
  ·intro j u hu
   by_cases hj:j<us.length
   ·rw [List.getElem?_append_left hj] at hu;exact h5 j u hu
   ·rw [List.getElem?_append_right aj] at hu
    have dd:j-us.length<e:=by
     have:=(List.getElem?_eq_some_iff.1 hu).1;omega
    have:=UQ (j-us.length) dd
    rw [hu,Addr.add_add] at this
    rw [←this];congr 2;omega
  ·intro j u y hu hy
   rw [←gJ] at hy
   by_cases hj:j<us.length
   ·rw [List.getElem?_append_left hj] at hu
    rw [List.getElem?_append_left aj] at hy
    exact h6 j u y hu hy
   ·rw [List.getElem?_append_right aj] at hu
    rw [List.getElem?_append_right aj,h4,←h3] at hy
    exact gH _ u y hu hy
theorem BS {te:TypeId} {e:Nat} (ht:P.underlying t=some (.slice te)) (he:P.cellsOf te=e) (hC:oI P te f ok):oI P t (fun l:List T=>[.sl e (af f l)]) (fun l=>∀a∈l,ok a):=by
 intro H enc w fuel cs x hx
 rcases DataW.trod_slice ht hx with ⟨rfl,_⟩|⟨a,len,cap,elems,rest,n,_,rfl,NM,_,Fk,sR,MP,gT,_,_⟩
 ·exact ⟨[],by simp,rfl,oQ (iL none 0 0 e (by simp) (Nat.le_refl _) (by simp))⟩
 ·rw [he] at gT
  obtain ⟨l,us,h1,h2,h3,h4,h5,h6⟩:=CY hC a len elems aj gT
  refine ⟨l,h2,rfl,oQ (.sl _ _ _ _ us _ (h3.trans h4.symm) (by rw [h4,Nat.mul_comm]) Fk sR (fun h0=>⟨a,rfl,?_,h5⟩) h6)⟩
  have hu:0<us.length:=aj
  have:=h5 0 us[0] (List.getElem?_eq_getElem hu)
  have hb:w.heap[(a.add 0).block]?≠none:=by
   intro hn
   rw [World.cell?,hn] at this
   cases this
  rw [gL] at hb
  exact Nat.lt_of_not_le fun hle=>hb (Array.getElem?_eq_none hle)
def OG (P:Program) (t:TypeId):Bool:=match P.underlying t with|some (.int _)|some .string|some .bool|some (.slice _)=>true|_=>false
theorem oI.one {g:T->AV} (h:oI P t (fun a=>[g a]) ok) (ht:OG P t=true):P6 P t g ok:=by
 intro H enc w base v d ps hv hd
 obtain ⟨fuel,hd⟩:=hd
 have hc:v.cells= #[v]:=by
  simp only [OG] at ht
  split at ht
  ·rename_i hu;obtain ⟨n,rfl⟩:=okWide_int hu hv;rfl
  ·rename_i hu
   simp only [Value.okWide,hu,Cell.okWide] at hv
   cases v<;>simp_all [Cell.ok]
   rfl
  ·rename_i hu
   simp only [Value.okWide,hu,Cell.okWide] at hv
   cases v<;>simp_all [Cell.ok]
   rfl
  ·rename_i hu;obtain ⟨_,_,_,rfl⟩:=okWide_slice hu hv;rfl
  ·cases ht
 rw [hc] at hd
 obtain ⟨a,h1,h2,h3⟩:=h H enc w fuel _ _ hd
 exact ⟨a,h1,h3 0 _ _ rfl rfl⟩
theorem FM (l:List Int):af (fun c:Int=>[ai c]) l=ax l:=by
 induction l with
 | nil=>rfl
 | cons c l ih=>rw [jh,ih];rfl
theorem E0 {te:TypeId} (ht:P.underlying t=some (.slice te)) (he:P.underlying te=some (.int .i64)) (hc:P.cellsOf te=1):oI P t (fun l:List Int=>[.sl 1 (ax l)]) (fun l=>∀n∈l,HJ n) :=
 (BS ht hc (G6 he)).map id (fun l _=>by rw [FM];rfl) (fun _ h=>h)
end
theorem bK.law {P:Program} {f:FuncId} {args:List AV} (h:bK P f args (ao true)) (w:World) (jU:Good w) (vs:List Value) (hl:vs.length=args.length) (hr:∀(j:Nat) v x,vs[j]?=some v->args[j]?=some x->cA (fun b=>b<w.heap.size) w v x) :
  Calls P f vs.toArray w fun e w'=>e= .returned (.bool true)∧Below w.heap.size w w':=by
 refine (h w (fun b=>b<w.heap.size) vs jU (fun _ h=>h) hl hr).mono fun e w' ⟨v,O,he,hb,_,_,hg⟩=>⟨?_,hb⟩
 subst he
 rcases hg with hg|⟨_,_,_,hx,_⟩
 ·rcases hg with hg|⟨_,_,_,hx,_⟩
  ·cases hg with
   | rep b7=>cases b7;rfl
  ·cases hx
 ·cases hx
theorem J5 (S:Nat->Prop) (w:World) (j:Nat) (v:Value) (x:AV) (h:([]:List Value)[j]?=some v) (_:([]:List AV)[j]?=some x):cA S w v x:=by simp at h
theorem GY {S:Nat->Prop} {w:World} {v:Value} {x:AV} {vs:List Value} {xs:List AV} (h:cA S w v x) (h2:∀(j:Nat) v x,vs[j]?=some v->xs[j]?=some x->cA S w v x) (j:Nat) (u:Value) (y:AV) (hu:(v::vs)[j]?=some u) (hy:(x::xs)[j]?=some y):cA S w u y:=by
 cases j with
 | zero=>simp at hu hy;subst hu hy;exact h
 | succ j=>exact h2 j u y (by simpa using hu) (by simpa using hy)
theorem Below.Gv {H:Type} {enc:TypeId×Value->H} {P:Program} (hl:laidOutB P=true) {W W':World} (hb:Below W.heap.size W W'):∀(ts:List TypeId) (vs:List Value) (ds:List (DataW H)) (ps:List MemPlace),(ts.all fun t=>P.readableRec t && decide (t<P.types.size))=true ->
  DataW.TrodAll enc P W 0 (fun _=>true) true ts vs ds ps->DataW.TrodAll enc P W' 0 (fun b=>decide (b<W.heap.size)) true ts vs ds ps:=by
 intro ts
 induction ts with
 | nil=>intro vs ds ps _ h;cases vs<;>cases ds<;>simp_all [DataW.TrodAll]
 | cons t ts ih =>
  intro vs ds ps hr h
  rw [List.all_cons,Bool.and_eq_true,Bool.and_eq_true] at hr
  obtain ⟨v,VD,d,V6,p,q,rfl,rfl,rfl,h1,h2⟩:=trodAll_cons h
  have lt:∀x∈p,x.block<W.heap.size:=by obtain ⟨m,hm⟩:=h1;exact DataW.trod_lt m _ _ _ hm
  exact ⟨p,q,Below.trod hl hr.1.1 (of_decide_eq_true hr.1.2) h1 hb lt,ih _ _ _ hr.2 h2,rfl⟩
end Go.Proofs.YtjgbhhnghedgdaaGreatDoor
