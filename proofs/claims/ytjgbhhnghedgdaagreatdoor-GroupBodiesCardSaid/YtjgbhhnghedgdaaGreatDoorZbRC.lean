import Derived.Test.YtjgbhhnghedgdaaGreatDoorZbRL
import Derived.Orders
import Derived.Tactics
import Derived.WalkKit
import Derived.ProofKit
import Derived.OpenShut
import Derived.ShutString
import Derived.ChangeOld
import Derived.Below
import Derived.RangeFuncRecord
set_option linter.all false
namespace Go.Proofs.YtjgbhhnghedgdaaGreatDoor
open Go.RowKit
def CK (P:Program) (n:Nat) (s:AS) (d:Option Nat) (src dst id:Nat):Option (AS×List Prop) :=
 match look s.H id,P.underlying src with
 | some ⟨e,true,_,cells⟩,some (.slice el)=>(match P.underlying el,Nat.beq src dst with
  | some (.int .u8),true=>(match gG n (ck id s) d (.sl e cells) with|some s'=>some (s',[0<cells.length])|none=>none)
  | _,_=>none)
 | _,_=>none
section
variable {P:Program} {n:Nat} {s:AS} {o:Oper} {h:Hint} {q:AS×List Prop}
theorem xZ {w:World} {g:Nat} {cur:Array Value} {te:TypeId} {fr:Nat×Nat} (hg:w.heap[g]?=some (.cells cur te fr)) (k:Nat):(∃QN,(w.freeze ⟨g,k,none⟩ 1).heap[g]?=some (.cells cur te QN))∧(w.freeze ⟨g,k,none⟩ 1).heap.size=w.heap.size∧(∀b,b≠g->(w.freeze ⟨g,k,none⟩ 1).heap[b]?=w.heap[b]?)∧(w.freeze ⟨g,k,none⟩ 1).os=w.os∧(w.freeze ⟨g,k,none⟩ 1).tape=w.tape∧(w.freeze ⟨g,k,none⟩ 1).output=w.output:=by
 unfold World.freeze
 rw [if_neg (by decide)]
 obtain ⟨lo,hi⟩:=fr
 refine ⟨⟨if lo == hi then (k,k+1) else (min lo k,max hi (k+1)),?_⟩,by simp,fun b hb=>?_,rfl,rfl,rfl⟩
 ·simp only [Array.getElem?_modify,if_true,hg,Option.map_some]
 ·simp only [Array.getElem?_modify]
  rw [if_neg (fun e=>hb e.symm)]
theorem run_mark {w:World} {t e:TypeId} {g l c:Nat} {cur:Array Value} {te:TypeId} {fr:Nat×Nat} (ht:P.underlying t=some (.slice e)) (he:P.underlying e=some (.int .u8)) (hg:w.heap[g]?=some (.cells cur te fr)) :
  (convert t t (.slice (some ⟨g,0,none⟩) l c)).run P w= .ok (.slice (some ⟨g,0,none⟩) l c) (w.freeze ⟨g,cur.size,none⟩ 1):=by
 have Cn:w.shape? g=some (te,cur.size):=by unfold World.shape?;rw [hg]
 simp [convert,run_underlying ht,run_underlying he,markStringish,Cn]
theorem FR {src dst id:Nat} {x:Operand} (ho:o.op= .convert src dst x) (hx:bq s x= .ref id) (hr:CK P n s o.dst src dst id=some q):mc P n s o q.1 q.2:=by
 intro hC S0 w0 a w Q ⟨φ,hs⟩
 unfold CK at hr
 split at hr
 ·rename_i e f cells el lD hu
  split at hr
  ·rename_i he hb
   split at hr
   ·rename_i s' e9
    injection hr with hr;subst hr
    have Ul:=Nat.eq_of_beq_eq_true hb
    subst Ul
    have Ps:0<cells.length:=hC.1
    have dx:=hs.bq x
    rw [hx] at dx
    generalize hv:a.eval x=v at dx
    cases dx with
    | rep b7=>cases b7
    | cH _ e' hi =>
     have nF:=bu (φ:=φ) lD
     rw [hi] at nF
     simp at nF
     omega
    | ref _ e' m g l c hi hm hc Ei bY =>
     have nF:=bu (φ:=φ) lD
     rw [hi] at nF
     simp at nF
     obtain ⟨h1,h2,h3⟩:=nF
     subst h1 h2
     have cm:φ id=some g:=h3.symm
     have aN:=hs.rows id _ lD
     unfold bN at aN
     rw [cm] at aN
     obtain ⟨cur,te,fr,hg,hf,hle,-,bw⟩:=aN
     obtain ⟨⟨QN,k1⟩,k2,k3,k4,k5,k6⟩:=xZ hg cur.size
     have cp:(execOp a.eval o).run P w= .ok (.value (.slice (some ⟨g,0,none⟩) l c)) (w.freeze ⟨g,cur.size,none⟩ 1):=by
      unfold execOp;simp only [ho,hv,Sem.run_bind,run_mark hu he hg,Result.andThen_ok];rfl
     refine cV cp ⟨erase φ id,?_⟩
     have r1:=hs.jw id [g] (by rw [cm])
     have r2:=r1.vW (w':=w.freeze ⟨g,cur.size,none⟩ 1) (fun g' jb=>by simp at jb;rw [jb];exact (hs.cY id g cm).1.2) k4 k5 k6 aj (fun b _ hn=>k3 b (by simpa using hn))
     have r3:=r2.uT
     refine dY r3 (.rep ?_) e9
     have uJ:aM S0 (w.freeze ⟨g,cur.size,none⟩ 1) (erase φ id) [] g:=⟨by rw [k2];exact (hs.cY id g cm).2,by simp,fun i hi=>by
      unfold erase at hi
      split at hi
      ·cases hi
      ·rename_i cX;exact cX (hs.inj i id g hi cm),hs.new g (hs.cY id g cm).1.2⟩
     refine fb (r:=⟨e',true,f,cells⟩) k1 uJ cells 0 (by simpa using hle) hm hc Ei _ (fun _=>rfl) (fun j u y hu hy=>?_)
     have Tv:=bw j u y (by simpa using hu) hy
     unfold bj at Tv
     refine cB.mono (fun b hb=>?_) Tv
     have cX:b≠g:=fun e=>hb.2.2.1 id (by rw [cm,e])
     refine ⟨⟨by rw [k2];exact hb.1,by simp,fun i hi=>?_,hb.2.2.2⟩,k3 b cX⟩
     unfold erase at hi
     split at hi
     ·cases hi
     ·exact hb.2.2.1 i hi
   ·cases hr
  ·cases hr
 ·cases hr
end
def A9 (P:Program) (n:Nat) (s:AS) (o:Oper) (h:Hint):Option (AS×List Prop) :=
 match qh P s o h with
 | some (x,C)=>(match gG n s o.dst x with|some s'=>some (s',C)|none=>none)
 | none=>none
def A_ (P:Program) (n:Nat) (s:AS) (o:Oper) (h:Hint):Option (AS×List Prop) :=
 match o.op with
 | .alloc t=>(match o.dst with|some d=>oh P n s d t h|none=>none)
 | .box t x=>(match o.dst with|some d=>I5 P n s d t (bq s x)|none=>none)
 | .buildSlice t len parts=>(match o.dst with|some d=>u0 P n s d t len parts.toList h|none=>none)
 | .makeSlice t l c=>(match bq s l,bq s c,o.dst with| .val (.int _ L),.val (.int _ C),some d=>CL P n s d t L C h|_,_,_=>none)
 | .convert src dst x=>(match bq s x,P.underlying dst,o.dst with
  | .val (.string b),some (.slice _),some d=>yn P n s d src dst b
  | .ref id,some (.slice _),_=>CK P n s o.dst src dst id
  | _,_,_=>A9 P n s o h)
 | .store t x y=>(match o.dst with|none=>x9 P s t x y h|some _=>none)
 | .call ⟨.builtin .append,⟨[x,y]⟩,⟨[t,xt]⟩⟩=>(match o.dst with|some d=>kU P n s d t xt (bq s x) (bq s y) h|none=>none)
 | .call ⟨.builtin .copy,⟨[x,y]⟩,⟨[t,xt]⟩⟩=>CX P n s o.dst t xt (bq s x) (bq s y) h
 | .call ⟨.builtin _,_,_⟩=>A9 P n s o h
 | .call ⟨c,xs,_⟩=>(match h.ln with| []=>(match callee s c with|some _=>rA P n s o.dst c xs.toList h|none=>ym P n s o.dst c xs.toList h)|_=>og P n s o.dst c xs.toList h)
 | .makeFunc (.func f) ⟨[]⟩ ⟨xs⟩=>(match o.dst with|some d=>CO n s d f xs|none=>none)
 | _=>A9 P n s o h
section
variable {P:Program} {n:Nat} {s:AS} {o:Oper} {h:Hint} {q:AS×List Prop}
theorem uZ (hr:A9 P n s o h=some q):mc P n s o q.1 q.2:=by
 unfold A9 at hr
 split at hr
 ·rename_i x C hp
  split at hr
  ·rename_i s' bY
   cases hr
   exact Hs (kT hp) bY
  ·cases hr
 ·cases hr
theorem oe (hr:A_ P n s o h=some q):mc P n s o q.1 q.2:=by
 unfold A_ at hr
 split at hr
 ·rename_i ho
  split at hr
  ·rename_i hd;exact va ho hd hr
  ·cases hr
 ·rename_i ho
  split at hr
  ·rename_i hd;exact I4 ho hd hr
  ·cases hr
 ·rename_i ho
  split at hr
  ·rename_i hd;exact Ba ho hd hr
  ·cases hr
 ·rename_i ho
  split at hr
  ·rename_i hl hc hd;exact FT ho hl hc hd hr
  ·cases hr
 ·rename_i ho
  split at hr
  ·rename_i hx _ hd;exact C3 ho hx hd hr
  ·rename_i hx _;exact FR ho hx hr
  ·exact uZ hr
 ·rename_i ho
  split at hr
  ·rename_i hd;exact CH ho hd hr
  ·cases hr
 ·rename_i ho
  split at hr
  ·rename_i hd;exact sg ho hd hr
  ·cases hr
 ·rename_i ho;exact FY ho hr
 ·exact uZ hr
 ·rename_i ho
  split at hr
  ·split at hr
   ·exact wT ho hr
   ·exact CZ ho hr
  ·exact u_ ho hr
 ·rename_i ho
  split at hr
  ·rename_i hd;exact FW ho hd hr
  ·cases hr
 ·exact uZ hr
end
def Sx (P:Program) (n:Nat) (ops:List Oper) (s:AS) (o:Oper) (h:Hint):Option (AS×List Prop) :=
 match o.guard with
 | none=>A_ P n s o h
 | some (j,want)=>(match ops[j]? with
  | some p=>(match p.dst with
   | some d=>(match jS s d with
    | .val (.bool b)=>(match h.g == want with
     | true=>(match A_ P n s o h with|some (s',C)=>some (s',(b=h.g)::C)|none=>none)
     | false=>(match gG n s o.dst (.val (.tuple #[])) with|some s'=>some (s',[b=h.g])|none=>none))
    | .val (.tuple _)=>(match gG n s o.dst (.val (.tuple #[])) with|some s'=>some (s',[])|none=>none)
    | _=>none)
   | none=>none)
  | none=>none)
def gw (hs:List (Nat×Hint)) (i:Nat):Hint:=match look hs i with|some h=>h|none=>{}
def j6 (P:Program) (n:Nat) (ops:List Oper) (hs:List (Nat×Hint)):List Oper->Nat->AS->Option (AS×List Prop)
 | [],_,s=>some (s,[])
 | o::l,i,s=>match Sx P n ops s o (gw hs i) with
  | some (s1,C)=>(match j6 P n ops hs l (i+1) s1 with|some (s2,D)=>some (s2,C++D)|none=>none)
  | none=>none
section
variable {P:Program} {n:Nat} {ops:List Oper} {S0:bo} {w0:World} {Q:Exit->Act->World->Prop}
theorem qo {I:Info} {S:Nat->Prop} {w:World} {a:Act} {d:Nat} {b:Bool} (h:Den I S w (a.tmps.getD d undef) (.val (.bool b))):a.tmps[d]?=some (.bool b):=by
 have h':=bK h
 cases ht:a.tmps[d]? with
 | none=>simp [ht,undef] at h'
 | some u=>simp [ht] at h';rw [h']
theorem mf {a:Act} {j d:Nat} {p:Oper} {b:Bool} (hp:ops[j]?=some p) (hd:p.dst=some d) (ht:a.tmps[d]?=some (.bool b)):yielded ops.toArray a.tmps j=some b:=by
 unfold yielded
 simp [hp,hd,ht]
theorem me {a:Act} {j d:Nat} {p:Oper} {arr:Array Value} (hp:ops[j]?=some p) (hd:p.dst=some d) (ht:a.tmps.getD d undef= .tuple arr):yielded ops.toArray a.tmps j=none:=by
 unfold yielded
 simp only [List.getElem?_toArray,hp,Option.bind_some,hd]
 rw [Array.getD_eq_getD_getElem?] at ht
 cases h:a.tmps[d]? with
 | none=>rfl
 | some u=>rw [h] at ht;simp at ht;rw [ht]
theorem I3 {s:AS} {o:Oper} {h:Hint} {q:AS×List Prop} (hr:Sx P n ops s o h=some q) (hC:bz q.2) {a:Act} {w:World} (hs:iv S0 w0 n s a w) (K:Act->World->Prop) (hK:∀a' w',iv S0 w0 n q.1 a' w'->K a' w') :
  if Region.wanted o (yielded ops.toArray a.tmps) then o.wp P a w K Q∨(o.asks P a w∧LetsOut Q) else K (a.put o.dst undef) w:=by
 unfold Sx at hr
 split at hr
 ·rename_i hg
  have hw:Region.wanted o (yielded ops.toArray a.tmps)=true:=by unfold Region.wanted;rw [hg]
  rw [if_pos hw]
  exact .inl (Oper.wp_mono hK (oe hr hC S0 w0 a w Q hs))
 ·rename_i j want hg
  split at hr
  ·rename_i p hp
   split at hr
   ·rename_i d hd
    split at hr
    ·rename_i b hb
     obtain ⟨φ,bY⟩:=hs
     have ht:=bY.get d
     rw [hb] at ht
     have hy:=mf (ops:=ops) hp hd (qo ht)
     split at hr
     ·rename_i jY
      split at hr
      ·rename_i s' C he
       cases hr
       obtain ⟨FH,hC⟩:=hC
       have hw:Region.wanted o (yielded ops.toArray a.tmps)=true:=by
        unfold Region.wanted;rw [hg];simp only [hy,FH]
        have:h.g=want:=by simpa using jY
        rw [this];simp
       rw [if_pos hw]
       exact .inl (Oper.wp_mono hK (oe he hC S0 w0 a w Q ⟨φ,bY⟩))
      ·cases hr
     ·rename_i jY
      split at hr
      ·rename_i s' En
       cases hr
       obtain ⟨FH,-⟩:=hC
       have hw:¬Region.wanted o (yielded ops.toArray a.tmps)=true:=by
        unfold Region.wanted;rw [hg];simp only [hy,FH]
        have:¬h.g=want:=by simpa using jY
        simpa using this
       rw [if_neg hw]
       exact hK _ _ ⟨φ,dY bY (.rep (.val _)) En⟩
      ·cases hr
    ·rename_i arr hb
     obtain ⟨φ,bY⟩:=hs
     have ht:=bY.get d
     rw [hb] at ht
     have hy:=me (ops:=ops) hp hd (bK ht)
     split at hr
     ·rename_i s' En
      cases hr
      have hw:¬Region.wanted o (yielded ops.toArray a.tmps)=true:=by
       unfold Region.wanted;rw [hg];simp [hy]
      rw [if_neg hw]
      exact hK _ _ ⟨φ,dY bY (.rep (.val _)) En⟩
     ·cases hr
    ·cases hr
   ·cases hr
  ·cases hr
theorem jO {hs:List (Nat×Hint)}:∀(l:List Oper) (i:Nat) (s s':AS) (C:List Prop),j6 P n ops hs l i s=some (s',C)->bz C-> ∀(a:Act) (w:World),iv S0 w0 n s a w->(∀a' w',iv S0 w0 n s' a' w'->Q .normal a' w')->wpList P ops.toArray Q l a w
 | [],i,s,s',C,he,hC,a,w,hs,hQ=>by cases he;exact hQ a w hs
 | o::l,i,s,s',C,he,hC,a,w,hs,hQ=>by
  simp only [j6] at he
  split at he
  ·rename_i s1 C1 h1
   split at he
   ·rename_i s2 D h2
    cases he
    obtain ⟨iJ,hD⟩:=bP.1 hC
    have:=I3 (S0:=S0) (w0:=w0) (Q:=Q) h1 iJ hs (wpList P ops.toArray Q l) (fun a' w' h'=>jO l (i+1) s1 s' D h2 hD a' w' h' hQ)
    unfold wpList
    exact this
   ·cases he
  ·cases he
end
def II:AV->AV
 | .own e row=>.sl e row
 | .box row=>.ptr row 0
 | x=>x
def FM:AV->AV
 | .agg cs=>.agg (cs.map II)
 | x=>II x
def Ou:AV->AV
 | .bt cs=>.bt (cs.map FM)
 | x=>FM x
section
variable {S S':Nat->Prop} {w:World}
theorem xY (hS:∀b,S b->S' b) {v:Value} {x:AV} {O:List Nat} (hO:∀g∈O,S' g) (h:ib S w v x O):cB S' w v (II x):=by
 cases h with
 | rep h =>
  have:=h.mono fun b hb=>⟨hS b hb,rfl⟩
  cases h<;>exact this
 | nil e=>exact iN none 0 0 e (by simp) (by simp) (by simp)
 | own g l c e row cur te fr hg hf hl hc hm hs h =>
  exact fb (r:=⟨e,true,false,row⟩) hg (hO g (by simp)) row 0 (by rw [hl,hs,Nat.zero_add];exact Nat.mul_le_mul_left _ hc) hl hc hm _ (fun _=>rfl) (fun j u x hu hx=>(h j u x (by simpa using hu) hx).mono fun b hb=>⟨hS b hb,rfl⟩)
 | box g row cur te fr hg hf hs h =>
  exact o8 (off:=0) hg (hO g (by simp)) row aj (fun j u x hu hx=>(h j u x hu hx).mono fun b hb=>⟨hS b hb,rfl⟩)
theorem Ez {R:Value->AV->List Nat->Prop} {f:AV->AV} (hR:∀v x O,(∀g∈O,S' g)->R v x O->cB S' w v (f x)) {vs:List Value} {xs:List AV} {O:List Nat} (h:kY R vs xs O):(∀g∈O,S' g)->vs.length=(xs.map f).length∧ ∀(j:Nat) v c,vs[j]?=some v->(xs.map f)[j]?=some c->cB S' w v c:=by
 induction h with
 | nil=>intro _;exact ⟨rfl,fun j v c hv=>by simp at hv⟩
 | cons h _ ih =>
  intro hO
  obtain ⟨h1,h2⟩:=ih fun g hg=>hO g (by simp [hg])
  refine ⟨by simpa using h1,fun j v c hv hc=>?_⟩
  cases j with
  | zero=>simp at hv hc;subst hv;subst hc;exact hR _ _ _ (fun g hg=>hO g (by simp [hg])) h
  | succ j=>exact h2 j v c (by simpa using hv) (by simpa using hc)
theorem xX (hS:∀b,S b->S' b) {v:Value} {x:AV} {O:List Nat} (hO:∀g∈O,S' g) (h:nU S w v x O):cB S' w v (FM x):=by
 rcases h with h|⟨vs,cs,rfl,rfl,hL⟩
 ·by_cases hx:∃cs,x= .agg cs
  ·obtain ⟨cs,rfl⟩:=hx
   cases h with
   | rep h=>cases h with
    | agg vs _ hl h =>
     refine .agg vs _ (by simpa using hl) fun j v c hv hc=>?_
     rw [List.getElem?_map] at hc
     cases hj:cs[j]? with
     | none=>rw [hj] at hc;cases hc
     | some y=>rw [hj] at hc;injection hc with hc;subst hc;exact xY hS (O:=[]) (by simp) (.rep (h j v y hv hj))
  ·have:FM x=II x:=by
    cases x with
    | agg cs=>exact absurd ⟨cs,rfl⟩ hx
    | _=>rfl
   rw [this];exact xY hS hO h
 ·obtain ⟨h1,h2⟩:=Ez (S':=S') (f:=II) (fun v x O hO h=>xY hS hO h) hL hO
  exact .agg vs _ h1 h2
theorem IH (hS:∀b,S b->S' b) {v:Value} {x:AV} {O:List Nat} (hO:∀g∈O,S' g) (h:sQ S w v x O):cB S' w v (Ou x):=by
 rcases h with h|⟨vs,cs,rfl,rfl,hL⟩
 ·by_cases hx:∃cs,x= .bt cs
  ·obtain ⟨cs,rfl⟩:=hx
   rcases h with h|⟨vs,JV,h1,h2,h3⟩
   ·cases h with
    | rep h=>cases h with
     | bt vs _ hl h =>
      refine .bt vs _ (by simpa using hl) fun j v c hv hc=>?_
      rw [List.getElem?_map] at hc
      cases hj:cs[j]? with
      | none=>rw [hj] at hc;cases hc
      | some y=>rw [hj] at hc;injection hc with hc;subst hc;exact xX hS (O:=[]) (by simp) (.inl (.rep (h j v y hv hj)))
   ·cases h2
  ·have:Ou x=FM x:=by
    cases x with
    | bt cs=>exact absurd ⟨cs,rfl⟩ hx
    | _=>rfl
   rw [this];exact xX hS hO h
 ·obtain ⟨h1,h2⟩:=Ez (S':=S') (f:=FM) (fun v x O hO h=>xX hS hO h) hL hO
  exact .bt vs _ h1 h2
end
def ry (P:Program) (s:AS) (o:Oper) (h:Hint):Option (AV×List Prop) :=
 match o.op with
 | .buildSlice t len parts=>(match P.underlying t with
  | some (.slice el)=>(match eC P el,(P.info? el).bind (·.zero) with
   | some (z+1),some zero=>(match fW s (z+1) 0 parts.toList,Nat.beq parts.toList.length len,Nat.ble (len*(z+1)) 16777216,Nat.beq zero.cells.size (z+1) with
    | some cells,true,true,true=>(match d_ cells with
     | true=>some (.sl (z+1) (named h cells).1,(named h cells).2)
     | false=>none)
    | _,_,_,_=>none)
   | _,_=>none)
  | _=>none)
 | .makeSlice t l c=>(match bq s l,bq s c,P.underlying t with
  | .val (.int _ L),.val (.int _ C),some (.slice el)=>(match P.info? el with
   | some i=>(match i.zero,i.size with
    | some zero,z+1=>(match Nat.beq zero.cells.size (z+1) with
     | true=>some (.sl (z+1) (named h (tp (zero.cells.toList.map bC) h.k)).1,(named h (tp (zero.cells.toList.map bC) h.k)).2++ [L=(h.k:Int),C=(h.m:Int),h.k≤h.m,i.bytes*h.m≤281474976710656,h.m≤maxLen])
     | false=>none)
    | _,_=>none)
   | none=>none)
  | _,_,_=>none)
 | .call ⟨.builtin _,_,_⟩=>qh P s o h
 | .call ⟨c,xs,_⟩=>(match callee s c,h.av with
  | some f,some r=>(match ie P f,h.b with
   | true,true=>(match jR s (xs.toList.map (bq s)),flat r with
    | some vs,some C=>some (Ou r,bL P f vs r::C)
    | _,_=>none)
   | true,false=>(match lA (xs.toList.map (bq s)) with
    | true=>some (Ou r,[bL P f (xs.toList.map (bq s)) r])
    | false=>none)
   | _,_=>none)
  | _,_=>none)
 | _=>qh P s o h
def Dz (P:Program) (s:AS) (o:Oper) (x:AV) (C:List Prop):Prop :=
 bz C-> ∀S0 w0 n a w φ Q (b:Act),aJ S0 w0 n [] s a w φ->b.tmps=a.tmps->o.wp P b w (fun b' w'=>∃v,b'=b.put o.dst v∧Below w.heap.size w w'∧Den (az s.H φ) (aM S0 w' φ []) w' v x) Q
theorem eI {a b:Act} (h:b.tmps=a.tmps):b.eval=a.eval:=by
 funext x
 cases x<;>simp [Act.eval,h]
section
variable {P:Program} {s:AS} {o:Oper} {h:Hint} {r:AV×List Prop}
theorem uL (hp:dc P s o r.1 r.2):Dz P s o r.1 r.2:=by
 intro hC S0 w0 n a w φ Q b hs hb
 obtain ⟨v,cp,dV⟩:=hp hC S0 w0 n [] a w φ hs
 rw [←eI hb] at cp
 exact cV cp ⟨v,rfl,Below.refl _ _,dV⟩
theorem l5 {S0:bo} {w0 w w':World} {n:Nat} {a:Act} {φ:Nat->Option Nat} (hs:aJ S0 w0 n [] s a w φ) (hb:Below w.heap.size w w') (b:Nat) (h:aM S0 w φ [] b∨(w.heap.size≤b∧b<w'.heap.size)):aM S0 w' φ [] b:=by
 rcases h with h|⟨h1,h2⟩
 ·exact ⟨by have:=h.1;have:=hb.size;omega,by simp,h.2.2⟩
 ·exact ⟨h2,by simp,fun i hi=>by have:=(hs.cY i b hi).2;omega,hs.new b (.inl (by have:=hs.cZ.size;omega))⟩
theorem wK {c:Callee} {xs:Array Operand} {ts:Array TypeId} {f:FuncId} {args:List AV} {x:AV} {C:List Prop} (ho:o.op= .call ⟨c,xs,ts⟩) (hc:callee s c=some f) (hE:ie P f=true) (nE:bz C->bL P f args x) (hl:args.length=xs.toList.length)
  (hG:bz C-> ∀S0 w0 n a w φ,aJ S0 w0 n [] s a w φ-> ∃S:Nat->Prop,(∀b,S b->b<w.heap.size)∧(∀(j:Nat) v y,(xs.toList.map a.eval)[j]?=some v->args[j]?=some y->cB S w v y)∧ ∀w' v O,sQ (fun b=>S b∨(w.heap.size≤b∧b<w'.heap.size∧b ∉ O)) w' v x O->sQ (fun b=>aM S0 w φ [] b∨(w.heap.size≤b∧b<w'.heap.size∧b ∉ O)) w' v x O):Dz P s o (Ou x) C:=by
 intro hC S0 w0 n a w φ Q b hs hb
 have cp:=jo (P:=P) hs hc ho hE
 rw [←eI hb] at cp
 obtain ⟨S,hS,iD,uH⟩:=hG hC S0 w0 n a w φ hs
 unfold Oper.wp
 rw [cp]
 have mU:=nE hC w S (xs.toList.map a.eval) hs.cZ.mH hS (by simp [hl]) iD
 have e:(xs.toList.map a.eval).toArray=xs.map b.eval:=by rw [eI hb];apply Array.ext';simp
 rw [e] at mU
 refine mU.mono ?_
 rintro en w' ⟨v,O,rfl,pD,im,mD,hg⟩
 refine ⟨v,rfl,pD,.rep (IH (fun b hb=>?_) (fun g hg=>?_) (uH w' v O hg))⟩
 ·exact l5 hs pD b (hb.imp id fun h=>⟨h.1,h.2.1⟩)
 ·exact l5 hs pD g (.inr (mD g hg))
theorem wS (hr:ry P s o h=some r):Dz P s o r.1 r.2:=by
 unfold ry at hr
 split at hr
 ·rename_i t len parts ho
  split at hr
  ·rename_i el hu
   split at hr
   ·rename_i z zero hz hzero
    split at hr
    ·rename_i cells dP hlen AJ uA
     split at hr
     ·rename_i hp
      cases hr
      intro hC S0 w0 n a w φ Q b hs hb
      have hlen:=Nat.eq_of_beq_eq_true hlen
      have AJ:len*(z+1)≤16777216:=Nat.le_of_ble_eq_true AJ
      have hn:(named h cells).1=cells:=(hY (C:=[]) (by rw [List.append_nil];exact hC)).1
      obtain ⟨h1,us,h2,h3,-,h4⟩:=Cf hs (z+1) parts.toList 0 cells ((Array.range (len*(z+1))).map (zero.cells[· %zero.cells.size]!)) dP hp (by simp [←hlen])
      have hm:len≤maxLen:=by
       have:len≤len*(z+1):=Nat.le_mul_of_pos_right _ aj
       unfold maxLen;omega
      have cp:(execOp b.eval o).run P w= .ok (.value (.slice (some ⟨w.heap.size,0,none⟩) len len)) {w with heap:=w.heap.push (.cells us el (0,0))}:=by
       have Av:(sizeOf el).run P w= .ok (z+1) w:=run_sizeOf hz
       have oO:(parts.map fun p=>(p.1,a.eval p.2)).toList=parts.toList.map fun p=>(p.1,a.eval p.2):=by simp
       rw [eI hb]
       unfold execOp
       simp only [ho,Instr.buildSlice,Sem.run_bind,run_underlying hu,Result.andThen_ok,Av,Sem.run_ite]
       rw [if_neg aj]
       by_cases h0:len*(z+1)=0
       ·rw [if_pos h0]
        simp only [Sem.run_pure,Result.andThen_ok]
        have:(Array.range (len*(z+1))).map (fun x=>(#[]:Array Value)[x%(#[]:Array Value).size]!)=(Array.range (len*(z+1))).map (fun x=>zero.cells[x%zero.cells.size]!):=by rw [h0,ik,ik]
        rw [this,oO,h2]
        rfl
       ·rw [if_neg h0]
        simp only [iO hzero,Result.andThen_ok,Sem.run_pure]
        rw [oO,h2]
        rfl
      have pD:Below w.heap.size w {w with heap:=w.heap.push (.cells us el (0,0))}:=⟨rfl,rfl,rfl,by simp,fun k hk=>cL w _ k hk⟩
      have gm:cells.length=(z+1)*len:=by rw [h1,hlen,Nat.mul_comm]
      refine cV cp ⟨_,rfl,pD,?_⟩
      simp only [hn]
      refine .rep (fb (r:=⟨z+1,true,false,cells⟩) (dO w _) (l5 hs pD _ (.inr ⟨Nat.le_refl _,by simp⟩)) cells 0 (by rw [h3,gm];simp [Nat.mul_comm]) gm (Nat.le_refl _) hm _ (fun _=>rfl) (fun j u x hu hx=>?_))
      exact (h4 j u x (by simpa using hu) hx).mono fun b hb=>⟨l5 hs pD b (.inl hb),cL w _ b hb.1⟩
     ·cases hr
    ·cases hr
   ·cases hr
  ·cases hr
 ·rename_i t l c ho
  split at hr
  ·rename_i kl L kc C el hl hc hu
   split at hr
   ·rename_i i hi
    split at hr
    ·rename_i zero z hz dC
     split at hr
     ·rename_i hb
      cases hr
      have hb:=Nat.eq_of_beq_eq_true hb
      intro hC S0 w0 n a w φ Q b hs Gx
      obtain ⟨KM,hC⟩:=hY hC
      obtain ⟨h1,h2,h3,h4,h5,-⟩:=hC
      have L4:b.eval l= .int kl L:=by rw [eI Gx];exact bK (hl ▸ hs.bq l)
      have ec:b.eval c= .int kc C:=by rw [eI Gx];exact bK (hc ▸ hs.bq c)
      obtain ⟨cur,cp,wL,bw⟩:=run_make ho L4 ec hu hi hz dC hb h1 h2 h3 h4 h5 w
      have pD:Below w.heap.size w {w with heap:=w.heap.push (.cells cur el (0,0))}:=⟨rfl,rfl,rfl,by simp,fun k hk=>cL w _ k hk⟩
      have Gq:(zero.cells.toList.map bC).length=z+1:=by simp [hb]
      have Gs:=tn (zero.cells.toList.map bC) (z+1) Gq h.k
      have hle:(z+1)*h.k≤(z+1)*h.m:=Nat.mul_le_mul_left _ h3
      refine cV cp ⟨_,rfl,pD,?_⟩
      simp only [KM]
      refine .rep (fb (r:=⟨z+1,true,false,tp (zero.cells.toList.map bC) h.k⟩) (dO w _) (l5 hs pD _ (.inr ⟨Nat.le_refl _,by simp⟩)) _ 0 (by rw [Gs,wL];omega) Gs h3 h5 _ (fun _=>rfl) (fun j u x hu hx=>?_))
      have h6:=w8 _ (z+1) Gq aj _ _ _ hx
      have h7:=bw j u (by simpa using hu)
      rw [List.getElem?_map] at h6
      have h8:zero.cells.toList[j%(z+1)]?=some u:=by simpa using h7
      rw [h8] at h6;injection h6 with h6;subst h6;exact fP u
     ·cases hr
    ·cases hr
   ·cases hr
  ·cases hr
 ·exact uL (kT hr)
 ·rename_i c xs ts _ ho
  split at hr
  ·rename_i f x hc _
   split at hr
   ·rename_i hE _
    split at hr
    ·rename_i vs C hv sG
     cases hr
     refine wK ho hc hE (fun hC=>hC.1) ?_ fun hC S0 w0 n a w φ hs=>?_
     ·have key:∀(l:List AV) (m:List AV),jR s l=some m->m.length=l.length:=by
       intro l
       induction l with
       | nil=>intro m h;cases h;rfl
       | cons y l ih =>
        intro m h
        simp only [jR] at h
        split at h
        ·rename_i y' m' _ hm
         cases h
         simp [ih m' hm]
        ·cases h
      rw [key _ _ hv];simp
     ·exact ⟨fun b=>b<w.heap.size,fun _ h=>h,(lO hs _ _ hv).2,fun w' v O hg=>tc sG hC.2 hg⟩
    ·cases hr
   ·rename_i hE _
    split at hr
    ·rename_i xO
     cases hr
     refine wK ho hc hE (fun hC=>hC.1) (by simp) fun hC S0 w0 n a w φ hs=>⟨aM S0 w φ [],fun b hb=>hb.1,fun j v x hv hx=>?_,fun w' v O hg=>hg⟩
     have MP:=lU xO hx
     rw [List.getElem?_map] at hv hx
     cases hj:xs.toList[j]? with
     | none=>rw [hj] at hv;cases hv
     | some y =>
      rw [hj] at hv hx
      injection hv with hv;injection hx with hx;subst hv;subst hx
      exact nW (hs.bq y) MP
    ·cases hr
   ·cases hr
  ·cases hr
 ·exact uL (kT hr)
end
def nB (ds:List Nat):List (Nat×AV)->List (Nat×AV)
 | []=>[]
 | (i,x)::l=>match ds.any (Nat.beq i) with|true=>nB ds l|false=>(i,x)::nB ds l
theorem fR (ds:List Nat):∀(l:List (Nat×AV)) (i:Nat) (x:AV),look (nB ds l) i=some x->look l i=some x∧i ∉ ds
 | [],i,x,h=>by cases h
 | (k,y)::l,i,x,h=>by
  simp only [nB] at h
  have ih:=fR ds l i x
  split at h
  ·rename_i hk
   obtain ⟨h1,h2⟩:=ih h
   rw [aD]
   have cX:k≠i:=fun e=>by
    subst e
    obtain ⟨j,hj,hb⟩:=List.any_eq_true.1 hk
    have:=Nat.eq_of_beq_eq_true hb
    subst this
    exact h2 hj
   rw [if_neg cX];exact ⟨h1,h2⟩
  ·rename_i hk
   rw [aD] at h ⊢
   by_cases sF:k=i
   ·rw [if_pos sF] at h ⊢
    refine ⟨h,fun hm=>?_⟩
    have:ds.any (Nat.beq k)=true:=List.any_eq_true.2 ⟨i,hm,by rw [sF];exact Nat.beq_refl i⟩
    rw [hk] at this;cases this
   ·rw [if_neg sF] at h ⊢
    exact ih h
def jn (ops:List Oper) (gO:List AV):List Nat->List (Nat×AV)
 | []=>[]
 | d::l=>match ops[d]?,gO[d]? with
  | some p,some x=>(match p.dst with|some i=>(i,x)::jn ops gO l|none=>jn ops gO l)
  | _,_=>jn ops gO l
theorem n0 (ops:List Oper) (gO:List AV):∀(l:List Nat) (i:Nat) (x:AV),look (jn ops gO l) i=some x-> ∃d p,d∈l∧ops[d]?=some p∧p.dst=some i∧gO[d]?=some x
 | [],i,x,h=>by cases h
 | d::l,i,x,h=>by
  simp only [jn] at h
  have ih:=n0 ops gO l i x
  have step:look (jn ops gO l) i=some x-> ∃d' p,d'∈d::l∧ops[d']?=some p∧p.dst=some i∧gO[d']?=some x:=fun h=>by
   obtain ⟨d',p,h1,h2⟩:=ih h
   exact ⟨d',p,by simp [h1],h2⟩
  split at h
  ·rename_i p y hp hy
   split at h
   ·rename_i k hk
    rw [aD] at h
    by_cases e:k=i
    ·rw [if_pos e] at h;injection h with h;subst h;subst e
     exact ⟨d,p,by simp,hp,hk,hy⟩
    ·rw [if_neg e] at h;exact step h
   ·exact step h
  ·exact step h
def vL (s:AS) (ds:List Nat) (ops:List Oper) (gO:List AV) (o:Oper):AS:=⟨jn ops gO (bm o)++nB ds s.F,s.H⟩
def sL (P:Program) (ops:List Oper) (s:AS) (o:Oper) (h:Hint):Option (AV×List Prop) :=
 match o.guard with
 | none=>ry P s o h
 | some (j,want)=>(match ops[j]? with
  | some p=>(match p.dst with
   | some d=>(match jS s d with
    | .val (.bool b)=>(match h.g == want with
     | true=>(match ry P s o h with|some (x,C)=>some (x,(b=h.g)::C)|none=>none)
     | false=>some (.val (.tuple #[]),[b=h.g]))
    | .val (.tuple _)=>some (.val (.tuple #[]),[])
    | _=>none)
   | none=>none)
  | none=>none)
def td (P:Program) (s:AS) (ds:List Nat) (ops:List Oper) (hs:List (Nat×Hint)):List Oper->Nat->List AV->Option (List AV×List Prop)
 | [],_,gO=>some (gO,[])
 | o::l,i,gO=>match sL P ops (vL s ds ops gO o) o (gw hs i) with
  | some (x,C)=>(match td P s ds ops hs l (i+1) (gO++ [x]) with|some (i9,D)=>some (i9,C++D)|none=>none)
  | none=>none
def jc:List Oper->List AV->List (Nat×AV)
 | o::l,x::m=>(match o.dst with|some d=>(d,x)::jc l m|none=>jc l m)
 | _,_=>[]
def CW (P:Program) (n T:Nat) (ops:List Oper) (hs:List (Nat×Hint)) (s:AS):Option (AS×List Prop) :=
 match P.follows .mixedOrders,lF ops.toArray n,oF ops.toArray T with
 | true,true,true=>(match td P s ((ops.take T).filterMap (·.dst)) ops hs (ops.take T) 0 [] with
  | some (gO,C)=>(match j6 P n ops hs (ops.drop T) T ⟨jc (ops.take T) gO++nB ((ops.take T).filterMap (·.dst)) s.F,s.H⟩ with|some (s',D)=>some (s',C++D)|none=>none)
  | none=>none)
 | _,_,_=>none
section
variable {P:Program} {ops:List Oper} {S0:bo} {w0:World} {Q:Exit->Act->World->Prop}
theorem EE {s:AS} {o:Oper} {h:Hint} {r:AV×List Prop} (hr:sL P ops s o h=some r) (hC:bz r.2) {n:Nat} {a b:Act} {w:World} {φ:Nat->Option Nat} (hs:aJ S0 w0 n [] s a w φ) (hb:b.tmps=a.tmps) :
  gS P ops.toArray Q o b w fun v w'=>w.heap.size≤w'.heap.size∧Den (az s.H φ) (aM S0 w' φ []) w' v r.1:=by
 unfold sL at hr
 unfold gS
 split at hr
 ·rename_i hg
  have hw:Region.wanted o (yielded ops.toArray b.tmps)=true:=by unfold Region.wanted;rw [hg]
  rw [if_pos hw]
  exact Oper.wp_mono (fun b' w' ⟨v,h1,h2,h3⟩=>⟨v,h1,h2,h2.size,h3⟩) (wS hr hC S0 w0 n a w φ Q b hs hb)
 ·rename_i j want hg
  split at hr
  ·rename_i p hp
   split at hr
   ·rename_i d hd
    split at hr
    ·rename_i bb uO
     have ht:=hs.get d
     rw [uO] at ht
     have hy:=mf (ops:=ops) hp hd (qo ht)
     rw [←hb] at hy
     split at hr
     ·rename_i jY
      split at hr
      ·rename_i x C he
       cases hr
       obtain ⟨FH,hC⟩:=hC
       have hw:Region.wanted o (yielded ops.toArray b.tmps)=true:=by
        unfold Region.wanted;rw [hg];simp only [hy,FH]
        have:h.g=want:=by simpa using jY
        rw [this];simp
       rw [if_pos hw]
       exact Oper.wp_mono (fun b' w' ⟨v,h1,h2,h3⟩=>⟨v,h1,h2,h2.size,h3⟩) (wS he hC S0 w0 n a w φ Q b hs hb)
      ·cases hr
     ·rename_i jY
      cases hr
      obtain ⟨FH,-⟩:=hC
      have hw:¬Region.wanted o (yielded ops.toArray b.tmps)=true:=by
       unfold Region.wanted;rw [hg];simp only [hy,FH]
       have:¬h.g=want:=by simpa using jY
       simpa using this
      rw [if_neg hw]
      exact ⟨Nat.le_refl _,.rep (.val _)⟩
    ·rename_i arr uO
     have ht:=hs.get d
     rw [uO] at ht
     have hy:=me (ops:=ops) hp hd (bK ht)
     rw [←hb] at hy
     cases hr
     have hw:¬Region.wanted o (yielded ops.toArray b.tmps)=true:=by
      unfold Region.wanted;rw [hg];simp [hy]
     rw [if_neg hw]
     exact ⟨Nat.le_refl _,.rep (.val _)⟩
    ·cases hr
   ·cases hr
  ·cases hr
theorem u6 {s:AS} {ds:List Nat} {hs:List (Nat×Hint)}:∀(l:List Oper) (i:Nat) (gO i9:List AV) (C:List Prop),td P s ds ops hs l i gO=some (i9,C)->bz C->gO.length=i ->
  i9.length=i+l.length∧i9.take i=gO∧ ∀(j:Nat) (o:Oper),l[j]?=some o-> ∃x D,i9[i+j]?=some x∧sL P ops (vL s ds ops (i9.take (i+j)) o) o (gw hs (i+j))=some (x,D)∧bz D
 | [],i,gO,i9,C,he,hC,hl=>by
  cases he
  exact ⟨by simp [hl],by rw [←hl,List.take_length],fun j o h=>by simp at h⟩
 | o::l,i,gO,i9,C,he,hC,hl=>by
  simp only [td] at he
  split at he
  ·rename_i x C1 h1
   split at he
   ·rename_i SE D h2
    cases he
    obtain ⟨iJ,hD⟩:=bP.1 hC
    obtain ⟨e1,e2,e3⟩:=u6 l (i+1) (gO++ [x]) i9 D h2 hD (by simp [hl])
    have e4:i9.take i=gO:=by
     have:=congrArg (List.take i) e2
     rw [List.take_take,Nat.min_eq_left aj,←hl,List.take_left] at this
     rw [←hl];exact this
    have e5:i9[i]?=some x:=by
     have h3:(i9.take (i+1))[i]?=some x:=by rw [e2,List.getElem?_append_right aj,hl];simp
     exact bW _ _ _ _ h3
    refine ⟨by rw [e1,List.length_cons];omega,e4,fun j p hp=>?_⟩
    cases j with
    | zero =>
     simp at hp;subst hp
     exact ⟨x,C1,by simpa using e5,by simp only [Nat.add_zero];rw [e4];exact h1,iJ⟩
    | succ j =>
     obtain ⟨y,D',h5,h6,h7⟩:=e3 j p (by simpa using hp)
     rw [show i+1+j=i+(j+1) by omega] at h5 h6
     exact ⟨y,D',h5,h6,h7⟩
   ·cases he
  ·cases he
theorem kM:∀(l:List Oper) (m:List AV) (i:Nat) (x:AV),look (jc l m) i=some x-> ∃(k:Nat) (o:Oper),l[k]?=some o∧o.dst=some i∧m[k]?=some x
 | [],m,i,x,h=>by simp [jc,look] at h
 | o::l,[],i,x,h=>by simp [jc,look] at h
 | o::l,y::m,i,x,h=>by
  simp only [jc] at h
  have step:look (jc l m) i=some x-> ∃(k:Nat) (p:Oper),(o::l)[k]?=some p∧p.dst=some i∧(y::m)[k]?=some x:=fun h=>by
   obtain ⟨k,p,h1,h2,h3⟩:=kM l m i x h
   exact ⟨k+1,p,by simpa using h1,h2,by simpa using h3⟩
  split at h
  ·rename_i d hd
   rw [aD] at h
   by_cases e:d=i
   ·rw [if_pos e] at h;injection h with h;subst h;subst e
    exact ⟨0,o,rfl,hd,rfl⟩
   ·rw [if_neg e] at h;exact step h
  ·exact step h
theorem lX (ops:List Oper) (T:Nat) (p:Oper×Nat):p∈ops.zipIdx.take T↔(p.2<T∧ops[p.2]?=some p.1):=by
 rw [List.mem_iff_getElem?]
 constructor
 ·rintro ⟨x,hx⟩
  rw [List.getElem?_take] at hx
  split at hx
  ·rename_i Aw
   rw [List.getElem?_zipIdx] at hx
   cases ho:ops[x]? with
   | none=>rw [ho] at hx;simp at hx
   | some q=>rw [ho] at hx;simp at hx;subst hx;exact ⟨by simpa using Aw,by simpa using ho⟩
  ·cases hx
 ·rintro ⟨h1,h2⟩
  refine ⟨p.2,?_⟩
  rw [List.getElem?_take,if_pos h1,List.getElem?_zipIdx,h2];simp
theorem kq (ops:List Oper) (T i:Nat):i ∉ (ops.take T).filterMap (·.dst)↔ ∀(j:Nat) (p:Oper),j<T->ops[j]?=some p->p.dst≠some i:=by
 constructor
 ·intro h j p hj hp hd
  refine h (List.mem_filterMap.2 ⟨p,?_,hd⟩)
  exact List.mem_of_getElem? (i:=j) (by rw [List.getElem?_take,if_pos hj];exact hp)
 ·intro h hm
  obtain ⟨p,hp,hd⟩:=List.mem_filterMap.1 hm
  obtain ⟨j,hj⟩:=List.getElem?_of_mem hp
  rw [List.getElem?_take] at hj
  split at hj
  ·rename_i QF;exact h j p QF hj hd
  ·cases hj
theorem FX {n T:Nat} {hs:List (Nat×Hint)} {s s':AS} {C:List Prop} (he:CW P n T ops hs s=some (s',C)) (hC:bz C) {a:Act} {w:World} (gb:iv S0 w0 n s a w) (hQ:∀a' w',iv S0 w0 n s' a' w'->Q .normal a' w'):P.follows .mixedOrders=true∧wpAny P .any ops.toArray Q ops.toArray.size (Array.replicate ops.toArray.size false) a {w with drawn:=w.drawn+1}:=by
 unfold CW at he
 split at he
 ·rename_i hm hB hT
  split at he
  ·rename_i gO C1 Ct
   split at he
   ·rename_i s2 D oN
    cases he
    obtain ⟨iJ,hD⟩:=bP.1 hC
    obtain ⟨φ,lJ⟩:=gb
    have gV:aJ S0 w0 n [] s a w.drew φ:=lJ.grow ((Below.refl _ _).drew)
    obtain ⟨hlen,-,gN⟩:=u6 _ 0 [] gO C1 Ct iJ rfl
    simp only [Nat.zero_add] at hlen gN
    obtain ⟨dj,im,vr⟩:=fT hB
    unfold oF at hT
    simp only [Bool.and_eq_true,decide_eq_true_eq] at hT
    obtain ⟨⟨⟨Gy,K2⟩,K1⟩,K0⟩:=hT
    have R9:T<ops.length:=by simpa using Gy
    have R8:gO.length=T:=by rw [hlen,List.length_take];omega
    let F:Nat->Value->World->Prop:=fun k v w'=>w.heap.size≤w'.heap.size∧ ∀x,gO[k]?=some x->Den (az s.H φ) (aM S0 w' φ []) w' v x
    have uF:∀k v w1 w2,Below w1.heap.size w1 w2->F k v w1->F k v w2:=by
     intro k v w1 w2 hb ⟨h1,h2⟩
     refine ⟨Nat.le_trans h1 hb.size,fun x hx=>(h2 x hx).mono (fun _ _ h=>h) (fun b hS=>⟨⟨by have:=hS.1;have:=hb.size;omega,hS.2⟩,hb.block b hS.1⟩) (fun id e m g hi=>?_)⟩
     obtain ⟨r,-,-,-,cm⟩:=aQ hi
     have:=(lJ.cY id g cm).2
     unfold aV;rw [hb.block g aj]
    refine ⟨hm,BA Gy K2 K1 K0 lJ.jQ hB F uF ?_ ?_ ops.toArray.size _ a _ ⟨(Below.refl _ _).drew,by simp,?_,rfl,rfl,?_,?_,fun _ _=>rfl⟩ (fun j _=>by simp only [List.size_toArray];exact getD_replicate_false _ _) (by simp)⟩
    ·
     intro k o vG ho a' w' hb jd fy
     have ra:ops[k]?=some o:=by simpa using ho
     obtain ⟨x,Dk,hx,ea,QL⟩:=gN k o (by rw [List.getElem?_take,if_pos vG];exact ra)
     have kO:Below w.heap.size w w':=hb
     have hg:=lJ.grow kO
     have JP:aJ S0 w0 a'.tmps.size [] (vL s ((ops.take T).filterMap (·.dst)) ops (gO.take k) o) ⟨a'.tmps,S0.si⟩ w' φ:=by
      refine ⟨rfl,rfl,hg.cZ,fun i av hi=>?_,hg.rows,hg.only,hg.inj,hg.cY,hg.apart,hg.new⟩
      show Den (az s.H φ) _ _ _ _
      unfold vL at hi
      rw [bM] at hi
      cases Iv:look (jn ops (gO.take k) (bm o)) i with
      | some y =>
       rw [Iv] at hi
       simp at hi;subst hi
       obtain ⟨d,p,h1,h2,h3,h4⟩:=n0 _ _ _ _ _ Iv
       rcases jd d h1 with hF|⟨q,hq,hn⟩
       ·have jj:rQ ops.toArray a' d=a'.tmps.getD i undef:=by
         unfold rQ
         have:(ops.toArray[d]?).bind (·.dst)=some i:=by simp [h2,h3]
         rw [this]
        rw [jj] at hF
        exact hF.2 y (bW _ _ _ _ h4)
       ·have gM:ops[d]?=some q:=by simpa using hq
        rw [h2] at gM;injection gM with gM;subst gM
        rw [h3] at hn;cases hn
      | none =>
       rw [Iv] at hi
       simp at hi
       obtain ⟨h1,h2⟩:=fR _ _ _ _ hi
       have hk:=fy i (fun j p hj hp=>(kq ops T i).1 h2 j p hj (by simpa using hp))
       have oz:a'.tmps.getD i undef=a.tmps.getD i undef:=hk
       show Den _ _ _ (a'.tmps.getD i undef) av
       rw [oz]
       exact hg.cG i av h1
     have:=EE (Q:=Q) (ops:=ops) ea QL JP (b:=a') rfl
     unfold gS at this ⊢
     split
     ·rename_i hw
      rw [if_pos hw] at this
      exact Oper.wp_mono (fun b' w2 ⟨v,h1,h2,h3,h4⟩=>⟨v,h1,h2,Nat.le_trans kO.size h3,fun y hy=>by rw [hx] at hy;injection hy with hy;subst hy;exact h4⟩) this
     ·rename_i hw
      rw [if_neg hw] at this
      exact ⟨kO.size,fun y hy=>by rw [hx] at hy;injection hy with hy;subst hy;exact this.2⟩
    ·
     intro vs w' hb xR
     have kO:Below w.heap.size w w':=hb
     have hg:=lJ.grow kO
     have jN:=jJ vs (ops.zipIdx.take T) a (by
      have h1:(ops.zipIdx.take T).filterMap (·.1.dst)=(ops.take T).filterMap (·.dst):=by
       conv=>rhs;rw [←List.zipIdx_map_fst 0 ops,←List.map_take]
       rw [List.filterMap_map];rfl
      rw [h1]
      exact List.Nodup.sublist ((List.take_sublist T ops).filterMap _) (by simpa using im))
     show wpList P ops.toArray Q (ops.drop T) (eJ (ops.zipIdx.take T) vs a) w'
     refine jO (S0:=S0) (w0:=w0) _ _ _ _ _ oN hD _ _ ⟨φ,?_⟩ hQ
     refine ⟨jN.1.trans lJ.jQ,jN.2.1.trans lJ.jT,hg.cZ,fun i av hi=>?_,hg.rows,hg.only,hg.inj,hg.cY,hg.apart,hg.new⟩
     show Den (az s.H φ) _ _ _ _
     rw [bM] at hi
     cases hh:look (jc (ops.take T) gO) i with
     | some y =>
      rw [hh] at hi
      simp at hi;subst hi
      obtain ⟨k,o,h1,h2,h3⟩:=kM _ _ _ _ hh
      have vG:k<T:=by have:=(List.getElem?_eq_some_iff.1 h3).1;omega
      have ho:ops[k]?=some o:=bW _ _ _ _ h1
      have hv:=jN.2.2.1 (o,k) ((lX ops T _).2 ⟨vG,ho⟩) i h2 (by rw [lJ.jQ];exact vr k o i (by simpa using ho) h2)
      have:(eJ (ops.zipIdx.take T) vs a).tmps.getD i undef=vs k:=by
       simp [hv]
      rw [this]
      exact (xR k vG).2 y h3
     | none =>
      rw [hh] at hi
      simp at hi
      obtain ⟨h1,h2⟩:=fR _ _ _ _ hi
      have hv:=jN.2.2.2 i (fun p hp hd=>(kq ops T i).1 h2 p.2 p.1 ((lX ops T p).1 hp).1 ((lX ops T p).1 hp).2 hd)
      have:(eJ (ops.zipIdx.take T) vs a).tmps.getD i undef=a.tmps.getD i undef:=by
       simp [hv]
      rw [this]
      exact hg.cG i av h1
    ·intro k o hk;rw [getD_replicate_false] at hk;cases hk
    ·intro k o s hk;rw [getD_replicate_false] at hk;cases hk
    ·intro k o hk;rw [getD_replicate_false] at hk;cases hk
   ·cases he
  ·cases he
 ·cases he
end
def bS (s s':AS):Prop:=∀S0 w0 n a w,iv S0 w0 n s a w->iv S0 w0 n s' a w
def BF (P:Program):Code->(Exit->Act->World->Prop)->Act->World->Prop
 | .skip,Q,a,w=>Q .normal a w
 | .region _ ops false,Q,a,w=>wpList P ops Q ops.toList a w
 | .region _ ops true,Q,a,w=>P.follows .mixedOrders=true∧wpAny P .any ops Q ops.size (Array.replicate ops.size false) a {w with drawn:=w.drawn+1}
 | .seq x y,Q,a,w=>BF P x (Exit.then (BF P y Q) Q) a w
 | .cond c x y,Q,a,w=>∃t:Bool,a.eval c= .bool t∧(t=true->BF P x Q a w)∧(t=false->BF P y Q a w)
 | .block id c,Q,a,w=>BF P c (Exit.inBlock id Q) a w
 | .loop c,Q,a,w=>∃(J:Nat->Act->World->Prop) (k0:Nat),J k0 a w∧ ∀k a w,J k a w->BF P c (Exit.then (fun a' w'=>∃k',k'<k∧J k' a' w') Q) a w
 | .exit id,Q,a,w=>Q (.exit id) a w
 | .ret,Q,a,w=>Q .ret a w
 | .rangeFunc g ps x b,Q,a,w=>(Code.rangeFunc g ps x b).wp P Q a w
 | _,_,_,_=>False
section
variable {P:Program} {Q Q':Exit->Act->World->Prop}
theorem mA (hQ:∀e a w,Q e a w->Q' e a w) (h:LetsOut Q):LetsOut Q':=let ⟨a,w,h⟩:=h;⟨a,w,hQ _ _ _ h⟩
theorem wC {o:Oper} {a:Act} {w:World} {K K':Act->World->Prop} (hK:∀a w,K a w->K' a w) (hQ:∀e a w,Q e a w->Q' e a w) (hh:o.wp P a w K Q):o.wp P a w K' Q':=by
 unfold Oper.wp at *
 generalize (execOp a.eval o).run P w=r at *
 cases r with
 | ok n w' =>
  cases n<;>simp only [Oper.upon] at hh ⊢ <;>
   first
    | exact hK _ _ hh
    | exact Calls.mono hh (fun e fw he=>by cases e<;>first|exact hK _ _ he|exact hQ _ _ _ he|exact mA hQ he)
    | exact Rows.mono hh (fun _ _ he=>hK _ _ he)
 | halt x w'=>cases x<;>simp only [Oper.upon] at hh ⊢ <;>first|exact hQ _ _ _ hh|exact hh
theorem j8 {ops:Array Oper} (hQ:∀e a w,Q e a w->Q' e a w):∀(l:List Oper) (a:Act) (w:World),wpList P ops Q l a w->wpList P ops Q' l a w
 | [],a,w,h=>hQ _ _ _ h
 | o::l,a,w,h=>by
  unfold wpList at h ⊢
  split at h
  ·rename_i hw
   rw [if_pos hw]
   exact h.imp (wC (j8 hQ l) hQ) fun ⟨h1,h2⟩=>⟨h1,mA hQ h2⟩
  ·rename_i hw
   rw [if_neg hw]
   exact j8 hQ l _ _ h
theorem Bz {ops:Array Oper} {i:Nat} {a:Act} {w:World} {K K':Act->World->Prop} (hK:∀a w,K a w->K' a w) (hQ:∀e a w,Q e a w->Q' e a w) (hh:wpOp P ops Q i K a w):wpOp P ops Q' i K' a w:=by
 unfold wpOp at *
 split
 ·exact hK _ _ (by simpa [*] using hh)
 ·rename_i o ho
  simp only [ho] at hh
  split
  ·rename_i hw;simp only [hw,if_true] at hh;exact hh.imp (wC hK hQ) fun ⟨h1,h2⟩=>⟨h1,mA hQ h2⟩
  ·rename_i hw;simp only [hw] at hh;exact hK _ _ hh
theorem rP {md:Region.Mode} {ops:Array Oper} (hQ:∀e a w,Q e a w->Q' e a w):∀(fuel:Nat) (listed:Array Bool) (a:Act) (w:World),wpAny P md ops Q fuel listed a w->wpAny P md ops Q' fuel listed a w
 | 0,_,_,_,h=>⟨h.1,hQ _ _ _ h.2⟩
 | fuel+1,listed,a,w,h=>⟨fun h0=>hQ _ _ _ (h.1 h0),fun i hi=>Bz (rP hQ fuel _) hQ (h.2 i hi)⟩
theorem lQ {K K':Act->World->Prop} (hK:∀a w,K a w->K' a w) (hQ:∀e a w,Q e a w->Q' e a w) (e:Exit) (a:Act) (w:World) (h:Exit.then K Q e a w):Exit.then K' Q' e a w:=by
 cases e<;>first|exact hK _ _ h|exact hQ _ _ _ h
theorem xL {id:Nat} (hQ:∀e a w,Q e a w->Q' e a w) (e:Exit) (a:Act) (w:World) (h:Exit.inBlock id Q e a w):Exit.inBlock id Q' e a w:=by
 cases e with
 | exit i =>
  simp only [Exit.inBlock] at h ⊢
  split
  ·rename_i hi;rw [if_pos hi] at h;exact hQ _ _ _ h
  ·rename_i hi;rw [if_neg hi] at h;exact hQ _ _ _ h
 | _=>exact hQ _ _ _ h
theorem eh:∀(c:Code) (Q Q':Exit->Act->World->Prop),(∀e a w,Q e a w->Q' e a w)-> ∀(a:Act) (w:World),BF P c Q a w->BF P c Q' a w
 | .skip,_,_,hQ,a,w,h=>hQ _ _ _ h
 | .region _ ops false,_,_,hQ,a,w,h=>j8 hQ _ _ _ h
 | .region _ ops true,_,_,hQ,a,w,h=>⟨h.1,rP hQ _ _ _ _ h.2⟩
 | .seq x y,_,_,hQ,a,w,h=>eh x _ _ (lQ (eh y _ _ hQ) hQ) a w h
 | .cond c x y,_,_,hQ,a,w,⟨t,h1,h2,h3⟩=>⟨t,h1,fun e=>eh x _ _ hQ a w (h2 e),fun e=>eh y _ _ hQ a w (h3 e)⟩
 | .block id c,_,_,hQ,a,w,h=>eh c _ _ (xL hQ) a w h
 | .loop c,_,_,hQ,a,w,⟨J,k0,h0,h⟩=>⟨J,k0,h0,fun k a w hJ=>eh c _ _ (lQ (fun _ _ h=>h) hQ) a w (h k a w hJ)⟩
 | .exit id,_,_,hQ,a,w,h=>hQ _ _ _ h
 | .ret,_,_,hQ,a,w,h=>hQ _ _ _ h
 | .rangeFunc g ps x b,_,_,hQ,a,w,h=>wp_mono h hQ
 | .scope _,_,_,_,_,_,h=>h.elim
 | .label _,_,_,_,_,_,h=>h.elim
 | .goto _,_,_,_,_,_,h=>h.elim
 | .refuse _,_,_,_,_,_,h=>h.elim
end
theorem Eb {P:Program} {c:Code} {Q:Exit->Act->World->Prop} {a:Act} {w:World} (J:Nat->Act->World->Prop) (k0:Nat) (h0:J k0 a w)
  (round:∀k a w,J k a w->c.wp P (Exit.then (fun a' w'=>∃k',k'<k∧J k' a' w') Q) a w):(Code.loop c).wp P Q a w:=by
 intro b k cs
 have key:∀n a w,J n a w-> ∃e a' w',Q e a' w'∧Arrives P (lone (b.at a (.code c:: .inLoop c::k)) cs w) b k cs e a' w':=by
  intro n
  induction n using Nat.strongRecOn with
  | _ n ih =>
   intro a w hJ
   obtain ⟨e,Gi,EU,hq,sI⟩:=round n a w hJ b (.inLoop c::k) cs
   cases e with
   | normal =>
    obtain ⟨k',dj,Ng⟩:=hq
    obtain ⟨Sw,SD,QW,Po,KY⟩:=ih k' dj Gi EU Ng
    exact ⟨Sw,SD,QW,Po,.of_steps (Steps.trans sI (.one step_inLoop)) KY⟩
   | exit id=>exact ⟨_,Gi,EU,hq,.pass (x:=.inLoop c) rfl (fun _ _=>.inl (by simp)) sI⟩
   | goto l=>exact ⟨_,Gi,EU,hq,.pass (x:=.inLoop c) rfl (fun _ _=>.inl (by simp)) sI⟩
   | ret=>exact ⟨_,Gi,EU,hq,.pass (x:=.inLoop c) rfl (fun _ _=>.inl (by simp)) sI⟩
   | panic ch=>exact ⟨_,Gi,EU,hq,.pass (x:=.inLoop c) rfl (fun _ _=>.inl (by simp)) sI⟩
   | outgrown=>exact ⟨_,Gi,EU,hq,.pass (x:=.inLoop c) rfl (fun _ _=>.inl (by simp)) sI⟩
 obtain ⟨e,a',w',hq,sI⟩:=key k0 a w h0
 exact ⟨e,a',w',hq,.of_steps (.one step_loop) sI⟩
theorem kA {P:Program}:∀(c:Code) (Q:Exit->Act->World->Prop) (a:Act) (w:World),BF P c Q a w->c.wp P Q a w
 | .skip,_,a,w,h=>wp_skip h
 | .region _ ops false,_,a,w,h=>wp_region_list h
 | .region _ ops true,_,a,w,h=>wp_region_any h.1 h.2
 | .seq x y,Q,a,w,h=>wp_seq (kA x _ a w (eh x _ _ (lQ (kA y Q) fun _ _ _ h=>h) a w h))
 | .cond c x y,Q,a,w,⟨t,h1,h2,h3⟩=>wp_cond_split h1 (fun e=>kA x Q a w (h2 e)) (fun e=>kA y Q a w (h3 e))
 | .block id c,_,a,w,h=>wp_block (kA c _ a w h)
 | .loop c,_,a,w,⟨J,k0,h0,h⟩=>Eb J k0 h0 fun k a w hJ=>kA c _ a w (h k a w hJ)
 | .exit id,_,a,w,h=>wp_exit h
 | .ret,_,a,w,h=>wp_ret h
 | .rangeFunc g ps x b,_,a,w,h=>h
 | .scope _,_,_,_,h=>h.elim
 | .label _,_,_,_,h=>h.elim
 | .goto _,_,_,_,h=>h.elim
 | .refuse _,_,_,_,h=>h.elim
def mark (r:Nat):Deferred:={target:=.collected r,args:= #[]}
structure k9 (S0:bo) (w0:World) (S1:bo) (w1:World) (ms:List Nat):Prop where
 kept:Kept S0 w0 w1
 sub:∀b,S1.S b->S0.S b
 X:∀b,S1.X b->w0.heap.size≤b∨S0.X b
 fix:S1.fix=S0.fix
 si:S1.si=ms.map mark++S0.si
 nodup:ms.Nodup
 marks:∀r∈ms,w0.heap.size≤r∧r<w1.heap.size∧w1.heap[r]?=some (.deferred (some []))∧ ¬S1.S r∧ ¬S1.X r
theorem k9.refl {S0:bo} {w0 w:World} (h:Kept S0 w0 w):k9 S0 w0 S0 w0 []:=⟨⟨rfl,rfl,rfl,Nat.le_refl _,fun _ _ _=>rfl,h.g0,h.gx⟩,fun _ h=>h,fun _ h=>.inr h,rfl,rfl,List.nodup_nil,fun _ h=>by cases h⟩
theorem Kept.trans {S0 S1:bo} {w0 w1 w2:World} (h:Kept S0 w0 w1) (k:Kept S1 w1 w2) (hX:∀b,S1.X b->w0.heap.size≤b∨S0.X b):Kept S0 w0 w2 :=
 ⟨k.os.trans h.os,k.tape.trans h.tape,k.output.trans h.output,Nat.le_trans h.size k.size,fun b hb hx=>(k.block b (Nat.lt_of_lt_of_le hb h.size) fun Rh=>(hX b Rh).elim (fun h=>aj) hx).trans (h.block b hb hx),h.g0,h.gx⟩
theorem k9.trans {S0 S1 S2:bo} {w0 w1 w2:World} {ms Qq:List Nat} (h:k9 S0 w0 S1 w1 ms) (k:k9 S1 w1 S2 w2 Qq):k9 S0 w0 S2 w2 (Qq++ms) where
 kept:=h.kept.trans k.kept h.X
 sub:=fun b hb=>h.sub b (k.sub b hb)
 X:=fun b hb=>(k.X b hb).elim (fun hb=>.inl (Nat.le_trans h.kept.size hb)) fun hb=>h.X b hb
 fix:=k.fix.trans h.fix
 si:=by rw [k.si,h.si,List.map_append,List.append_assoc]
 nodup:=by
  rw [List.nodup_append]
  refine ⟨k.nodup,h.nodup,fun a ha b hb e=>?_⟩
  subst e
  have:=(k.marks a ha).1
  have:=(h.marks a hb).2.1
  omega
 marks:=fun r hr=>by
  rcases List.mem_append.1 hr with hr|hr
  ·obtain ⟨h1,h2⟩:=k.marks r hr
   exact ⟨Nat.le_trans h.kept.size h1,h2⟩
  ·obtain ⟨h1,h2,h3,h4,h5⟩:=h.marks r hr
   exact ⟨h1,Nat.lt_of_lt_of_le h2 k.kept.size,(k.kept.block r h2 h5).trans h3,fun hs=>h4 (k.sub r hs),fun hx=>(k.X r hx).elim (fun h=>aj) h5⟩
def m5 (S0:bo) (w0:World) (n:Nat) (s:AS) (a:Act) (w:World):Prop:=∃S1 w1 ms,k9 S0 w0 S1 w1 ms∧iv S1 w1 n s a w
theorem iv.one {S0:bo} {w0:World} {n:Nat} {s:AS} {a:Act} {w:World} (h:iv S0 w0 n s a w):m5 S0 w0 n s a w:=⟨S0,w0,[],k9.refl h.choose_spec.cZ,h⟩
theorem m5.after {S0 S1:bo} {w0 w1:World} {ms:List Nat} {n:Nat} {s:AS} {a:Act} {w:World} (he:k9 S0 w0 S1 w1 ms) (h:m5 S1 w1 n s a w):m5 S0 w0 n s a w :=
 let ⟨S2,w2,_,h1,h2⟩:=h;⟨S2,w2,_,he.trans h1,h2⟩
def bf (P:Program) (n:Nat) (c:Code) (Q:Exit->AS->Prop) (s:AS):Prop :=
 ∀S0 w0 a w,iv S0 w0 n s a w->BF P c (fun e a' w'=>∃s',Q e s'∧m5 S0 w0 n s' a' w') a w
theorem bf.TP {P:Program} {n:Nat} {c:Code} {Q:Exit->AS->Prop} {s:AS} (h:bf P n c Q s) {S0:bo} {w0:World} {a:Act} {w:World} (hs:m5 S0 w0 n s a w):BF P c (fun e a' w'=>∃s',Q e s'∧m5 S0 w0 n s' a' w') a w:=by
 obtain ⟨S1,w1,ms,h1,h2⟩:=hs
 exact eh _ _ _ (fun e a' w' ⟨s',hq,bY⟩=>⟨s',hq,bY.after h1⟩) _ _ (h S1 w1 a w h2)
def rM (K:AS->Prop) (Q:Exit->AS->Prop):Exit->AS->Prop
 | .normal,s=>K s
 | e,s=>Q e s
def NT (id:Nat) (Q:Exit->AS->Prop):Exit->AS->Prop
 | .exit pc,s=>if pc=id then Q .normal s else Q (.exit pc) s
 | e,s=>Q e s
def iq:Code->Code
 | .seq a _=>a
 | c=>c
def dL:Code->Code
 | .seq _ b=>b
 | c=>c
def oE:Code->Code
 | .cond _ a _=>a
 | c=>c
def oP:Code->Code
 | .cond _ _ b=>b
 | c=>c
def fz:Code->Code
 | .block _ b=>b
 | .loop b=>b
 | .scope b=>b
 | c=>c
def Ar:Code->Bool
 | .seq _ _=>true
 | _=>false
def lh:Code->Option Operand
 | .cond x _ _=>some x
 | _=>none
def Jv:Code->Option Nat
 | .block id _=>some id
 | _=>none
def HW:Code->Bool
 | .loop _=>true
 | _=>false
def L3:Code->Option Nat
 | .exit id=>some id
 | _=>none
def HV:Code->Bool
 | .ret=>true
 | _=>false
def Cj:Code->Bool
 | .skip=>true
 | _=>false
section
variable {P:Program} {n:Nat} {c:Code} {Q:Exit->AS->Prop} {s:AS}
theorem bf.seq (hc:Ar c=true) (h:bf P n (iq c) (rM (bf P n (dL c) Q) Q) s):bf P n c Q s:=by
 cases c with
 | seq x y =>
  intro S0 w0 a w hs
  refine eh x _ _ (fun e a' w' ⟨s',hq,bY⟩=>?_) a w (h S0 w0 a w hs)
  cases e with
  | normal=>exact bf.TP hq bY
  | _=>exact ⟨s',hq,bY⟩
 | _=>cases hc
theorem bf.cond {x:Operand} {b:Bool} (hc:lh c=some x) (hx:bq s x= .val (.bool b)) (ht:b=true->bf P n (oE c) Q s) (hf:b=false->bf P n (oP c) Q s):bf P n c Q s:=by
 cases c with
 | cond y p q =>
  cases hc
  intro S0 w0 a w hs
  have hv:a.eval x= .bool b:=by
   obtain ⟨φ,bY⟩:=hs
   exact bK (hx ▸ bY.bq x)
  exact ⟨b,hv,fun e=>ht e S0 w0 a w hs,fun e=>hf e S0 w0 a w hs⟩
 | _=>cases hc
theorem bf.block {id:Nat} (hc:Jv c=some id) (h:bf P n (fz c) (NT id Q) s):bf P n c Q s:=by
 cases c with
 | block pc b =>
  cases hc
  intro S0 w0 a w hs
  refine eh b _ _ (fun e a' w' ⟨s',hq,bY⟩=>?_) a w (h S0 w0 a w hs)
  cases e with
  | exit i =>
   simp only [NT] at hq
   simp only [Exit.inBlock]
   split
   ·rename_i hi;rw [if_pos hi] at hq;exact ⟨s',hq,bY⟩
   ·rename_i hi;rw [if_neg hi] at hq;exact ⟨s',hq,bY⟩
  | _=>exact ⟨s',hq,bY⟩
 | _=>cases hc
theorem bf.exit {id:Nat} (hc:L3 c=some id) (h:Q (.exit id) s):bf P n c Q s:=by
 cases c with
 | exit i=>cases hc;intro S0 w0 a w hs;exact ⟨s,h,hs.one⟩
 | _=>cases hc
theorem bf.ret (hc:HV c=true) (h:Q .ret s):bf P n c Q s:=by
 cases c with
 | ret=>intro S0 w0 a w hs;exact ⟨s,h,hs.one⟩
 | _=>cases hc
theorem bf.skip (hc:Cj c=true) (h:Q .normal s):bf P n c Q s:=by
 cases c with
 | skip=>intro S0 w0 a w hs;exact ⟨s,h,hs.one⟩
 | _=>cases hc
theorem bf.oQ {s':AS} (hw:bS s s') (h:bf P n c Q s'):bf P n c Q s:=fun S0 w0 a w hs=>h S0 w0 a w (hw S0 w0 n a w hs)
theorem bf.mono {Q':Exit->AS->Prop} (h:bf P n c Q s) (hq:∀e s,Q e s->Q' e s):bf P n c Q' s:=fun S0 w0 a w hs=>eh c _ _ (fun e _ _ ⟨s',h1,h2⟩=>⟨s',hq e s' h1,h2⟩) a w (h S0 w0 a w hs)
def Round {ι:Type} (I:ι->AS) (Inv:ι->Prop) (m:ι->Nat) (Q:Exit->AS->Prop) (x:ι):Exit->AS->Prop:=rM (fun s'=>∃y,Inv y∧m y<m x∧bS s' (I y)) Q
theorem bf.loop {ι:Type} (I:ι->AS) (Inv:ι->Prop) (m:ι->Nat) (hc:HW c=true) (x0:ι) (h0:Inv x0) (hw:bS s (I x0)) (h:∀x,Inv x->bf P n (fz c) (Round I Inv m Q x) (I x)):bf P n c Q s:=by
 cases c with
 | loop b =>
  intro S0 w0 a w hs
  refine ⟨fun k a w=>∃x,Inv x∧m x=k∧m5 S0 w0 n (I x) a w,m x0,⟨x0,h0,rfl,(hw S0 w0 n a w hs).one⟩,?_⟩
  rintro k a w ⟨x,hx,rfl,hs⟩
  refine eh b _ _ (fun e a' w' ⟨s',hq,bY⟩=>?_) a w (bf.TP (h x hx) hs)
  cases e with
  | normal =>
   obtain ⟨y,hy,dj,Ua⟩:=hq
   obtain ⟨S1,w1,ms,h1,h2⟩:=bY
   exact ⟨m y,dj,y,hy,rfl,S1,w1,ms,h1,Ua S1 w1 n a' w' h2⟩
  | _=>exact ⟨s',hq,bY⟩
 | _=>cases hc
end
structure pB where
 hs:List (Nat×Hint):=[]
 T:Nat:=0
def se (P:Program) (n:Nat) (c:Code) (x:pB) (s:AS):Option (AS×List Prop) :=
 match c with
 | .region _ ⟨l⟩ false=>j6 P n l x.hs l 0 s
 | .region _ ⟨l⟩ true=>CW P n x.T l x.hs s
 | _=>none
def kS (P:Program) (n:Nat):List pB->Code->AS->Option (AS×List Prop)
 | [],_,s=>some (s,[])
 | x::l,c,s=>match Ar c with
  | true=>(match se P n (iq c) x s with
   | some (s1,C)=>(match kS P n l (dL c) s1 with|some (s2,D)=>some (s2,C++D)|none=>none)
   | none=>none)
  | false=>none
def qn:Nat->Code->Code
 | 0,c=>c
 | k+1,c=>qn k (dL c)
section
variable {P:Program} {n:Nat} {c:Code} {Q:Exit->AS->Prop} {s s':AS} {C:List Prop}
theorem A8 {x:pB} (he:se P n c x s=some (s',C)) (hC:bz C) (h:Q .normal s'):bf P n c Q s:=by
 intro S0 w0 a w hs
 unfold se at he
 split at he
 ·exact jO (S0:=S0) (w0:=w0) _ _ _ _ _ he hC a w hs fun a' w' bY=>⟨s',h,bY.one⟩
 ·exact FX (S0:=S0) (w0:=w0) he hC hs fun a' w' bY=>⟨s',h,bY.one⟩
 ·cases he
theorem bf.NY (x:pB) (he:se P n c x s=some (s',C)) (hC:bz C) (h:Q .normal s'):bf P n c Q s:=A8 he hC h
theorem bf.OK:∀(l:List pB) {c:Code} {s s':AS} {C:List Prop},kS P n l c s=some (s',C)->bz C->bf P n (qn l.length c) Q s'->bf P n c Q s
 | [],c,s,s',C,he,hC,h=>by cases he;exact h
 | x::l,c,s,s',C,he,hC,h=>by
  simp only [kS] at he
  split at he
  ·rename_i Rt
   split at he
   ·rename_i s1 C1 h1
    split at he
    ·rename_i s2 D h2
     cases he
     obtain ⟨iJ,hD⟩:=bP.1 hC
     exact bf.seq Rt (A8 h1 iJ (bf.OK l h2 hD h))
    ·cases he
   ·cases he
  ·cases he
end
def kG (a b:Nat):AV->AV
 | .ref i=>match Nat.beq i a with|true=>.ref b|false=>.ref i
 | .pre i n=>match Nat.beq i a with|true=>.pre b n|false=>.pre i n
 | .jr i o n=>match Nat.beq i a with|true=>.jr b o n|false=>.jr i o n
 | .addr i o=>match Nat.beq i a with|true=>.addr b o|false=>.addr i o
 | .agg _=>.dead
 | .bt _=>.dead
 | x=>x
def E_ (a b:Nat):AV->AV
 | .agg cs=>.agg (cs.map (kG a b))
 | x=>kG a b x
def Mv (a b:Nat):AV->AV
 | .bt cs=>.bt (cs.map (E_ a b))
 | x=>E_ a b x
def eX (a b:Nat) (r:Row):Row:=match r.pure with|true=>r|false=>⟨r.e,false,r.full,r.cells.map (kG a b)⟩
def oY {α:Type} (a b:Nat):List (Nat×α)->List (Nat×α)
 | []=>[]
 | (k,x)::l=>match Nat.beq k a with|true=>(b,x)::oY a b l|false=>(k,x)::oY a b l
def rename (a b:Nat) (s:AS):AS:=⟨er (Mv a b) s.F,er (eX a b) (oY a b s.H)⟩
theorem nz {α:Type} (a b:Nat):∀(l:List (Nat×α)),look l b=none-> ∀i,look (oY a b l) i=if i=b then look l a else if i=a then none else look l i
 | [],_,i=>by simp [oY,look]
 | (k,x)::l,hb,i=>by
  rw [aD] at hb
  have RO:k≠b:=fun e=>by rw [if_pos e] at hb;cases hb
  rw [if_neg RO] at hb
  have ih:=nz a b l hb i
  rcases bJ k a with ⟨h,e⟩|⟨h,e⟩
  ·simp only [oY,h,aD,ih]
   by_cases hi:i=b
   ·subst hi;simp [e]
   ·by_cases MX:i=a
    ·have TA:b≠a:=fun e'=>hi (by rw [e',MX])
     simp [MX,TA,Ne.symm TA]
    ·have:k≠i:=fun e'=>MX (by rw [←e',e])
     simp [hi,MX,Ne.symm hi,this]
  ·simp only [oY,h,aD,ih]
   by_cases hi:i=b
   ·subst hi;simp [RO,e]
   ·by_cases MX:i=a
    ·subst MX;simp [hi,e]
    ·simp [hi,MX]
section
variable {S0:bo} {w0 w:World} {n:Nat} {s:AS} {a:Act} {φ:Nat->Option Nat}
theorem cK (x y:Nat) (r:Row):(eX x y r).e=r.e∧(eX x y r).cells.length=r.cells.length∧(eX x y r).pure=r.pure∧(eX x y r).full=r.full:=by
 unfold eX
 cases h:r.pure<;>simp [h]
theorem aJ.Kg (h:aJ S0 w0 n [] s a w φ) (x y:Nat) (O4:y<1000000000000) (cX:x≠y) (hy:look s.H y=none):∃ cE,aJ S0 w0 n [] (rename x y s) a w cE:=by
 let cE:Nat->Option Nat:=fun i=>if i=y then φ x else if i=x then none else φ i
 have Rb:φ y=none:=h.only y hy
 have mE:∀i g,cE i=some g-> ∃j,φ j=some g∧(i=y->j=x)∧(i≠y->j=i):=by
  intro i g hi
  by_cases e:i=y
  ·have:φ x=some g:=by simpa [cE,e] using hi
   exact ⟨x,this,fun _=>rfl,fun h=>absurd e h⟩
  ·by_cases e2:i=x
   ·simp [cE,e2,cX] at hi
   ·have:φ i=some g:=by simpa [cE,e,e2] using hi
    exact ⟨i,this,fun h=>absurd h e,fun _=>rfl⟩
 have Ix:∀b,aM S0 w φ [] b->aM S0 w cE [] b:=by
  intro b ⟨h1,h2,h3,h4⟩
  refine ⟨h1,h2,fun i hi=>?_,h4⟩
  obtain ⟨j,hj,-⟩:=mE i b hi
  exact h3 j hj
 have jZ:∀i,look (rename x y s).H i=(if i=y then look s.H x else if i=x then none else look s.H i).map (eX x y):=by
  intro i
  unfold rename
  rw [cz,nz x y _ hy]
 have hI:∀i z,az s.H φ i=some z->az (rename x y s).H cE (if i=x then y else i)=some z:=by
  intro i z hi
  obtain ⟨e,m,b⟩:=z
  obtain ⟨r,hl,h1,h2,h3⟩:=aQ hi
  by_cases e1:i=x
  ·subst e1
   rw [if_pos rfl,bu (r:=eX i y r) (by rw [jZ,if_pos rfl,hl];rfl),(cK i y r).1,(cK i y r).2.1,h1,h2]
   simp [cE,h3]
  ·have e2:i≠y:=fun e=>by subst e;rw [hy] at hl;cases hl
   rw [if_neg e1,bu (r:=eX x y r) (by rw [jZ,if_neg e2,if_neg e1,hl];rfl),(cK x y r).1,(cK x y r).2.1,h1,h2]
   simp [cE,e1,e2,h3]
 have sJ:∀b,aM S0 w φ [] b->aM S0 w cE [] b∧w.heap[b]?=w.heap[b]?:=fun b h=>⟨Ix b h,rfl⟩
 have ok:jV (az s.H φ) (az (rename x y s).H cE) (aM S0 w φ []) (aM S0 w cE []) w (kG x y):=by
  refine ⟨fun v av hv h1 h2=>?_,fun _=>rfl,fun _=>rfl⟩
  have pick:∀i z,az s.H φ i=some z->(Nat.beq i x=true∧az (rename x y s).H cE y=some z)∨(Nat.beq i x=false∧az (rename x y s).H cE i=some z):=by
   intro i z hi
   have:=hI i z hi
   rcases bJ i x with ⟨hb,e⟩|⟨hb,e⟩
   ·rw [if_pos e] at this;exact .inl ⟨hb,this⟩
   ·rw [if_neg e] at this;exact .inr ⟨hb,this⟩
  cases hv with
  | rep h=>cases h with
   | val v=>exact .rep (.val v)
   | nil=>exact .rep .nil
   | agg vs cs _ _=>exact absurd rfl (h1 cs)
   | bt vs cs _ _=>exact absurd rfl (h2 cs)
   | arr vs cs hl h=>exact .rep ((cB.arr vs cs hl h).mono sJ)
   | sl A n c e us row hl hn hc hm ha h=>exact .rep ((cB.sl A n c e us row hl hn hc hm ha h).mono sJ)
   | pf A n e us row hl hn hm ha h=>exact .rep ((cB.pf A n e us row hl hn hm ha h).mono sJ)
   | ptr ad us row off hl hs ha h=>exact .rep ((cB.ptr ad us row off hl hs ha h).mono sJ)
   | lK f vs cs hl h=>exact .rep ((cB.lK f vs cs hl h).mono sJ)
  | agg vs cs _ _=>exact absurd rfl (h1 cs)
  | bt vs cs _ _=>exact absurd rfl (h2 cs)
  | ref i e m g l c hi hm hc hx hs=>rcases pick i _ hi with ⟨hb,jk⟩|⟨hb,jk⟩<;>simp only [kG,hb]<;>exact .ref _ e m g l c jk hm hc hx hs
  | cH i e hi=>rcases pick i _ hi with ⟨hb,jk⟩|⟨hb,jk⟩<;>simp only [kG,hb]<;>exact .cH _ e jk
  | pre i k e m g l c hi hn hm hc hx hs=>rcases pick i _ hi with ⟨hb,jk⟩|⟨hb,jk⟩<;>simp only [kG,hb]<;>exact .pre _ k e m g l c jk hn hm hc hx hs
  | dF i e hi=>rcases pick i _ hi with ⟨hb,jk⟩|⟨hb,jk⟩<;>simp only [kG,hb]<;>exact .dF _ e jk
  | jr i off k e m l c g A hi hn hm hc hx ha=>rcases pick i _ hi with ⟨hb,jk⟩|⟨hb,jk⟩<;>simp only [kG,hb]<;>exact .jr _ off k e m l c g A jk hn hm hc hx ha
  | addr i off e m g hi=>rcases pick i _ hi with ⟨hb,jk⟩|⟨hb,jk⟩<;>simp only [kG,hb]<;>exact .addr _ off e m g jk
  | dead v=>exact .dead _
 have B7:∀z:AV,(∀cs,z≠ .agg cs)->E_ x y z=kG x y z:=by
  intro z hz
  cases z with
  | agg cs=>exact absurd rfl (hz cs)
  | _=>rfl
 have B6:∀z:AV,(∀cs,z≠ .bt cs)->Mv x y z=E_ x y z:=by
  intro z hz
  cases z with
  | bt cs=>exact absurd rfl (hz cs)
  | _=>rfl
 refine ⟨cE,h.jQ,h.jT,h.cZ,fun i av hi=>?_,fun i r hr=>?_,fun i hi=>?_,fun i j g hi hj=>?_,fun i g hi=>?_,fun i g hi=>by simp,h.new⟩
 ·unfold rename at hi
  rw [cz] at hi
  cases hl:look s.F i with
  | none=>rw [hl] at hi;cases hi
  | some z =>
   rw [hl] at hi;injection hi with hi;subst hi
   exact ok.two (h.cG i z hl) (fun _=>rfl) B7 (fun _=>rfl) B6
 ·rw [jZ] at hr
  have:∃j q,look s.H j=some q∧cE i=φ j∧r=eX x y q:=by
   by_cases e:i=y
   ·rw [if_pos e] at hr
    cases hl:look s.H x with
    | none=>rw [hl] at hr;cases hr
    | some q=>rw [hl] at hr;injection hr with hr;exact ⟨x,q,hl,by simp [cE,e],hr.symm⟩
   ·rw [if_neg e] at hr
    by_cases e2:i=x
    ·rw [if_pos e2] at hr;cases hr
    ·rw [if_neg e2] at hr
     cases hl:look s.H i with
     | none=>rw [hl] at hr;cases hr
     | some q=>rw [hl] at hr;injection hr with hr;exact ⟨i,q,hl,by simp [cE,e,e2],hr.symm⟩
  obtain ⟨j,q,hq,MG,rfl⟩:=this
  have aN:=h.rows j q hq
  rw [MG]
  unfold bN at aN ⊢
  cases hb:φ j with
  | none =>
   rw [hb] at aN
   have:=(cK x y q).2.1
   simp only at aN ⊢
   rw [aN] at this;exact List.length_eq_zero_iff.1 this
  | some g =>
   rw [hb] at aN
   obtain ⟨cur,te,fr,hg,hf,hlen,mT,hc⟩:=aN
   refine ⟨cur,te,fr,hg,hf,by rw [(cK x y q).2.1];exact hlen,by rw [(cK x y q).2.1,(cK x y q).2.2.2];exact mT,fun j u z hu hz=>?_⟩
   rw [(cK x y q).2.2.1]
   unfold bj
   cases hp:q.pure with
   | true =>
    have:eX x y q=q:=by unfold eX;rw [hp]
    rw [this] at hz
    have:=hc j u z hu hz
    unfold bj at this;rw [hp] at this
    exact this.mono sJ
   | false =>
    have:(eX x y q).cells=q.cells.map (kG x y):=by unfold eX;rw [hp]
    rw [this,List.getElem?_map] at hz
    cases hj:q.cells[j]? with
    | none=>rw [hj] at hz;cases hz
    | some z' =>
     rw [hj] at hz;injection hz with hz;subst hz
     have:=hc j u z' hu hj
     unfold bj at this;rw [hp] at this
     exact ok.all this
 ·rw [jZ] at hi
  by_cases e:i=y
  ·rw [if_pos e] at hi
   cases hl:look s.H x with
   | none=>simp [cE,e,h.only x hl]
   | some q=>rw [hl] at hi;cases hi
  ·rw [if_neg e] at hi
   by_cases e2:i=x
   ·simp [cE,e2,cX]
   ·rw [if_neg e2] at hi
    cases hl:look s.H i with
    | none=>simp [cE,e,e2,h.only i hl]
    | some q=>rw [hl] at hi;cases hi
 ·obtain ⟨i',h1,h2,h3⟩:=mE i g hi
  obtain ⟨j',h4,h5,h6⟩:=mE j g hj
  have e:=h.inj i' j' g h1 h4
  by_cases ei:i=y<;>by_cases ej:j=y
  ·rw [ei,ej]
  ·have:=h2 ei;have:=h6 ej
   have:j=x:=aj
   subst this
   simp [cE,cX] at hj
  ·have:=h3 ei;have:=h5 ej
   have:i=x:=aj
   subst this
   simp [cE,cX] at hi
  ·have:=h3 ei;have:=h6 ej;omega
 ·obtain ⟨j,h1,h2,h3⟩:=mE i g hi
  have:=h.cY j g h1
  refine ⟨⟨?_,this.1.2⟩,this.2⟩
  by_cases e:i=y
  ·exact .inl aj
  ·rw [←h3 e];exact this.1.1
end
inductive Wk where
 | gP (id:Nat)
 | vp (a b:Nat)
 | nil (slot id e:Nat)
 | aa (cG ids:List Nat)
 | loose (id:Nat)
def mR (s:AS):List Nat->List (Nat×AV)
 | []=>[]
 | i::l=>(i,jS s i)::mR s l
def rX (H:List (Nat×Row)):List Nat->List (Nat×Row)
 | []=>[]
 | i::l=>match look H i with|some r=>(i,r)::rX H l|none=>rX H l
def ga (ids:List Nat):List (Nat×Row)->List Nat
 | []=>[]
 | (k,_)::l=>match ids.any (Nat.beq k) with|true=>ga ids l|false=>k::ga ids l
def DF (s:AS) (id:Nat):Option AS:=match look s.H id with|some r=>some ⟨s.F,(id,⟨r.e,r.pure,false,r.cells⟩)::cU s.H id⟩|none=>none
def Mi (s:AS):Wk->Option AS
 | .gP id=>(match look s.H id with|some r=>(match r.pure with|true=>some (gP id r s)|false=>none)|none=>none)
 | .vp x y=>(match Nat.beq x y,Nat.ble y 999999999999 with|false,true=>some (rename x y (ck y s))|_,_=>none)
 | .nil i id e=>(match jS s i with| .nil=>some (lr ⟨(ck id s).F,(id,⟨e,true,false,[]⟩)::(ck id s).H⟩ i (.ref id))|_=>none)
 | .aa is ids=>some ⟨(a8 ⟨mR s is,s.H⟩ (ga ids s.H)).F,rX (a8 ⟨mR s is,s.H⟩ (ga ids s.H)).H ids⟩
 | .loose id=>DF s id
def wk:List Wk->AS->Option AS
 | [],s=>some s
 | x::l,s=>match Mi s x with|some s1=>wk l s1|none=>none
theorem ur (s:AS):∀(l:List Nat) (i:Nat) (x:AV),look (mR s l) i=some x->x=jS s i
 | [],i,x,h=>by cases h
 | k::l,i,x,h=>by
  simp only [mR,aD] at h
  by_cases e:k=i
  ·rw [if_pos e] at h;injection h with h;rw [←h,e]
  ·rw [if_neg e] at h;exact ur s l i x h
theorem uq (H:List (Nat×Row)):∀(l:List Nat) (i:Nat),look (rX H l) i=if i∈l then look H i else none
 | [],i=>by simp [rX,look]
 | k::l,i=>by
  simp only [rX]
  have ih:=uq H l i
  cases hk:look H k with
  | none =>
   rw [ih]
   by_cases e:i=k
   ·subst e;simp [hk]
   ·simp [e]
  | some r =>
   simp only [aD,ih]
   by_cases e:k=i
   ·subst e;simp [hk]
   ·simp [e,Ne.symm e]
theorem ny (ids:List Nat):∀(H:List (Nat×Row)) (i:Nat),i ∉ ids->look H i=none∨i∈ga ids H
 | [],i,_=>.inl rfl
 | (k,r)::H,i,hi=>by
  simp only [ga,aD]
  by_cases e:k=i
  ·subst e
   right
   have:ids.any (Nat.beq k)=false:=by
    cases hb:ids.any (Nat.beq k) with
    | false=>rfl
    | true =>
     obtain ⟨j,hj,JQ⟩:=List.any_eq_true.1 hb
     have:=Nat.eq_of_beq_eq_true JQ
     subst this;exact absurd hj hi
   rw [this];simp
  ·rw [if_neg e]
   rcases ny ids H i hi with h|h
   ·exact .inl h
   ·right
    split
    ·exact h
    ·simp [h]
theorem th {I:Info} {S:Nat->Prop} {w:World} {v:Value} (h:Den I S w v .nil):v= .slice none 0 0:=by
 cases h with|rep h=>cases h;rfl
theorem Mh {s s':AS} {x:Wk} (he:Mi s x=some s'):bS s s':=by
 intro S0 w0 n a w ⟨φ,hs⟩
 cases x with
 | gP id =>
  simp only [Mi] at he
  split at he
  ·rename_i r hr
   split at he
   ·rename_i hp;cases he;exact ⟨_,hs.LA hr hp⟩
   ·cases he
  ·cases he
 | vp x y =>
  simp only [Mi] at he
  split at he
  ·rename_i hb dj
   cases he
   have cX:x≠y:=Nat.ne_of_beq_eq_false hb
   have dj:=Nat.le_of_ble_eq_true dj
   obtain ⟨cE,h⟩:=(hs.mj y).Kg x y aj cX (dq y)
   exact ⟨cE,h⟩
  ·cases he
 | nil i id e =>
  simp only [Mi] at he
  split at he
  ·rename_i hn
   cases he
   have hv:=hs.get i
   rw [hn] at hv
   have H0:a.tmps.getD i undef= .slice none 0 0:=th hv
   have h1:=hs.mj id
   have h2:=h1.rK (id:=id) (r:=⟨e,true,false,[]⟩) (dq id) rfl
   refine ⟨erase φ id,h2.jQ,h2.jT,h2.cZ,fun j av hj=>?_,h2.rows,h2.only,h2.inj,h2.cY,h2.apart,h2.new⟩
   rw [q8] at hj
   by_cases e':i=j
   ·rw [if_pos e'] at hj;injection hj with hj;subst hj;subst e'
    rw [H0]
    exact .cH id e (by
     show az ((id,⟨e,true,false,[]⟩)::(ck id s).H) _ id=_
     rw [bu (r:=⟨e,true,false,[]⟩) (by rw [aD,if_pos rfl]),h1.only id (dq id)];rfl)
   ·rw [if_neg e'] at hj;exact h2.cG j av hj
  ·cases he
 | aa is ids =>
  simp only [Mi] at he
  cases he
  have h1:aJ S0 w0 n [] ⟨mR s is,s.H⟩ a w φ:=by
   refine ⟨hs.jQ,hs.jT,hs.cZ,fun i av hi=>?_,hs.rows,hs.only,hs.inj,hs.cY,hs.apart,hs.new⟩
   rw [ur s is i av hi]
   exact hs.get i
  obtain ⟨cE,h2,-,h3⟩:=ka (ga ids s.H) ⟨mR s is,s.H⟩ φ [] h1
  have gh:∀i,i ∉ ids->look (a8 ⟨mR s is,s.H⟩ (ga ids s.H)).H i=none:=fun i hi=>h3 i (ny ids s.H i hi)
  have jZ:∀i,look (rX (a8 ⟨mR s is,s.H⟩ (ga ids s.H)).H ids) i=look (a8 ⟨mR s is,s.H⟩ (ga ids s.H)).H i:=by
   intro i
   rw [uq]
   by_cases hi:i∈ids
   ·rw [if_pos hi]
   ·rw [if_neg hi,gh i hi]
  have hI:az (rX (a8 ⟨mR s is,s.H⟩ (ga ids s.H)).H ids) cE=az (a8 ⟨mR s is,s.H⟩ (ga ids s.H)).H cE:=by
   funext i;unfold az;rw [jZ]
  refine ⟨cE,h2.jQ,h2.jT,h2.cZ,fun i av hi=>?_,fun i r hr=>?_,fun i hi=>?_,h2.inj,h2.cY,h2.apart,h2.new⟩
  ·simp only [hI];exact h2.cG i av hi
  ·simp only [hI];simp only [jZ] at hr;exact h2.rows i r hr
  ·simp only [jZ] at hi;exact h2.only i hi
 | loose id =>
  simp only [Mi,DF] at he
  split at he
  ·rename_i r hr
   cases he
   have lD:∀i,look ((id,(⟨r.e,r.pure,false,r.cells⟩:Row))::cU s.H id) i=if id=i then some ⟨r.e,r.pure,false,r.cells⟩ else look s.H i:=by
    intro i
    rw [aD,bH]
    by_cases e:id=i<;>simp [e]
   have hI:az ((id,(⟨r.e,r.pure,false,r.cells⟩:Row))::cU s.H id) φ=az s.H φ:=by
    funext i
    unfold az
    rw [lD]
    by_cases e:id=i
    ·subst e;rw [if_pos rfl,hr];rfl
    ·rw [if_neg e]
   refine ⟨φ,hs.jQ,hs.jT,hs.cZ,fun i av hi=>?_,fun i q hq=>?_,fun i hi=>?_,hs.inj,hs.cY,hs.apart,hs.new⟩
   ·simp only [hI];exact hs.cG i av hi
   ·simp only [hI]
    simp only [lD] at hq
    by_cases e:id=i
    ·subst e
     rw [if_pos rfl] at hq;injection hq with hq;subst hq
     have aN:=hs.rows id r hr
     unfold bN at aN ⊢
     cases cm:φ id with
     | none=>rw [cm] at aN;exact aN
     | some g =>
      rw [cm] at aN
      obtain ⟨cur,te,fr,hg,hf,hl,-,hc⟩:=aN
      exact ⟨cur,te,fr,hg,hf,hl,fun h=>(by cases h),hc⟩
    ·rw [if_neg e] at hq;exact hs.rows i q hq
   ·simp only [lD] at hi
    by_cases e:id=i
    ·rw [if_pos e] at hi;cases hi
    ·rw [if_neg e] at hi;exact hs.only i hi
  ·cases he
theorem vP:∀(l:List Wk) {s s':AS},wk l s=some s'->bS s s'
 | [],s,s',he=>by cases he;exact fun _ _ _ _ _ h=>h
 | x::l,s,s',he=>by
  simp only [wk] at he
  split at he
  ·rename_i s1 h1
   exact fun S0 w0 n a w h=>vP l he S0 w0 n a w (Mh h1 S0 w0 n a w h)
  ·cases he
theorem bf.wk {P:Program} {n:Nat} {c:Code} {Q:Exit->AS->Prop} {s s':AS} (l:List Wk) (he:wk l s=some s') (h:bf P n c Q s'):bf P n c Q s:=bf.oQ (vP l he) h
def AY (s:AS):AV->AV->Option (List Nat×List Prop)
 | .val u,.val v=>some ([],[u=v])
 | .nil,.nil=>some ([],[])
 | .nil,.own _ row=>some ([],[row= []])
 | .nil,.sl _ row=>some ([],[row= []])
 | .sl e row,.sl e' E4=>(match Nat.beq e e' with|true=>some ([],[row=E4])|false=>none)
 | .arr cs,.arr JV=>some ([],[cs=JV])
 | .ptr row off,.ptr E4 B9=>some ([],[row=E4,off=B9])
 | .lK f cs,.lK f' JV=>(match Nat.beq f f' with|true=>some ([],[cs=JV])|false=>none)
 | .ref id,.own e row=>(match look s.H id with|some ⟨e',true,_,cells⟩=>(match Nat.beq e e' with|true=>some ([id],[cells=row])|false=>none)|_=>none)
 | .pre id k,.own e row=>(match look s.H id with|some ⟨e',true,_,cells⟩=>(match Nat.beq e e' with|true=>some ([id],[cells.take k=row])|false=>none)|_=>none)
 | .addr id off,.box row=>(match look s.H id,off with|some ⟨_,false,true,cells⟩,0=>(match d_ cells with|true=>some ([id],[cells=row])|false=>none)|_,_=>none)
 | _,_=>none
def AR (f:AV->AV->Option (List Nat×List Prop)):List AV->List AV->Option (List Nat×List Prop)
 | [],[]=>some ([],[])
 | x::xs,r::rs=>match f x r,AR f xs rs with|some (a,C),some (b,D)=>some (a++b,C++D)|_,_=>none
 | _,_=>none
def AW (s:AS):AV->AV->Option (List Nat×List Prop)
 | .agg xs,.agg rs=>AR (AY s) xs rs
 | x,r=>AY s x r
def lf (s:AS):AV->AV->Option (List Nat×List Prop)
 | .bt xs,.bt rs=>AR (AW s) xs rs
 | x,r=>AW s x r
section
variable {S0:bo} {w0 w:World} {n:Nat} {s:AS} {a:Act} {φ:Nat->Option Nat}
def blocks (φ:Nat->Option Nat):List Nat->List Nat
 | []=>[]
 | i::l=>match φ i with|some g=>g::blocks φ l|none=>blocks φ l
theorem Du (φ:Nat->Option Nat) (l m:List Nat):blocks φ (l++m)=blocks φ l++blocks φ m:=by
 induction l with
 | nil=>rfl
 | cons i l ih =>
  simp only [List.cons_append,blocks]
  cases φ i<;>simp [ih]
theorem ij {φ:Nat->Option Nat} {g:Nat}:∀ {l:List Nat},g∈blocks φ l-> ∃i∈l,φ i=some g
 | [],h=>by cases h
 | i::l,h=>by
  simp only [blocks] at h
  split at h
  ·rename_i g' jb
   rcases List.mem_cons.1 h with rfl|h
   ·exact ⟨i,by simp,jb⟩
   ·obtain ⟨j,h1,h2⟩:=ij h
    exact ⟨j,by simp [h1],h2⟩
  ·obtain ⟨j,h1,h2⟩:=ij h
   exact ⟨j,by simp [h1],h2⟩
theorem kb (hs:aJ S0 w0 n [] s a w φ):∀ {l:List Nat},l.Nodup->(blocks φ l).Nodup
 | [],_=>List.nodup_nil
 | i::l,h=>by
  rw [List.nodup_cons] at h
  simp only [blocks]
  split
  ·rename_i g hg
   rw [List.nodup_cons]
   refine ⟨fun hm=>?_,kb hs h.2⟩
   obtain ⟨j,h1,h2⟩:=ij hm
   have:=hs.inj i j g hg h2
   subst this;exact h.1 h1
  ·exact kb hs h.2
theorem AX (hs:aJ S0 w0 n [] s a w φ) {v:Value} {x r:AV} {ids:List Nat} {C:List Prop} (hx:Den (az s.H φ) (aM S0 w φ []) w v x) (hg:AY s x r=some (ids,C)) (hC:bz C):ib (aM S0 w φ []) w v r (blocks φ ids):=by
 have own:∀(id e l c g:Nat) (fu:Bool) (cells row:List AV),look s.H id=some ⟨e,true,fu,cells⟩->φ id=some g->row.length=e*l->l≤c->c≤maxLen->aV w g=e*c->(∀(j:Nat) x,row[j]?=some x->cells[j]?=some x)->ib (aM S0 w φ []) w (.slice (some ⟨g,0,none⟩) l c) (.own e row) (blocks φ [id]):=by
  intro id e l c g fu cells row hr cm hl hc hm gm Cm
  obtain ⟨cur,te,fr,hg,hf,hle,bw⟩:=kD hs hr rfl cm
  have:blocks φ [id]= [g]:=by simp [blocks,cm]
  rw [this]
  exact .own g l c e row cur te fr hg hf hl hc hm (by unfold aV at gm;rw [hg] at gm;exact gm) fun j u x hu hx=>bw j u x hu (Cm j x hx)
 have HB:∀(id e:Nat),φ id=none->ib (aM S0 w φ []) w (.slice none 0 0) (.own e []) (blocks φ [id]):=by
  intro id e cm
  have:blocks φ [id]= []:=by simp [blocks,cm]
  rw [this];exact .nil e
 unfold AY at hg
 split at hg
 ·cases hg;have:=hC.1;subst this;exact .rep (by cases hx with|rep h=>exact h)
 ·cases hg;exact .rep (by cases hx with|rep h=>exact h)
 ·cases hg;have:=hC.1;subst this;rw [th hx];exact .nil _
 ·cases hg;have:=hC.1;subst this;rw [th hx];exact .rep (iN none 0 0 _ (by simp) (by simp) (by simp))
 ·split at hg
  ·rename_i hb
   cases hg
   have:=hC.1
   subst this
   rw [←Nat.eq_of_beq_eq_true hb]
   exact .rep (pj hx)
  ·cases hg
 ·cases hg;have:=hC.1;subst this;exact .rep (by cases hx with|rep h=>exact h)
 ·cases hg
  obtain ⟨h1,h2,-⟩:=hC
  subst h1;subst h2
  exact .rep (by cases hx with|rep h=>exact h)
 ·split at hg
  ·rename_i hb
   cases hg
   have:=hC.1
   subst this
   rw [←Nat.eq_of_beq_eq_true hb]
   exact .rep (by cases hx with|rep h=>exact h)
  ·cases hg
 ·rename_i id e row
  split at hg
  ·rename_i e' fu cells hr
   split at hg
   ·rename_i hb
    have hb:=Nat.eq_of_beq_eq_true hb
    cases hg
    have:=hC.1
    subst this
    subst hb
    cases hx with
    | rep h=>cases h
    | ref _ e2 m g l c hi hm hc hx bY =>
     obtain ⟨r',il,h1,h2,cm⟩:=aQ hi
     rw [hr] at il;injection il with il;subst il
     simp only at h1 h2
     exact own id e l c g fu cells cells hr cm (by rw [h2,hm,h1]) hc hx (by rw [h1];exact bY) (fun _ _ h=>h)
    | cH _ e2 hi =>
     obtain ⟨r',il,h1,h2,cm⟩:=aQ hi
     rw [hr] at il;injection il with il;subst il
     simp only at h2
     have:cells= []:=List.length_eq_zero_iff.1 h2
     subst this
     exact HB id e cm
   ·cases hg
  ·cases hg
 ·rename_i id k e row
  split at hg
  ·rename_i e' fu cells hr
   split at hg
   ·rename_i hb
    have hb:=Nat.eq_of_beq_eq_true hb
    cases hg
    have:=hC.1
    subst this
    subst hb
    cases hx with
    | rep h=>cases h
    | pre _ _ e2 m g l c hi hn hm hc hx bY =>
     obtain ⟨r',il,h1,h2,cm⟩:=aQ hi
     rw [hr] at il;injection il with il;subst il
     simp only at h1 h2
     exact own id e l c g fu cells (cells.take k) hr cm (by rw [List.length_take,h2,h1,←hn];omega) hc hx (by rw [h1];exact bY) (fun j x h=>bW _ _ _ _ h)
    | dF _ e2 hi =>
     obtain ⟨r',il,h1,h2,cm⟩:=aQ hi
     simp only [List.take_zero]
     exact HB id e cm
   ·cases hg
  ·cases hg
 ·rename_i id off row
  split at hg
  ·rename_i e cells hr
   split at hg
   ·rename_i hp
    cases hg
    have:=hC.1
    subst this
    obtain ⟨e2,m,g,hi,hv⟩:=jP hx
    obtain ⟨r',il,h1,h2,cm⟩:=aQ hi
    have aN:=hs.rows id _ hr
    rw [cm] at aN
    obtain ⟨cur,te,fr,u1,u2,u3,u4,u5⟩:=aN
    have:blocks φ [id]= [g]:=by simp [blocks,cm]
    rw [this,hv]
    refine .box g cells cur te fr u1 u2 (u4 rfl) fun j u x hu hx=>?_
    have hd:Den (az s.H φ) (aM S0 w φ []) w u x:=u5 j u x hu hx
    exact (eK hd (iA hp hx)).1
   ·cases hg
  ·cases hg
 ·cases hg
theorem uQ {f:AV->AV->Option (List Nat×List Prop)} {R:Value->AV->List Nat->Prop} (hf:∀v x r ids C,Den (az s.H φ) (aM S0 w φ []) w v x->f x r=some (ids,C)->bz C->R v r (blocks φ ids)):∀(vs:List Value) (xs rs:List AV) (ids:List Nat) (C:List Prop),vs.length=xs.length->(∀(j:Nat) v c,vs[j]?=some v->xs[j]?=some c->Den (az s.H φ) (aM S0 w φ []) w v c)->AR f xs rs=some (ids,C)->bz C->kY R vs rs (blocks φ ids)
 | vs,[],rs,ids,C,hl,hd,hg,hC=>by
  cases vs with
  | cons=>simp at hl
  | nil =>
   cases rs with
   | nil=>cases hg;exact .nil
   | cons=>cases hg
 | vs,x::xs,[],ids,C,hl,hd,hg,hC=>by cases hg
 | [],x::xs,r::rs,ids,C,hl,hd,hg,hC=>by simp at hl
 | v::vs,x::xs,r::rs,ids,C,hl,hd,hg,hC=>by
  simp only [AR] at hg
  split at hg
  ·rename_i a C1 b D h1 h2
   cases hg
   obtain ⟨iJ,hD⟩:=bP.1 hC
   rw [Du]
   exact .cons (hf v x r a C1 (hd 0 v x rfl rfl) h1 iJ) (uQ hf vs xs rs b D (by simpa using hl) (fun j v c hv hc=>hd (j+1) v c (by simpa using hv) (by simpa using hc)) h2 hD)
  ·cases hg
theorem AU (hs:aJ S0 w0 n [] s a w φ) {v:Value} {x r:AV} {ids:List Nat} {C:List Prop} (hx:Den (az s.H φ) (aM S0 w φ []) w v x) (hg:AW s x r=some (ids,C)) (hC:bz C):nU (aM S0 w φ []) w v r (blocks φ ids):=by
 unfold AW at hg
 split at hg
 ·obtain ⟨vs,rfl,hl,hd⟩:=kj hx
  exact .inr ⟨vs,_,rfl,rfl,uQ (f:=AY s) (R:=ib (aM S0 w φ []) w) (fun v x r ids C h1 h2 h3=>AX hs h1 h2 h3) vs _ _ ids C hl hd hg hC⟩
 ·exact .inl (AX hs hx hg hC)
theorem qe (hs:aJ S0 w0 n [] s a w φ) {v:Value} {x r:AV} {ids:List Nat} {C:List Prop} (hx:Den (az s.H φ) (aM S0 w φ []) w v x) (hg:lf s x r=some (ids,C)) (hC:bz C):sQ (aM S0 w φ []) w v r (blocks φ ids):=by
 unfold lf at hg
 split at hg
 ·obtain ⟨vs,rfl,hl,hd⟩:=yu hx
  exact .inr ⟨vs,_,rfl,rfl,uQ (f:=AW s) (R:=nU (aM S0 w φ []) w) (fun v x r ids C h1 h2 h3=>AU hs h1 h2 h3) vs _ _ ids C hl hd hg hC⟩
 ·exact .inl (AU hs hx hg hC)
end
def He (P:Program) (s:AS):ResultVar->Option (AV×List Prop)
 | .tmp t=>some (jS s t,[])
 | .cell x t=>(match jS s x with
  | .addr id off=>(match look s.H id with
   | some r=>(match HX P t,r.pure,off with
    | true,true,0=>(match eC P t with|some z=>some (.arr r.cells,[r.cells.length=z])|none=>none)
    | _,_,_=>pg P t r.pure r.cells off {})
   | none=>none)
  | _=>none)
def E5 (P:Program) (s:AS):List ResultVar->Option (List AV×List Prop)
 | []=>some ([],[])
 | x::l=>match He P s x,E5 P s l with|some (y,C),some (m,D)=>some (y::m,C++D)|_,_=>none
def nM (P:Program) (s:AS) (rs:List ResultVar) (r:AV):Option (List Prop) :=
 match E5 P s rs with
 | some (xs,C)=>(match (match xs with| [x]=>lf s x r|xs=>lf s (.bt xs) r) with
  | some (ids,D)=>(match nodupB ids with|true=>some (C++D)|false=>none)
  | none=>none)
 | none=>none
section
variable {P:Program} {S0:bo} {w0 w:World} {n:Nat} {s:AS} {a:Act} {φ:Nat->Option Nat}
def nn (a:Act):ResultVar->Sem Value
 | .tmp t=>pure (a.tmps.getD t undef)
 | .cell b t=>do loadVar t (←asAddr (a.tmps.getD b undef))
theorem Hd (hs:aJ S0 w0 n [] s a w φ) {x:ResultVar} {y:AV} {C:List Prop} (he:He P s x=some (y,C)) (hC:bz C) :
  ∃v,(nn a x).run P w= .ok v w∧Den (az s.H φ) (aM S0 w φ []) w v y:=by
 cases x with
 | tmp t=>cases he;exact ⟨_,rfl,hs.get t⟩
 | cell b t =>
  simp only [He] at he
  split at he
  ·rename_i id off hb
   split at he
   ·rename_i r hr
    have hx:=hs.get b
    rw [hb] at hx
    obtain ⟨e,m,g,hi,hv⟩:=jP hx
    obtain ⟨r',il,-,-,cm⟩:=aQ hi
    obtain ⟨cur,te,fr,hg,hf,hle,hc⟩:=BR hs hr cm
    have rd:∀(z:AV×List Prop) (h:Hint),pg P t r.pure r.cells off h=some z->bz z.2-> ∃v,(nn a (.cell b t)).run P w= .ok v w∧Den (az s.H φ) (aM S0 w φ []) w v z.1:=by
     intro z h hz Vi
     obtain ⟨v,h1,h2⟩:=ru (I:=az s.H φ) (S:=aM S0 w φ []) hz Vi ⟨g,off,none⟩ cur.toList hle (fun j u hu=>by rw [mb,cell_of_row w g _ cur te fr hg];simpa using hu) (fun j u x hu hx=>hc j u x (by simpa using hu) hx)
     exact ⟨v,by simp only [nn];rw [hv];simp [asAddr,h1],h2⟩
    split at he
    ·rename_i sI hp
     split at he
     ·rename_i z hz
      cases he
      have hlen:=hC.1
      unfold HX at sI
      split at sI
      ·rename_i k el hu
       refine rd (.arr r.cells,[(r.cells.drop 0).take z=r.cells,r.cells.length=z]) {av:=some (.arr r.cells)} ?_ ⟨by rw [List.drop_zero,List.take_of_length_le aj],hlen,trivial⟩
       unfold pg
       rw [hz,hu,hp]
      ·cases sI
     ·cases he
    ·exact rd _ _ he hC
   ·cases he
  ·cases he
theorem xi (hs:aJ S0 w0 n [] s a w φ):∀(l:List ResultVar) (ys:List AV) (C:List Prop),E5 P s l=some (ys,C)->bz C ->
  ∃vs:List Value,(l.mapM (nn a)).run P w= .ok vs w∧vs.length=ys.length∧ ∀(j:Nat) v c,vs[j]?=some v->ys[j]?=some c->Den (az s.H φ) (aM S0 w φ []) w v c
 | [],ys,C,he,hC=>by cases he;exact ⟨[],rfl,rfl,fun j v c hv=>by simp at hv⟩
 | x::l,ys,C,he,hC=>by
  simp only [E5] at he
  split at he
  ·rename_i y C1 m D h1 h2
   cases he
   obtain ⟨iJ,hD⟩:=bP.1 hC
   obtain ⟨v,ML,MK⟩:=Hd hs h1 iJ
   obtain ⟨vs,h3,h4,h5⟩:=xi hs l m D h2 hD
   refine ⟨v::vs,?_,by simp [h4],fun j u c hu hc=>?_⟩
   ·rw [List.mapM_cons,Sem.run_bind,ML]
    simp only [Result.andThen_ok]
    rw [Sem.run_bind,h3]
    rfl
   ·cases j with
    | zero=>simp at hu hc;subst hu;subst hc;exact MK
    | succ j=>exact h5 j u c (by simpa using hu) (by simpa using hc)
  ·cases he
theorem IV (hs:aJ S0 w0 n [] s a w φ) {fn:Func} {r:AV} {C:List Prop} (he:nM P s fn.results.toList r=some C) (hC:bz C) :
  ∃v O,(results fn a.tmps).run P w= .ok v w∧O.Nodup∧(∀g∈O,∃i,φ i=some g)∧sQ (aM S0 w φ []) w v r O:=by
 unfold nM at he
 split at he
 ·rename_i xs C1 hr
  split at he
  ·rename_i ids D hg
   split at he
   ·rename_i hn
    cases he
    obtain ⟨iJ,hD⟩:=bP.1 hC
    obtain ⟨vs,cp,hl,hd⟩:=xi hs _ _ _ hr iJ
    have hm:(fn.results.mapM (nn a)).run P w= .ok vs.toArray w:=by
     rw [Array.mapM_eq_mapM_toList,Sem.run_map,cp];rfl
    have H8:(results fn a.tmps).run P w= .ok (if h:vs.toArray.size=1 then vs.toArray[0] else .tuple vs.toArray) w:=by
     have he:results fn a.tmps=(do let vs ←fn.results.mapM (nn a);pure (if h:vs.size=1 then vs[0] else .tuple vs):Sem Value):=by
      unfold results
      congr 1
     rw [he,Sem.run_bind,hm]
     rfl
    refine ⟨_,blocks φ ids,H8,kb hs (iC hn),fun g hg=>(ij hg).imp fun i h=>h.2,?_⟩
    split at hg
    ·rename_i x
     cases vs with
     | nil=>simp at hl
     | cons v vs =>
      have:vs= []:=by simpa using hl
      subst this
      exact qe hs (hd 0 v x rfl rfl) hg hD
    ·rename_i cX
     have dC:¬vs.toArray.size=1:=by
      intro h1
      have h2:xs.length=1:=by rw [←hl];simpa using h1
      obtain ⟨x,rfl⟩:=List.length_eq_one_iff.1 h2
      exact cX x rfl
     rw [dif_neg dC]
     exact qe hs (.bt vs xs hl hd) hg hD
   ·cases he
  ·cases he
 ·cases he
end
def kX:Nat->List AV->List (Nat×AV)
 | _,[]=>[]
 | i,x::l=>(i,x)::kX (i+1) l
theorem my:∀(l:List AV) (i j:Nat) (x:AV),look (kX i l) j=some x-> ∃k,j=i+k∧l[k]?=some x
 | [],i,j,x,h=>by cases h
 | y::l,i,j,x,h=>by
  simp only [kX,aD] at h
  by_cases e:i=j
  ·rw [if_pos e] at h;exact ⟨0,aj,by simpa using h⟩
  ·rw [if_neg e] at h
   obtain ⟨k,h1,h2⟩:=my l (i+1) j x h
   exact ⟨k+1,aj,by simpa using h2⟩
def vN (P:Program) (rs:List ResultVar) (r:AV):Exit->AS->Prop
 | .normal,s=>∃C,nM P s rs r=some C∧bz C
 | .ret,s=>∃C,nM P s rs r=some C∧bz C
 | _,_=>False
theorem mB {P:Program} {fn:Func} {tmps:Array Value} {R:Ending->World->Prop}:∀(ms:List Nat) (w:World),ms.Nodup->(∀r∈ms,w.heap[r]?=some (.deferred (some []))) ->
  (∀w',w'.os=w.os->w'.tape=w.tape->w'.output=w.output->w'.heap.size=w.heap.size->(∀b,b ∉ ms->w'.heap[b]?=w.heap[b]?)-> ∃v,(results fn tmps).run P w'= .ok v w'∧R (.returned v) w') ->
  LeavesInM Fence.wide 0 P fn tmps R (ms.map mark) .returning w
 | [],w,_,_,h=>h w rfl rfl rfl rfl fun _ _=>rfl
 | r::ms,w,nd,hm,h=>by
  rw [List.nodup_cons] at nd
  refine ⟨by simp,.inl ⟨r,w.putObj r (.deferred none),rfl,run_takeDeferred (hm r (by simp)),?_⟩⟩
  refine mB ms _ nd.2 (fun r' il=>?_) (fun w' h1 h2 h3 h4 h5=>h w' h1 h2 h3 (by rw [h4];exact World.putObj_size) fun b hb=>?_)
  ·rw [World.putObj_heap_other fun e=>nd.1 (by rw [←e];exact il)];exact hm r' (by simp [il])
  ·simp only [List.mem_cons,not_or] at hb
   rw [h5 b hb.2,World.putObj_heap_other hb.1]
theorem m5.close {Z:bo} {w w' fw:World} {n:Nat} {s:AS} {a:Act} (hd:Z.si= []) (l0:∀b,(w.heap.size≤b∨Z.X b)->Z.S b) {S1:bo} {w1:World} {ms:List Nat} (hE:k9 Z w S1 w1 ms) {φ:Nat->Option Nat} (hs:aJ S1 w1 n [] s a w' φ)
  (h1:fw.os=w'.os) (h2:fw.tape=w'.tape) (h3:fw.output=w'.output) (h4:fw.heap.size=w'.heap.size) (h5:∀b,b ∉ ms->fw.heap[b]?=w'.heap[b]?):aJ Z w n [] s ⟨a.tmps,[]⟩ fw φ:=by
 have hS:∀b,S1.S b->fw.heap[b]?=w'.heap[b]?:=fun b hb=>h5 b fun hm=>(hE.marks b hm).2.2.2.1 hb
 have hF:∀b,aM S1 w' φ [] b->aM Z fw φ [] b∧fw.heap[b]?=w'.heap[b]?:=fun b hb=>⟨⟨by rw [h4];exact hb.1,hb.2.1,hb.2.2.1,hE.sub b hb.2.2.2⟩,hS b hb.2.2.2⟩
 have cm:∀id g,φ id=some g->fw.heap[g]?=w'.heap[g]?:=fun id g hg=>hS g (hs.new g (hs.cY id g hg).1.2)
 have hL:∀id e m g,az s.H φ id=some (e,m,some g)->aV fw g=aV w' g:=fun id e m g hi=>by
  obtain ⟨_,-,-,-,hg⟩:=aQ hi
  unfold aV;rw [cm id g hg]
 refine ⟨hs.jQ,hd.symm,?_,fun i av hi=>(hs.cG i av hi).mono (fun _ _ h=>h) hF hL,fun id r hr=>?_,hs.only,hs.inj,fun id g hg=>⟨⟨?_,?_⟩,by rw [h4];exact (hs.cY id g hg).2⟩,fun _ _ _ h=>(by cases h),l0⟩
 ·have k:=hE.kept.trans hs.cZ hE.X
  exact ⟨h1.trans k.os,h2.trans k.tape,h3.trans k.output,by rw [h4];exact k.size,fun b hb hx=>(h5 b fun hm=>by have:=(hE.marks b hm).1;omega).trans (k.block b hb hx),k.g0,k.gx⟩
 ·have aN:=hs.rows id r hr
  unfold bN at aN ⊢
  cases hg:φ id with
  | none=>rw [hg] at aN;exact aN
  | some g =>
   rw [hg] at aN
   obtain ⟨cur,te,fr,u1,u2,u3,u4,u5⟩:=aN
   refine ⟨cur,te,fr,(cm id g hg).trans u1,u2,u3,u4,fun j u x hu hx=>?_⟩
   have:=u5 j u x hu hx
   unfold bj at this ⊢
   cases hp:r.pure with
   | true=>rw [hp] at this;exact this.mono hF
   | false=>rw [hp] at this;exact this.mono (fun _ _ h=>h) hF hL
 ·exact (hs.cY id g hg).1.1.imp (fun h=>h) fun h=>by rw [←hE.fix];exact h
 ·rcases (hs.cY id g hg).1.2 with h|h
  ·exact .inl (Nat.le_trans hE.kept.size h)
  ·exact hE.X g h
theorem qv {P:Program} {f:FuncId} {fn:Func} {c:Code} {args:Array Value} {w:World} {R:Ending->World->Prop} (hf:P.funcs[f]?=some fn) (hb:fn.body=some c) {Z:bo} {n:Nat} (hd:Z.si= []) (l0:∀b,(w.heap.size≤b∨Z.X b)->Z.S b) {Q:Exit->AS->Prop} (hQ:∀e s,Q e s->e= .normal∨e= .ret)
  (h:BF P c (fun e a' w'=>∃s',Q e s'∧m5 Z w n s' a' w') {tmps:=args++Array.replicate (fn.ntmps-args.size) undef,defers:=[]} w)
  (kf:∀e s' (a':Act) w',Q e s'->a'.defers= []->iv Z w n s' a' w'-> ∃v,(results fn a'.tmps).run P w'= .ok v w'∧R (.returned v) w'):Calls P f args w R:=by
 refine callsIn_wide.1 (callsIn_of_wp_marks (F:=Fence.wide) (n:=0) hf hb trivial ?_)
 refine wpIn_wide.2 (wp_mono (kA _ _ _ _ h) fun e a' w' ⟨s',hq,S1,w1,ms,hE,φ,hs⟩=>?_)
 have fin:LeavesInM Fence.wide 0 P fn a'.tmps R a'.defers .returning w':=by
  have M_:a'.defers=ms.map mark:=by rw [hs.jT,hE.si,hd,List.append_nil]
  rw [M_]
  refine mB ms w' hE.nodup (fun r hr=>?_) (fun fw h1 h2 h3 h4 h5=>kf e s' ⟨a'.tmps,[]⟩ fw hq rfl ⟨φ,m5.close hd l0 hE hs h1 h2 h3 h4 h5⟩)
  obtain ⟨-,k2,k3,-,k5⟩:=hE.marks r hr
  exact (hs.cZ.block r k2 k5).trans k3
 rcases hQ e s' hq with rfl|rfl
 ·exact fin
 ·exact fin
theorem bL.pU {P:Program} {f:FuncId} {fn:Func} {c:Code} {args:List AV} {r:AV} (hf:P.funcs[f]?=some fn) (hb:fn.body=some c) (n:Nat) (hn:fn.ntmps=n) (iD:args.length≤n) (h:bf P n c (vN P fn.results.toList r) ⟨kX 0 args,[]⟩):bL P f args r:=by
 intro w S vs j0 hS hl b7
 let Z:bo:=⟨fun b=>S b∨w.heap.size≤b,fun _=>False,fun _=>none,[]⟩
 have L1:aJ Z w n [] ⟨kX 0 args,[]⟩ {tmps:=vs.toArray++Array.replicate (fn.ntmps-vs.toArray.size) undef,defers:=[]} w (fun _=>none):=by
  refine ⟨by simp;omega,rfl,⟨rfl,rfl,rfl,Nat.le_refl _,fun _ _ _=>rfl,j0,fun _ _ h=>h⟩,fun i av hi=>?_,fun id r hr=>(by cases hr),fun _ _=>rfl,fun _ _ _ h=>(by cases h),fun _ _ h=>(by cases h),fun _ _ h=>(by cases h),fun b hb=>Or.inr (hb.elim id fun h=>h.elim)⟩
  obtain ⟨k,rfl,hk⟩:=my args 0 i av hi
  have iH:k<vs.length:=by have:=(List.getElem?_eq_some_iff.1 hk).1;omega
  have hv:vs[k]?=some vs[k]:=List.getElem?_eq_getElem iH
  have e:(vs.toArray++Array.replicate (fn.ntmps-vs.toArray.size) undef).getD (0+k) undef=vs[k]:=by
   rw [Nat.zero_add,Array.getD_eq_getD_getElem?,Array.getElem?_append_left (by simpa using iH)]
   simp [iH]
  simp only [e]
  exact .rep ((b7 k vs[k] av hv hk).mono fun b hb=>⟨⟨hS b hb,by simp,fun _ h=>(by cases h),Or.inl hb⟩,rfl⟩)
 refine qv hf hb (Z:=Z) rfl (fun b hb=>Or.inr (hb.elim id fun h=>h.elim)) (Q:=vN P fn.results.toList r) (fun e s hq=>by cases e<;>first|exact .inl rfl|exact .inr rfl|exact hq.elim) (h Z w _ w ⟨_,L1⟩) fun e s' a' w' hq hd ⟨φ,bY⟩=>?_
 have hq:∃C,nM P s' fn.results.toList r=some C∧bz C:=by cases e<;>first|exact hq|exact hq.elim
 obtain ⟨C,he,hC⟩:=hq
 obtain ⟨v,O,cp,im,hO,hg⟩:=IV bY he hC
 refine ⟨v,cp,v,O,rfl,bY.cZ.below (fun _ h=>h),im,fun g hg=>?_,hg.mono fun b hb=>?_⟩
 ·obtain ⟨i,hi⟩:=hO g hg
  exact ⟨(bY.cY i g hi).1.2.elim id fun h=>h.elim,(bY.cY i g hi).2⟩
 ·rcases hb.2.2.2 with h1|h1
  ·exact .inl h1
  ·exact .inr ⟨h1,hb.1,fun hm=>by obtain ⟨i,hi⟩:=hO b hm;exact hb.2.2.1 i hi⟩
def dw (fn:Func):Code:=match fn.body with|some c=>c|none=>.skip
theorem bL.Hx {P:Program} {f:FuncId} {fn:Func} {args:List AV} {r:AV} (hf:P.funcs[f]?=some fn) (hb:fn.body.isSome=true) (n:Nat) (hn:fn.ntmps=n) (iD:Nat.ble args.length n=true) (h:bf P n (dw fn) (vN P fn.results.toList r) ⟨kX 0 args,[]⟩):bL P f args r:=by
 cases uN:fn.body with
 | none=>rw [uN] at hb;cases hb
 | some c =>
  have:dw fn=c:=by unfold dw;rw [uN]
  rw [this] at h
  exact bL.pU hf uN n hn (Nat.le_of_ble_eq_true iD) h
theorem bf.jH {P:Program} {n:Nat} {c:Code} {Q:Exit->AS->Prop} {s s':AS} {C:List Prop} (k:Nat) (l:List pB) (hk:Nat.beq l.length k=true) (he:kS P n l c s=some (s',C)) (hC:bz C) (h:bf P n (qn k c) Q s'):bf P n c Q s:=by
 rw [←Nat.eq_of_beq_eq_true hk] at h
 exact bf.OK l he hC h
theorem vN.Kd {P:Program} {rs:List ResultVar} {r:AV} {s:AS} {C:List Prop} (he:nM P s rs r=some C) (hC:bz C):vN P rs r .ret s:=⟨C,he,hC⟩
section
variable {P:Program} {n:Nat} {c:Code} {Q:Exit->AS->Prop} {K:AS->Prop} {s s1 s2:AS}
theorem bf.Jn {x:Operand} {b:Bool} (hc:lh c=some x) (hx:bq s x= .val (.bool b)) (hb:b=true) (h:bf P n (oE c) Q s):bf P n c Q s:=bf.cond hc hx (fun _=>h) (fun e=>by rw [hb] at e;cases e)
theorem bf.Jo {x:Operand} {b:Bool} (hc:lh c=some x) (hx:bq s x= .val (.bool b)) (hb:b=false) (h:bf P n (oP c) Q s):bf P n c Q s:=bf.cond hc hx (fun e=>by rw [hb] at e;cases e) (fun _=>h)
theorem bf.Qb {x:Operand} {p:Prop} [Decidable p] (hc:lh c=some x) (hx:bq s x= .val (.bool (decide p))) (ht:p->bf P n (oE c) Q s) (hf:¬p->bf P n (oP c) Q s):bf P n c Q s:=bf.cond hc hx (fun e=>ht (of_decide_eq_true e)) (fun e=>hf (of_decide_eq_false e))
theorem bf.Jp {α:Type} [BEq α] [LawfulBEq α] {x:Operand} {u v:α} (hc:lh c=some x) (hx:bq s x= .val (.bool (u == v))) (ht:u=v->bf P n (oE c) Q s) (hf:u≠v->bf P n (oP c) Q s):bf P n c Q s:=bf.cond hc hx (fun e=>ht (eq_of_beq e)) (fun e=>hf (by simpa using e))
theorem bf.Qa {α:Type} [BEq α] [LawfulBEq α] {x:Operand} {u v:α} (hc:lh c=some x) (hx:bq s x= .val (.bool (u != v))) (ht:u≠v->bf P n (oE c) Q s) (hf:u=v->bf P n (oP c) Q s):bf P n c Q s:=bf.cond hc hx (fun e=>ht (by simpa using e)) (fun e=>hf (by simpa using e))
theorem bf.join (J:AS) (hc:Ar c=true) (h1:bf P n (iq c) (rM (fun s'=>bS s' J) Q) s) (h2:bf P n (dL c) Q J):bf P n c Q s:=by
 refine bf.seq hc (h1.mono fun e s' hq=>?_)
 cases e with
 | normal=>exact bf.oQ hq h2
 | _=>exact hq
theorem bf.oM {ι:Type} (J:ι->AS) (Inv:ι->Prop) (hc:Ar c=true) (h1:bf P n (iq c) (rM (fun s'=>∃x,Inv x∧bS s' (J x)) Q) s) (h2:∀x,Inv x->bf P n (dL c) Q (J x)):bf P n c Q s :=
 bf.seq hc (bf.mono h1 fun e s' h=>by
  cases e with
  | normal=>obtain ⟨x,hx,hw⟩:=h;exact bf.oQ hw (h2 x hx)
  | exit _=>exact h
  | ret=>exact h
  | _=>exact h)
theorem aq (h:K s):rM K Q .normal s:=h
theorem ba {id:Nat} (h:Q (.exit id) s):rM K Q (.exit id) s:=h
theorem aI (h:Q .ret s):rM K Q .ret s:=h
theorem aL {id:Nat} (h:Q .normal s):NT id Q .normal s:=h
theorem a6 {id:Nat} (h:Q .ret s):NT id Q .ret s:=h
theorem br {id:Nat} (h:Q .normal s):NT id Q (.exit id) s:=by show (if _ then _ else _);rw [if_pos rfl];exact h
theorem OY {id i:Nat} (hi:Nat.beq i id=false) (h:Q (.exit i) s):NT id Q (.exit i) s:=by show (if _ then _ else _);rw [if_neg (Nat.ne_of_beq_eq_false hi)];exact h
theorem bS.of (l:List Wk) (he:wk l s=some s1) (e:s1=s2):bS s s2:=e ▸ vP l he
theorem aK {ι:Type} {I:ι->AS} {Inv:ι->Prop} {m:ι->Nat} {x:ι} (y:ι) (h1:Inv y) (h2:m y<m x) (h3:bS s (I y)):Round I Inv m Q x .normal s:=⟨y,h1,h2,h3⟩
theorem aS {ι:Type} {I:ι->AS} {Inv:ι->Prop} {m:ι->Nat} {x:ι} {id:Nat} (h:Q (.exit id) s):Round I Inv m Q x (.exit id) s:=h
theorem de {ι:Type} {I:ι->AS} {Inv:ι->Prop} {m:ι->Nat} {x:ι} (h:Q .ret s):Round I Inv m Q x .ret s:=h
end
def u64 (n:Int):UInt64:=UInt64.ofInt n
def u8 (n:Int):UInt8:=UInt8.ofInt n
theorem y_ (n:Int):IntKind.u64.wrap n=wv (u64 n):=by
 unfold wv u64;rw [IntKind.wrap_u64]
 simp [UInt64.ofInt]
 omega
theorem Ju (n:Int):IntKind.u8.wrap n=bv (u8 n):=by
 unfold bv u8;rw [IntKind.wrap_u8]
 simp [UInt8.ofInt]
 omega
abbrev aw (x:UInt64):AV:=.val (.int .u64 (wv x))
abbrev ab (x:UInt8):AV:=.val (.int .u8 (bv x))
abbrev ai (n:Int):AV:=.val (.int .i64 n)
abbrev ao (b:Bool):AV:=.val (.bool b)
abbrev cF (s:List UInt8):AV:=.val (.string ⟨s.toArray⟩)
theorem dK {n:Int} (h1: -9223372036854775808≤n) (h2:n≤9223372036854775807):AV.val (.int .i64 (IntKind.i64.wrap n))= .val (.int .i64 n):=by
 rw [show IntKind.i64.wrap n=n by rw [IntKind.wrap_i64];omega]
theorem aY (n:Int):AV.val (.int .u64 (IntKind.u64.wrap n))=aw (u64 n):=by rw [y_]
theorem i3 (n:Int):AV.val (.int .u8 (IntKind.u8.wrap n))=ab (u8 n):=by rw [Ju]
theorem Dw (c:UInt8):AV.val (.int .u64 (IntKind.u64.wrap (bv c)))=aw c.toUInt64:=by
 rw [Qd,show IntKind.u64.wrap (wv c.toUInt64)=wv c.toUInt64 by have:=OC c.toUInt64;have:=Lw c.toUInt64;rw [IntKind.wrap_u64];omega]
theorem iZ (x y:UInt64):AV.val (.int .u64 (IntKind.u64.wrap ((BitVec.ofInt IntKind.u64.bits (wv x)&&&BitVec.ofInt IntKind.u64.bits (wv y)).toNat:Nat)))=aw (x&&&y):=congrArg (fun n=>AV.val (.int .u64 n)) (Mf x y)
theorem pw (x y:UInt64):AV.val (.int .u64 (IntKind.u64.wrap ((BitVec.ofInt IntKind.u64.bits (wv x)|||BitVec.ofInt IntKind.u64.bits (wv y)).toNat:Nat)))=aw (x|||y):=congrArg (fun n=>AV.val (.int .u64 n)) (OA x y)
theorem cM (x y:UInt64):AV.val (.int .u64 (IntKind.u64.wrap ((BitVec.ofInt IntKind.u64.bits (wv x)^^^BitVec.ofInt IntKind.u64.bits (wv y)).toNat:Nat)))=aw (x^^^y):=congrArg (fun n=>AV.val (.int .u64 n)) (L_ x y)
theorem Lt (x y:UInt8):AV.val (.int .u8 (IntKind.u8.wrap ((BitVec.ofInt IntKind.u8.bits (bv x)&&&BitVec.ofInt IntKind.u8.bits (bv y)).toNat:Nat)))=ab (x&&&y):=congrArg (fun n=>AV.val (.int .u8 n)) (bv_and x y)
theorem EJ (x y:UInt8):AV.val (.int .u8 (IntKind.u8.wrap ((BitVec.ofInt IntKind.u8.bits (bv x)^^^BitVec.ofInt IntKind.u8.bits (bv y)).toNat:Nat)))=ab (x^^^y):=congrArg (fun n=>AV.val (.int .u8 n)) (NH x y)
theorem fp (x:UInt64) (n:Int) (h0:0≤n) (h1:n<64):AV.val (.int .u64 ((wv x).fdiv (2^min n.toNat IntKind.u64.bits)))=aw (x>>>UInt64.ofNat n.toNat):=by
 rw [show min n.toNat IntKind.u64.bits=n.toNat from Nat.min_eq_left (by show n.toNat≤64;omega),Int.fdiv_eq_ediv_of_nonneg _ (Int.pow_nonneg (by decide)),Ma x n.toNat aj]
theorem jB (x:UInt64) (n:Int) (h0:0≤n) (h1:n<64):AV.val (.int .u64 (IntKind.u64.wrap (wv x*2^min n.toNat IntKind.u64.bits)))=aw (x<<<UInt64.ofNat n.toNat):=by
 rw [show min n.toNat IntKind.u64.bits=n.toNat from Nat.min_eq_left (by show n.toNat≤64;omega),Mb x n.toNat aj]
theorem NI (x:UInt8) (k:Nat) (hk:k<8):bv x/2^k=bv (x>>>UInt8.ofNat k):=by
 unfold bv
 rw [UInt8.toNat_shiftRight,UInt8.toNat_ofNat_of_lt' (by show k<2^8;omega),Nat.mod_eq_of_lt hk,Nat.shiftRight_eq_div_pow]
 simp [Int.natCast_ediv,Int.natCast_pow]
theorem NJ (x:UInt8) (k:Nat) (hk:k<8):IntKind.u8.wrap (bv x*2^k)=bv (x<<<UInt8.ofNat k):=by
 unfold bv
 rw [IntKind.wrap_u8,UInt8.toNat_shiftLeft,UInt8.toNat_ofNat_of_lt' (by show k<2^8;omega),Nat.mod_eq_of_lt hk,Nat.shiftLeft_eq]
 simp [Int.natCast_emod,Int.natCast_mul,Int.natCast_pow]
theorem Lr (x:UInt8) (n:Int) (h0:0≤n) (h1:n<8):AV.val (.int .u8 ((bv x).fdiv (2^min n.toNat IntKind.u8.bits)))=ab (x>>>UInt8.ofNat n.toNat):=by
 rw [show min n.toNat IntKind.u8.bits=n.toNat from Nat.min_eq_left (by show n.toNat≤8;omega),Int.fdiv_eq_ediv_of_nonneg _ (Int.pow_nonneg (by decide)),NI x n.toNat aj]
theorem Ls (x:UInt8) (n:Int) (h0:0≤n) (h1:n<8):AV.val (.int .u8 (IntKind.u8.wrap (bv x*2^min n.toNat IntKind.u8.bits)))=ab (x<<<UInt8.ofNat n.toNat):=by
 rw [show min n.toNat IntKind.u8.bits=n.toNat from Nat.min_eq_left (by show n.toNat≤8;omega),NJ x n.toNat aj]
theorem fv (x y:UInt64):AV.val (.bool (wv x == wv y))=ao (x == y):=by rw [GF]
theorem cN (x y:UInt64):AV.val (.bool (wv x != wv y))=ao (x != y):=by rw [Me]
theorem NN (x y:UInt8):AV.val (.bool (bv x == bv y))=ao (x == y):=by rw [bv_beq]
theorem yA {a b:Int} (h:0≤a) (h1:a≤9223372036854775807) (hb:1≤b):AV.val (.int .i64 (IntKind.i64.wrap (a.tdiv b)))=ai (a/b):=by
 rw [Int.tdiv_eq_ediv_of_nonneg h]
 exact dK (by have:=Int.ediv_nonneg h (by omega:0≤b);omega) (by have:=Int.ediv_le_self b h;omega)
theorem fN (a b:List UInt8):AV.val (.bool ((⟨a.toArray⟩:ByteArray).toList == (⟨b.toArray⟩:ByteArray).toList))=ao (a == b):=by simp
theorem Mo (a b:List UInt8):AV.val (.bool (!((⟨a.toArray⟩:ByteArray).toList == (⟨b.toArray⟩:ByteArray).toList)))=ao (a != b):=by
 have:=fN a b
 injection this with this;injection this with this
 rw [this];rfl
theorem ot {l:List UInt8} {k:Nat} (h:k<l.length):(ag l)[k]?=some (ab (l.getD k 0)):=by simp [ag,h]
theorem eE {l:List UInt64} {k:Nat} (h:k<l.length):(ah l)[k]?=some (aw (l.getD k 0)):=by simp [ah,h]
theorem lZ {l:List Int} {k:Nat} (h:k<l.length):(ax l)[k]?=some (ai (l.getD k 0)):=by simp [ax,h]
theorem da (a b:List UInt8):ag a++ag b=ag (a++b):=by simp [ag]
theorem jf (a b:List UInt64):ah a++ah b=ah (a++b):=by simp [ah]
theorem Fv (a b:List Int):ax a++ax b=ax (a++b):=by simp [ax]
theorem kx (a:List UInt64) (k:Nat) (c:UInt64):(ah a).set k (aw c)=ah (a.set k c):=by simp [ah,List.map_set]
theorem Fu (a:List Int) (k:Nat) (c:Int):(ax a).set k (ai c)=ax (a.set k c):=by simp [ax,List.map_set]
theorem sn (a:List UInt8) (k:Nat):(ag a).take k=ag (a.take k):=by simp [ag,List.map_take]
theorem sq (a:List UInt8) (k:Nat):(ag a).drop k=ag (a.drop k):=by simp [ag,List.map_drop]
theorem tz (n:Nat):List.replicate n (AV.val (.int .u64 0))=ah (List.replicate n 0):=by simp [ah,wv]
theorem rG {n:Int} (h1:0≤n) (h2:n<18446744073709551616):AV.val (.int .u64 (IntKind.u64.wrap n))= .val (.int .u64 n):=by
 rw [show IntKind.u64.wrap n=n by rw [IntKind.wrap_u64];omega]
def ae {T:Type} (f:T->List AV) (l:List T):List AV:=l.flatMap f
section
variable {T:Type} {f:T->List AV} {e:Nat}
theorem gJ (x:T) (l:List T):ae f (x::l)=f x++ae f l:=rfl
theorem fE (a b:List T):ae f a++ae f b=ae f (a++b):=by simp [ae]
theorem Ja (x:T):ae f [x]=f x:=by simp [ae]
theorem aG (he:∀x,(f x).length=e) (l:List T):(ae f l).length=l.length*e:=by
 induction l with
 | nil=>simp [ae]
 | cons x l ih=>rw [gJ,List.length_append,ih,he,List.length_cons,Nat.succ_mul];omega
theorem om (he:∀x,(f x).length=e) (l:List T) (k:Nat):(ae f l).drop (k*e)=ae f (l.drop k):=by
 induction k generalizing l with
 | zero=>simp
 | succ k ih =>
  cases l with
  | nil=>simp [ae]
  | cons x l =>
   rw [gJ,List.drop_succ_cons,←ih l,Nat.succ_mul,Nat.add_comm,←List.drop_drop,List.drop_append_of_le_length (by rw [he];omega),show List.drop e (f x)= [] from List.drop_eq_nil_of_le (by rw [he];omega),List.nil_append]
theorem oi (he:∀x,(f x).length=e) (l:List T) (k:Nat):(ae f l).take (k*e)=ae f (l.take k):=by
 induction k generalizing l with
 | zero=>simp [ae]
 | succ k ih =>
  cases l with
  | nil=>simp [ae]
  | cons x l =>
   rw [gJ,List.take_succ_cons,gJ,←ih l,Nat.succ_mul,Nat.add_comm,List.take_append,he,show e+k*e-e=k*e by omega,List.take_of_length_le (by rw [he];omega)]
theorem ku [Inhabited T] (he:∀x,(f x).length=e) {l:List T} {k:Nat} (hk:k<l.length):((ae f l).drop (k*e)).take e=f (l.getD k default):=by
 rw [om he,List.drop_eq_getElem_cons hk,gJ,List.take_append_of_le_length (by rw [he];omega),List.take_of_length_le (by rw [he];omega)]
 simp [hk]
theorem bc [Inhabited T] (he:∀x,(f x).length=e) {l:List T} {k j:Nat} {c:AV} (hk:k<l.length) (hj:(f (l.getD k default))[j]?=some c):(ae f l)[k*e+j]?=some c:=by
 have h1:j<e:=by
  have:=(List.getElem?_eq_some_iff.1 hj).1
  rw [he] at this;exact this
 rw [←ku he hk,List.getElem?_take_of_lt h1,List.getElem?_drop] at hj
 exact hj
theorem dr [Inhabited T] (he:∀x,(f x).length=e) {l:List T} {k j z:Nat} {cs:List AV} (hk:k<l.length) (hz:j+z≤e) (hj:((f (l.getD k default)).drop j).take z=cs):((ae f l).drop (k*e+j)).take z=cs:=by
 rw [←hj,←ku he hk,List.drop_take,List.take_take,Nat.min_eq_left aj,List.drop_drop]
theorem dG (hf:∀x,cI (f x)) (l:List T):cI (ae f l):=by
 intro x hx
 simp only [ae,List.mem_flatMap] at hx
 obtain ⟨y,_,h⟩:=hx
 exact hf y x h
end
theorem bL.len {P:Program} {f:FuncId} {args:List AV} {r:AV} (i:Nat) {e:Nat} {row:List AV} (hi:args[i]?=some (.sl e row)) (h:row.length≤e*9223372036854775807->bL P f args r):bL P f args r:=by
 intro w S vs j0 hS hl hr
 have dj:i<vs.length:=by rw [hl];exact (List.getElem?_eq_some_iff.1 hi).1
 have b7:=hr i vs[i] _ (List.getElem?_eq_getElem dj) hi
 refine h ?_ w S vs j0 hS hl hr
 generalize vs[i]=v at b7
 cases b7 with
 | sl A n c e us row hl hn hc hm ha h =>
  rw [hn]
  refine Nat.mul_le_mul_left e ?_
  simp only [maxLen] at hm
  omega
theorem tY {α:Type} (g:Nat->α) (j:Nat):(List.range j).map g++ [g j]=(List.range (j+1)).map g:=by rw [List.range_succ,List.map_append];rfl
theorem fZ {T:Type} {f:T->List AV} (l:List T) (x:T):ae f l++f x=ae f (l++ [x]):=by rw [←fE,Ja]
theorem F7 {T:Type} {f:T->List AV} (g:Nat->T) (j:Nat):ae f ((List.range j).map g)++f (g j)=ae f ((List.range (j+1)).map g):=by rw [fZ,tY]
end Go.Proofs.YtjgbhhnghedgdaaGreatDoor
namespace Go.Proofs.YtjgbhhnghedgdaaGreatDoor
open Go.RowKit Go.ChangeShapes Go.WideShapes Go.ChangeAt
def fY (P:Program) (t:TypeId) {T:Type} (f:T->List AV) (ok:T->Prop):Prop :=
 ∀(H:Type) (enc:TypeId×Value->H) (w:World) (fuel:Nat) (cs:List Value) (x:DataW H×List MemPlace),DataW.trod enc P w 0 (fun _=>true) true fuel t cs=some x ->
  ∃a,ok a∧(f a).length=cs.length∧ ∀(j:Nat) u y,cs[j]?=some u->(f a)[j]?=some y->cB (fun b=>b<w.heap.size) w u y
def JD (P:Program) (t:TypeId) {T:Type} (g:T->AV) (ok:T->Prop):Prop :=
 ∀(H:Type) (enc:TypeId×Value->H) (w:World) (base:Nat) (v:Value) (d:DataW H) (ps:List MemPlace),Value.okWide P w .any base t v->DataW.Trod enc P w 0 (fun _=>true) true t v d ps ->
  ∃a,ok a∧cB (fun b=>b<w.heap.size) w v (g a)
section
variable {P:Program} {t:TypeId} {T T':Type} {f:T->List AV} {ok:T->Prop}
theorem fY.map (h:fY P t f ok) (g:T->T') {f':T'->List AV} {ok':T'->Prop} (hf:∀a,ok a->f' (g a)=f a) (ho:∀a,ok a->ok' (g a)):fY P t f' ok':=by
 intro H enc w fuel cs x hx
 obtain ⟨a,h1,h2,h3⟩:=h H enc w fuel cs x hx
 exact ⟨g a,ho a h1,by rw [hf a h1];exact h2,by rw [hf a h1];exact h3⟩
theorem ji {S:Nat->Prop} {w:World} {v:Value} {x:AV} (h:cB S w v x) (j:Nat) (u:Value) (y:AV) (hu:[v][j]?=some u) (hy:[x][j]?=some y):cB S w u y:=by
 cases j with
 | zero=>simp at hu hy;subst hu hy;exact h
 | succ j=>simp at hu
theorem iz (ht:P.underlying t=some (.int .u64)):fY P t (fun c:UInt64=>[aw c]) (fun _=>True):=by
 intro H enc w fuel cs x hx
 obtain ⟨n,rfl,_,hw⟩:=DataW.trod_int ht hx
 obtain ⟨c,rfl⟩:=JZ n hw
 exact ⟨c,trivial,rfl,ji (.val _)⟩
theorem Fc (ht:P.underlying t=some (.int .u8)):fY P t (fun c:UInt8=>[ab c]) (fun _=>True):=by
 intro H enc w fuel cs x hx
 obtain ⟨n,rfl,_,hw⟩:=DataW.trod_int ht hx
 obtain ⟨c,rfl⟩:=Ln n hw
 exact ⟨c,trivial,rfl,ji (.val _)⟩
abbrev Eh (n:Int):Prop:= -9223372036854775808≤n∧n≤9223372036854775807
theorem kI (ht:P.underlying t=some (.int .i64)):fY P t (fun c:Int=>[ai c]) Eh:=by
 intro H enc w fuel cs x hx
 obtain ⟨n,rfl,_,hw⟩:=DataW.trod_int ht hx
 refine ⟨n,?_,rfl,ji (.val _)⟩
 simpa [Lit.wf,IntKind.min,IntKind.max,IntKind.signed,IntKind.bits] using hw
theorem nr (ht:P.underlying t=some .string):fY P t (fun s:List UInt8=>[cF s]) (fun s=>s.length≤9223372036854775807):=by
 intro H enc w fuel cs x hx
 obtain ⟨s,rfl,_,hs⟩:=DataW.trod_string ht hx
 refine ⟨s.data.toList,?_,rfl,ji ?_⟩
 ·show s.data.toList.length≤_;rw [Array.length_toList];exact hs
 ·show cB _ _ _ (.val (.string ⟨s.data.toList.toArray⟩));rw [show (⟨s.data.toList.toArray⟩:ByteArray)=s by simp];exact .val _
theorem HH {α β:Type} {g:α->Option β}:∀ {l:List α} {m:List β},l.mapM g=some m->m.length=l.length∧ ∀(i:Nat) (a:α),l[i]?=some a->g a=m[i]?:=by
 intro l
 induction l with
 | nil=>intro m h;simp at h;subst h;simp
 | cons a l ih =>
  intro m h
  simp only [List.mapM_cons,Option.bind_eq_bind,Option.bind_eq_some_iff,Option.pure_def,Option.some.injEq] at h
  obtain ⟨b,hb,m',hm,rfl⟩:=h
  obtain ⟨h1,h2⟩:=ih hm
  refine ⟨by simp [h1],fun i x hx=>?_⟩
  cases i with
  | zero=>simp at hx;subst hx;simpa using hb
  | succ i=>simpa using h2 i x (by simpa using hx)
theorem Jt {w:World} {ad:Addr} {n:Nat} {cs:List Value} (h:w.cells? 0 ad n=some cs):cs.length=n∧ ∀j,j<n->w.cell? (ad.add j)=cs[j]?:=by
 simp only [World.cells?,Nat.zero_le,if_true] at h
 obtain ⟨h1,h2⟩:=HH h
 exact ⟨by simpa using h1,fun j hj=>h2 j j (by simp [hj])⟩
theorem Dc {H:Type} {enc:TypeId×Value->H} {w:World} {fuel e:Nat} (hC:fY P t f ok) (ad:Addr):∀(n:Nat) (elems:List (DataW H×List MemPlace)),n≤elems.length ->
  (∀i,i<n->(w.cells? 0 (ad.add (i*e)) e).bind (DataW.trod enc P w 0 (fun _=>true) true fuel t)=elems[i]?) ->
  ∃(l:List T) (us:List Value),l.length=n∧(∀a∈l,ok a)∧us.length=n*e∧(ae f l).length=n*e∧(∀(j:Nat) u,us[j]?=some u->w.cell? (ad.add j)=some u)∧ ∀(j:Nat) u y,us[j]?=some u->(ae f l)[j]?=some y->cB (fun b=>b<w.heap.size) w u y:=by
 intro n
 induction n with
 | zero=>intro elems _ _;exact ⟨[],[],rfl,by simp,by simp,by simp [ae],by simp,by simp⟩
 | succ n ih =>
  intro elems hn M4
  obtain ⟨l,us,h1,h2,h3,h4,h5,h6⟩:=ih elems aj (fun i hi=>M4 i aj)
  have hx:=M4 n aj
  rw [List.getElem?_eq_getElem aj] at hx
  rw [Option.bind_eq_some_iff] at hx
  obtain ⟨cs,wL,Uh⟩:=hx
  obtain ⟨gm,UY⟩:=Jt wL
  obtain ⟨a,ha,sG,gy⟩:=hC H enc w fuel cs _ Uh
  refine ⟨l++ [a],us++cs,by simp [h1],?_,?_,?_,?_,?_⟩
  ·intro b hb
   rcases List.mem_append.1 hb with hb|hb
   ·exact h2 b hb
   ·simp at hb;subst hb;exact ha
  ·rw [List.length_append,h3,gm,Nat.add_mul];omega
  ·rw [←fZ,List.length_append,h4,sG,gm,Nat.add_mul];omega
  ·intro j u hu
   by_cases hj:j<us.length
   ·rw [List.getElem?_append_left hj] at hu;exact h5 j u hu
   ·rw [List.getElem?_append_right aj] at hu
    have dj:j-us.length<e:=by
     have:=(List.getElem?_eq_some_iff.1 hu).1;omega
    have:=UY (j-us.length) dj
    rw [hu,Addr.add_add] at this
    rw [←this];congr 2;omega
  ·intro j u y hu hy
   rw [←fZ] at hy
   by_cases hj:j<us.length
   ·rw [List.getElem?_append_left hj] at hu
    rw [List.getElem?_append_left aj] at hy
    exact h6 j u y hu hy
   ·rw [List.getElem?_append_right aj] at hu
    rw [List.getElem?_append_right aj,h4,←h3] at hy
    exact gy _ u y hu hy
theorem kH {te:TypeId} {e:Nat} (ht:P.underlying t=some (.slice te)) (he:P.cellsOf te=e) (hC:fY P te f ok):fY P t (fun l:List T=>[.sl e (ae f l)]) (fun l=>∀a∈l,ok a):=by
 intro H enc w fuel cs x hx
 rcases DataW.trod_slice ht hx with ⟨rfl,_⟩|⟨a,len,cap,elems,rest,n,_,rfl,N8,_,FB,s_,M4,gN,_,_⟩
 ·exact ⟨[],by simp,rfl,ji (iN none 0 0 e (by simp) (Nat.le_refl _) (by simp))⟩
 ·rw [he] at gN
  obtain ⟨l,us,h1,h2,h3,h4,h5,h6⟩:=Dc hC a len elems aj gN
  refine ⟨l,h2,rfl,ji (.sl _ _ _ _ us _ (h3.trans h4.symm) (by rw [h4,Nat.mul_comm]) FB s_ (fun h0=>⟨a,rfl,?_,h5⟩) h6)⟩
  have hu:0<us.length:=aj
  have:=h5 0 us[0] (List.getElem?_eq_getElem hu)
  have hb:w.heap[(a.add 0).block]?≠none:=by
   intro hn
   rw [World.cell?,hn] at this
   cases this
  rw [gL] at hb
  exact Nat.lt_of_not_le fun hle=>hb (Array.getElem?_eq_none hle)
def EO (P:Program) (fs:List Field) (o:Nat) {T:Type} (f:T->List AV) (ok:T->Prop):Prop :=
 ∀(H:Type) (enc:TypeId×Value->H) (w:World) (fuel:Nat) (cs:List Value) (xs:List (DataW H×List MemPlace)),(∀(i:Nat) (fd:Field),fs[i]?=some fd->DataW.trod enc P w 0 (fun _=>true) true fuel fd.type ((cs.drop fd.offset).take (P.cellsOf fd.type))=xs[i]?)->xs.length=fs.length ->
  ∃a,ok a∧ ∀(j:Nat) u y,cs[o+j]?=some u->(f a)[j]?=some y->cB (fun b=>b<w.heap.size) w u y
theorem ns (o:Nat):EO P [] o (fun _:Unit=>[]) (fun _=>True):=by
 intro H enc w fuel cs xs _ _;exact ⟨(),trivial,by simp⟩
theorem bF {fd:Field} {fs:List Field} {o e:Nat} {T2:Type} {f2:T2->List AV} {SW:T2->Prop} (hC:fY P fd.type f ok) (ho:fd.offset=o) (he:P.cellsOf fd.type=e) (hf:∀a,(f a).length=e) (hF:EO P fs (o+e) f2 SW) :
  EO P (fd::fs) o (fun p:T×T2=>f p.1++f2 p.2) (fun p=>ok p.1∧SW p.2):=by
 intro H enc w fuel cs xs hx hl
 cases xs with
 | nil=>simp at hl
 | cons x xs =>
  obtain ⟨a,ha,sG,gy⟩:=hC H enc w fuel _ x (hx 0 fd rfl)
  obtain ⟨b,hb,UZ⟩:=hF H enc w fuel cs xs (fun i g hg=>hx (i+1) g hg) (by simpa using hl)
  refine ⟨(a,b),⟨ha,hb⟩,fun j u y hu hy=>?_⟩
  by_cases hj:j<e
  ·rw [List.getElem?_append_left (by rw [hf];exact hj)] at hy
   refine gy j u y ?_ hy
   rw [List.getElem?_take_of_lt aj,List.getElem?_drop,ho];exact hu
  ·rw [List.getElem?_append_right (by rw [hf];omega),hf] at hy
   exact UZ (j-e) u y (by rw [←hu];congr 1;omega) hy
theorem jI {fs:Array Field} {fl:List Field} {e:Nat} (ht:P.underlying t=some (.struct fs)) (sG:fs.toList=fl) (he:P.cellsOf t=e) (hf:∀a,(f a).length=e) (hF:EO P fl 0 f ok):fY P t f ok:=by
 intro H enc w fuel cs x hx
 obtain ⟨xs,n,_,_,gm,Ei,gN⟩:=DataW.trod_struct ht hx
 subst sG
 obtain ⟨a,ha,U3⟩:=hF H enc w n cs xs (fun i g hg=>gN i g (by simpa using hg)) (by simpa using Ei)
 exact ⟨a,ha,by rw [hf,gm,he],fun j u y hu hy=>U3 j u y (by rw [Nat.zero_add];exact hu) hy⟩
def OT (P:Program) (t:TypeId):Bool:=match P.underlying t with|some (.int _)|some .string|some .bool|some (.slice _)=>true|_=>false
theorem fY.one {g:T->AV} (h:fY P t (fun a=>[g a]) ok) (ht:OT P t=true):JD P t g ok:=by
 intro H enc w base v d ps hv hd
 obtain ⟨fuel,hd⟩:=hd
 have hc:v.cells= #[v]:=by
  simp only [OT] at ht
  split at ht
  ·rename_i hu;obtain ⟨n,rfl⟩:=okWide_int hu hv;rfl
  ·rename_i hu
   simp only [Value.okWide,hu,Cell.okWide] at hv
   cases v<;>simp_all [Cell.ok]
   rfl
  ·rename_i hu
   simp only [Value.okWide,hu,Cell.okWide] at hv
   cases v<;>simp_all [Cell.ok]
   rfl
  ·rename_i hu;obtain ⟨_,_,_,rfl⟩:=okWide_slice hu hv;rfl
  ·cases ht
 rw [hc] at hd
 obtain ⟨a,h1,h2,h3⟩:=h H enc w fuel _ _ hd
 exact ⟨a,h1,h3 0 _ _ rfl rfl⟩
theorem fY.whole {fs:Array Field} (h:fY P t f ok) (ht:P.underlying t=some (.struct fs)):JD P t (fun a=>.agg (f a)) ok:=by
 intro H enc w base v d ps hv hd
 obtain ⟨fuel,hd⟩:=hd
 simp only [Value.okWide,ht] at hv
 obtain ⟨cs,rfl,_,_⟩:=hv
 obtain ⟨a,h1,h2,h3⟩:=h H enc w fuel _ _ hd
 refine ⟨a,h1,?_⟩
 have:=cB.agg (S:=fun b=>b<w.heap.size) (w:=w) cs.toList (f a) (by simpa [Value.cells] using h2.symm) (by simpa [Value.cells] using h3)
 simpa using this
theorem Db (l:List UInt8):ae (fun c:UInt8=>[ab c]) l=ag l:=by
 induction l with
 | nil=>rfl
 | cons c l ih=>rw [gJ,ih];rfl
theorem Da (l:List UInt64):ae (fun c:UInt64=>[aw c]) l=ah l:=by
 induction l with
 | nil=>rfl
 | cons c l ih=>rw [gJ,ih];rfl
theorem F_ (l:List Int):ae (fun c:Int=>[ai c]) l=ax l:=by
 induction l with
 | nil=>rfl
 | cons c l ih=>rw [gJ,ih];rfl
theorem BZ {te:TypeId} (ht:P.underlying t=some (.slice te)) (he:P.underlying te=some (.int .u8)) (hc:P.cellsOf te=1):fY P t (fun l:List UInt8=>[.sl 1 (ag l)]) (fun _=>True) :=
 (kH ht hc (Fc he)).map id (fun l _=>by rw [Db];rfl) (fun _ _=>trivial)
theorem BX {te:TypeId} (ht:P.underlying t=some (.slice te)) (he:P.underlying te=some (.int .u64)) (hc:P.cellsOf te=1):fY P t (fun l:List UInt64=>[.sl 1 (ah l)]) (fun _=>True) :=
 (kH ht hc (iz he)).map id (fun l _=>by rw [Da];rfl) (fun _ _=>trivial)
theorem Fb {te:TypeId} (ht:P.underlying t=some (.slice te)) (he:P.underlying te=some (.int .i64)) (hc:P.cellsOf te=1):fY P t (fun l:List Int=>[.sl 1 (ax l)]) (fun l=>∀n∈l,Eh n) :=
 (kH ht hc (kI he)).map id (fun l _=>by rw [F_];rfl) (fun _ h=>h)
end
theorem bL.law {P:Program} {f:FuncId} {args:List AV} (h:bL P f args (ao true)) (w:World) (j0:Good w) (vs:List Value) (hl:vs.length=args.length) (hr:∀(j:Nat) v x,vs[j]?=some v->args[j]?=some x->cB (fun b=>b<w.heap.size) w v x) :
  Calls P f vs.toArray w fun e w'=>e= .returned (.bool true)∧Below w.heap.size w w':=by
 refine (h w (fun b=>b<w.heap.size) vs j0 (fun _ h=>h) hl hr).mono fun e w' ⟨v,O,he,hb,_,_,hg⟩=>⟨?_,hb⟩
 subst he
 rcases hg with hg|⟨_,_,_,hx,_⟩
 ·rcases hg with hg|⟨_,_,_,hx,_⟩
  ·cases hg with
   | rep b7=>cases b7;rfl
  ·cases hx
 ·cases hx
theorem Kf (S:Nat->Prop) (w:World) (j:Nat) (v:Value) (x:AV) (h:([]:List Value)[j]?=some v) (_:([]:List AV)[j]?=some x):cB S w v x:=by simp at h
theorem zC {S:Nat->Prop} {w:World} {v:Value} {x:AV} {vs:List Value} {xs:List AV} (h:cB S w v x) (h2:∀(j:Nat) v x,vs[j]?=some v->xs[j]?=some x->cB S w v x) (j:Nat) (u:Value) (y:AV) (hu:(v::vs)[j]?=some u) (hy:(x::xs)[j]?=some y):cB S w u y:=by
 cases j with
 | zero=>simp at hu hy;subst hu hy;exact h
 | succ j=>exact h2 j u y (by simpa using hu) (by simpa using hy)
theorem Below.GQ {H:Type} {enc:TypeId×Value->H} {P:Program} (hl:laidOutB P=true) {W W':World} (hb:Below W.heap.size W W'):∀(ts:List TypeId) (vs:List Value) (ds:List (DataW H)) (ps:List MemPlace),(ts.all fun t=>P.readableRec t && decide (t<P.types.size))=true ->
  DataW.TrodAll enc P W 0 (fun _=>true) true ts vs ds ps->DataW.TrodAll enc P W' 0 (fun b=>decide (b<W.heap.size)) true ts vs ds ps:=by
 intro ts
 induction ts with
 | nil=>intro vs ds ps _ h;cases vs<;>cases ds<;>simp_all [DataW.TrodAll]
 | cons t ts ih =>
  intro vs ds ps hr h
  rw [List.all_cons,Bool.and_eq_true,Bool.and_eq_true] at hr
  obtain ⟨v,VJ,d,Wb,p,q,rfl,rfl,rfl,h1,h2⟩:=trodAll_cons h
  have lt:∀x∈p,x.block<W.heap.size:=by obtain ⟨m,hm⟩:=h1;exact DataW.trod_lt m _ _ _ hm
  exact ⟨p,q,Below.trod hl hr.1.1 (of_decide_eq_true hr.1.2) h1 hb lt,ih _ _ _ hr.2 h2,rfl⟩
end Go.Proofs.YtjgbhhnghedgdaaGreatDoor
