import Derived.Test.YtejpabdmiagnnaaGreatDoorZrRL
import Derived.Orders
import Derived.Test.YtejpabdmiagnnaaGreatDoorZrRG
import Derived.Tactics
import Derived.WalkKit
import Derived.ProofKit
import Derived.OpenShut
import Derived.ShutString
import Derived.ChangeOld
import Derived.Below
import Derived.RangeFuncRecord
set_option linter.all false
namespace Go.Proofs.YtejpabdmiagnnaaGreatDoor
open Go.RowKit
def evMark (P:Program) (n:Nat) (s:AS) (d:Option Nat) (src dst id:Nat):Option (AS×List Prop) :=
 match look s.H id,P.underlying src with
 | some ⟨e,true,_,cells⟩,some (.slice el)=>(match P.underlying el,Nat.beq src dst with
  | some (.int .u8),true=>(match putD n (retire id s) d (.sl e cells) with|some s'=>some (s',[0<cells.length])|none=>none)
  | _,_=>none)
 | _,_=>none
section
variable {P:Program} {n:Nat} {s:AS} {o:Oper} {h:Hint} {q:AS×List Prop}
theorem freeze_facts {w:World} {g:Nat} {cur:Array Value} {te:TypeId} {fr:Nat×Nat} (hg:w.heap[g]?=some (.cells cur te fr)) (k:Nat):(∃fr',(w.freeze ⟨g,k,none⟩ 1).heap[g]?=some (.cells cur te fr'))∧(w.freeze ⟨g,k,none⟩ 1).heap.size=w.heap.size∧(∀b,b≠g->(w.freeze ⟨g,k,none⟩ 1).heap[b]?=w.heap[b]?)∧(w.freeze ⟨g,k,none⟩ 1).os=w.os∧(w.freeze ⟨g,k,none⟩ 1).tape=w.tape∧(w.freeze ⟨g,k,none⟩ 1).output=w.output:=by
 unfold World.freeze
 rw [if_neg (by decide)]
 obtain ⟨lo,hi⟩:=fr
 refine ⟨⟨if lo == hi then (k,k+1) else (min lo k,max hi (k+1)),?_⟩,by simp,fun b hb=>?_,rfl,rfl,rfl⟩
 ·simp only [Array.getElem?_modify,if_true,hg,Option.map_some]
 ·simp only [Array.getElem?_modify]
  rw [if_neg (fun e=>hb e.symm)]
theorem run_mark {w:World} {t e:TypeId} {g l c:Nat} {cur:Array Value} {te:TypeId} {fr:Nat×Nat} (ht:P.underlying t=some (.slice e)) (he:P.underlying e=some (.int .u8)) (hg:w.heap[g]?=some (.cells cur te fr)) :
  (convert t t (.slice (some ⟨g,0,none⟩) l c)).run P w= .ok (.slice (some ⟨g,0,none⟩) l c) (w.freeze ⟨g,cur.size,none⟩ 1):=by
 have hsh:w.shape? g=some (te,cur.size):=by unfold World.shape?;rw [hg]
 simp [convert,run_underlying ht,run_underlying he,markStringish,hsh]
theorem evMark_ok {src dst id:Nat} {x:Operand} (ho:o.op= .convert src dst x) (hx:opd s x= .ref id) (hr:evMark P n s o.dst src dst id=some q):OpOK P n s o q.1 q.2:=by
 intro hC S0 w0 a w Q ⟨φ,hs⟩
 unfold evMark at hr
 split at hr
 ·rename_i e f cells el hlk hu
  split at hr
  ·rename_i he hb
   split at hr
   ·rename_i s' hput
    injection hr with hr;subst hr
    have hsd:=Nat.eq_of_beq_eq_true hb
    subst hsd
    have hpos:0<cells.length:=hC.1
    have dx:=hs.opd x
    rw [hx] at dx
    generalize hv:a.eval x=v at dx
    cases dx with
    | rep hrep=>cases hrep
    | refnil _ e' hi =>
     have hinf:=info_of (φ:=φ) hlk
     rw [hi] at hinf
     simp at hinf
     omega
    | ref _ e' m g l c hi hm hc hxl hs' =>
     have hinf:=info_of (φ:=φ) hlk
     rw [hi] at hinf
     simp at hinf
     obtain ⟨h1,h2,h3⟩:=hinf
     subst h1 h2
     have hφ:φ id=some g:=h3.symm
     have hrow:=hs.rows id _ hlk
     unfold RowDen at hrow
     rw [hφ] at hrow
     obtain ⟨cur,te,fr,hg,hf,hle,-,hcell⟩:=hrow
     obtain ⟨⟨fr',k1⟩,k2,k3,k4,k5,k6⟩:=freeze_facts hg cur.size
     have hrun:(execOp a.eval o).run P w= .ok (.value (.slice (some ⟨g,0,none⟩) l c)) (w.freeze ⟨g,cur.size,none⟩ 1):=by
      unfold execOp;simp only [ho,hv,Sem.run_bind,run_mark hu he hg,Result.andThen_ok];rfl
     refine wp_of_run hrun ⟨erase φ id,?_⟩
     have r1:=hs.retire_ id [g] (by rw [hφ])
     have r2:=r1.touch (w':=w.freeze ⟨g,cur.size,none⟩ 1) (fun g' hg'=>by simp at hg';rw [hg'];exact (hs.rng id g hφ).1.2) k4 k5 k6 (by omega) (fun b _ hn=>k3 b (by simpa using hn))
     have r3:=r2.free_
     refine putD_ok r3 (.rep ?_) hput
     have hfree:Free S0 (w.freeze ⟨g,cur.size,none⟩ 1) (erase φ id) [] g:=⟨by rw [k2];exact (hs.rng id g hφ).2,by simp,fun i hi=>by
      unfold erase at hi
      split at hi
      ·cases hi
      ·rename_i hne;exact hne (hs.inj i id g hi hφ),hs.new g (hs.rng id g hφ).1.2⟩
     refine sl_of_row (r:=⟨e',true,f,cells⟩) k1 hfree cells 0 (by simpa using hle) hm hc hxl _ (fun _=>rfl) (fun j u y hu hy=>?_)
     have hcu:=hcell j u y (by simpa using hu) hy
     unfold CellDen at hcu
     refine Rep.mono (fun b hb=>?_) hcu
     have hne:b≠g:=fun e=>hb.2.2.1 id (by rw [hφ,e])
     refine ⟨⟨by rw [k2];exact hb.1,by simp,fun i hi=>?_,hb.2.2.2⟩,k3 b hne⟩
     unfold erase at hi
     split at hi
     ·cases hi
     ·exact hb.2.2.1 i hi
   ·cases hr
  ·cases hr
 ·cases hr
end
end Go.Proofs.YtejpabdmiagnnaaGreatDoor
namespace Go.Proofs.YtejpabdmiagnnaaGreatDoor
open Go.RowKit
def evPut (P:Program) (n:Nat) (s:AS) (o:Oper) (h:Hint):Option (AS×List Prop) :=
 match evPlain P s o h with
 | some (x,C)=>(match putD n s o.dst x with|some s'=>some (s',C)|none=>none)
 | none=>none
def evOp (P:Program) (n:Nat) (s:AS) (o:Oper) (h:Hint):Option (AS×List Prop) :=
 match o.op with
 | .alloc t=>(match o.dst with|some d=>evAlloc P n s d t h|none=>none)
 | .box t x=>(match o.dst with|some d=>evBox P n s d t (opd s x)|none=>none)
 | .buildSlice t len parts=>(match o.dst with|some d=>evLit P n s d t len parts.toList h|none=>none)
 | .makeSlice t l c=>(match opd s l,opd s c,o.dst with| .val (.int _ L),.val (.int _ C),some d=>evMake P n s d t L C h|_,_,_=>none)
 | .convert src dst x=>(match opd s x,P.underlying dst,o.dst with
  | .val (.string b),some (.slice _),some d=>evBytes P n s d src dst b
  | .ref id,some (.slice _),_=>evMark P n s o.dst src dst id
  | _,_,_=>evPut P n s o h)
 | .store t x y=>(match o.dst with|none=>evStore P s t x y h|some _=>none)
 | .call ⟨.builtin .append,⟨[x,y]⟩,⟨[t,xt]⟩⟩=>(match o.dst with|some d=>evAppend P n s d t xt (opd s x) (opd s y) h|none=>none)
 | .call ⟨.builtin .copy,⟨[x,y]⟩,⟨[t,xt]⟩⟩=>evCopy P n s o.dst t xt (opd s x) (opd s y) h
 | .call ⟨.builtin _,_,_⟩=>evPut P n s o h
 | .call ⟨c,xs,_⟩=>(match h.ln with| []=>(match callee s c with|some _=>evCall P n s o.dst c xs.toList h|none=>evCallC P n s o.dst c xs.toList h)|_=>evCallM P n s o.dst c xs.toList h)
 | .makeFunc (.func f) ⟨[]⟩ ⟨xs⟩=>(match o.dst with|some d=>evFunc n s d f xs|none=>none)
 | _=>evPut P n s o h
section
variable {P:Program} {n:Nat} {s:AS} {o:Oper} {h:Hint} {q:AS×List Prop}
theorem evPut_ok (hr:evPut P n s o h=some q):OpOK P n s o q.1 q.2:=by
 unfold evPut at hr
 split at hr
 ·rename_i x C hp
  split at hr
  ·rename_i s' hs'
   cases hr
   exact plain_op (evPlain_ok hp) hs'
  ·cases hr
 ·cases hr
theorem evOp_ok (hr:evOp P n s o h=some q):OpOK P n s o q.1 q.2:=by
 unfold evOp at hr
 split at hr
 ·rename_i ho
  split at hr
  ·rename_i hd;exact evAlloc_ok ho hd hr
  ·cases hr
 ·rename_i ho
  split at hr
  ·rename_i hd;exact evBox_ok ho hd hr
  ·cases hr
 ·rename_i ho
  split at hr
  ·rename_i hd;exact evLit_ok ho hd hr
  ·cases hr
 ·rename_i ho
  split at hr
  ·rename_i hl hc hd;exact evMake_ok ho hl hc hd hr
  ·cases hr
 ·rename_i ho
  split at hr
  ·rename_i hx _ hd;exact evBytes_ok ho hx hd hr
  ·rename_i hx _;exact evMark_ok ho hx hr
  ·exact evPut_ok hr
 ·rename_i ho
  split at hr
  ·rename_i hd;exact evStore_ok ho hd hr
  ·cases hr
 ·rename_i ho
  split at hr
  ·rename_i hd;exact evAppend_ok ho hd hr
  ·cases hr
 ·rename_i ho;exact evCopy_ok ho hr
 ·exact evPut_ok hr
 ·rename_i ho
  split at hr
  ·split at hr
   ·exact evCall_ok ho hr
   ·exact evCallC_ok ho hr
  ·exact evCallM_ok ho hr
 ·rename_i ho
  split at hr
  ·rename_i hd;exact evFunc_ok ho hd hr
  ·cases hr
 ·exact evPut_ok hr
end
def evG (P:Program) (n:Nat) (ops:List Oper) (s:AS) (o:Oper) (h:Hint):Option (AS×List Prop) :=
 match o.guard with
 | none=>evOp P n s o h
 | some (j,want)=>(match ops[j]? with
  | some p=>(match p.dst with
   | some d=>(match getF s d with
    | .val (.bool b)=>(match h.g == want with
     | true=>(match evOp P n s o h with|some (s',C)=>some (s',(b=h.g)::C)|none=>none)
     | false=>(match putD n s o.dst (.val (.tuple #[])) with|some s'=>some (s',[b=h.g])|none=>none))
    | .val (.tuple _)=>(match putD n s o.dst (.val (.tuple #[])) with|some s'=>some (s',[])|none=>none)
    | _=>none)
   | none=>none)
  | none=>none)
def hintAt (hs:List (Nat×Hint)) (i:Nat):Hint:=match look hs i with|some h=>h|none=>{}
def evOps (P:Program) (n:Nat) (ops:List Oper) (hs:List (Nat×Hint)):List Oper->Nat->AS->Option (AS×List Prop)
 | [],_,s=>some (s,[])
 | o::l,i,s=>match evG P n ops s o (hintAt hs i) with
  | some (s1,C)=>(match evOps P n ops hs l (i+1) s1 with|some (s2,D)=>some (s2,C++D)|none=>none)
  | none=>none
section
variable {P:Program} {n:Nat} {ops:List Oper} {S0:Zone} {w0:World} {Q:Exit->Act->World->Prop}
theorem den_bool {I:Info} {S:Nat->Prop} {w:World} {a:Act} {d:Nat} {b:Bool} (h:Den I S w (a.tmps.getD d undef) (.val (.bool b))):a.tmps[d]?=some (.bool b):=by
 have h':=den_val h
 cases ht:a.tmps[d]? with
 | none=>simp [ht,undef] at h'
 | some u=>simp [ht] at h';rw [h']
theorem yielded_at {a:Act} {j d:Nat} {p:Oper} {b:Bool} (hp:ops[j]?=some p) (hd:p.dst=some d) (ht:a.tmps[d]?=some (.bool b)):yielded ops.toArray a.tmps j=some b:=by
 unfold yielded
 simp [hp,hd,ht]
theorem yielded_none {a:Act} {j d:Nat} {p:Oper} {arr:Array Value} (hp:ops[j]?=some p) (hd:p.dst=some d) (ht:a.tmps.getD d undef= .tuple arr):yielded ops.toArray a.tmps j=none:=by
 unfold yielded
 simp only [List.getElem?_toArray,hp,Option.bind_some,hd]
 rw [Array.getD_eq_getD_getElem?] at ht
 cases h:a.tmps[d]? with
 | none=>rfl
 | some u=>rw [h] at ht;simp at ht;rw [ht]
theorem evG_ok {s:AS} {o:Oper} {h:Hint} {q:AS×List Prop} (hr:evG P n ops s o h=some q) (hC:AllP q.2) {a:Act} {w:World} (hs:Sim S0 w0 n s a w) (K:Act->World->Prop) (hK:∀a' w',Sim S0 w0 n q.1 a' w'->K a' w') :
  if Region.wanted o (yielded ops.toArray a.tmps) then o.wp P a w K Q∨(o.asks P a w∧LetsOut Q) else K (a.put o.dst undef) w:=by
 unfold evG at hr
 split at hr
 ·rename_i hg
  have hw:Region.wanted o (yielded ops.toArray a.tmps)=true:=by unfold Region.wanted;rw [hg]
  rw [if_pos hw]
  exact .inl (Oper.wp_mono hK (evOp_ok hr hC S0 w0 a w Q hs))
 ·rename_i j want hg
  split at hr
  ·rename_i p hp
   split at hr
   ·rename_i d hd
    split at hr
    ·rename_i b hb
     obtain ⟨φ,hs'⟩:=hs
     have ht:=hs'.get d
     rw [hb] at ht
     have hy:=yielded_at (ops:=ops) hp hd (den_bool ht)
     split at hr
     ·rename_i hwant
      split at hr
      ·rename_i s' C he
       cases hr
       obtain ⟨hbg,hC⟩:=hC
       have hw:Region.wanted o (yielded ops.toArray a.tmps)=true:=by
        unfold Region.wanted;rw [hg];simp only [hy,hbg]
        have:h.g=want:=by simpa using hwant
        rw [this];simp
       rw [if_pos hw]
       exact .inl (Oper.wp_mono hK (evOp_ok he hC S0 w0 a w Q ⟨φ,hs'⟩))
      ·cases hr
     ·rename_i hwant
      split at hr
      ·rename_i s' hp'
       cases hr
       obtain ⟨hbg,-⟩:=hC
       have hw:¬Region.wanted o (yielded ops.toArray a.tmps)=true:=by
        unfold Region.wanted;rw [hg];simp only [hy,hbg]
        have:¬h.g=want:=by simpa using hwant
        simpa using this
       rw [if_neg hw]
       exact hK _ _ ⟨φ,putD_ok hs' (.rep (.val _)) hp'⟩
      ·cases hr
    ·rename_i arr hb
     obtain ⟨φ,hs'⟩:=hs
     have ht:=hs'.get d
     rw [hb] at ht
     have hy:=yielded_none (ops:=ops) hp hd (den_val ht)
     split at hr
     ·rename_i s' hp'
      cases hr
      have hw:¬Region.wanted o (yielded ops.toArray a.tmps)=true:=by
       unfold Region.wanted;rw [hg];simp [hy]
      rw [if_neg hw]
      exact hK _ _ ⟨φ,putD_ok hs' (.rep (.val _)) hp'⟩
     ·cases hr
    ·cases hr
   ·cases hr
  ·cases hr
theorem evOps_ok {hs:List (Nat×Hint)}:∀(l:List Oper) (i:Nat) (s s':AS) (C:List Prop),evOps P n ops hs l i s=some (s',C)->AllP C-> ∀(a:Act) (w:World),Sim S0 w0 n s a w->(∀a' w',Sim S0 w0 n s' a' w'->Q .normal a' w')->wpList P ops.toArray Q l a w
 | [],i,s,s',C,he,hC,a,w,hs,hQ=>by cases he;exact hQ a w hs
 | o::l,i,s,s',C,he,hC,a,w,hs,hQ=>by
  simp only [evOps] at he
  split at he
  ·rename_i s1 C1 h1
   split at he
   ·rename_i s2 D h2
    cases he
    obtain ⟨hC1,hD⟩:=allP_app.1 hC
    have:=evG_ok (S0:=S0) (w0:=w0) (Q:=Q) h1 hC1 hs (wpList P ops.toArray Q l) (fun a' w' h'=>evOps_ok l (i+1) s1 s' D h2 hD a' w' h' hQ)
    unfold wpList
    exact this
   ·cases he
  ·cases he
end
end Go.Proofs.YtejpabdmiagnnaaGreatDoor
namespace Go.Proofs.YtejpabdmiagnnaaGreatDoor
open Go.RowKit
def frz0:AV->AV
 | .own e row=>.sl e row
 | .box row=>.ptr row 0
 | x=>x
def frz1:AV->AV
 | .agg cs=>.agg (cs.map frz0)
 | x=>frz0 x
def frz:AV->AV
 | .tup cs=>.tup (cs.map frz1)
 | x=>frz1 x
section
variable {S S':Nat->Prop} {w:World}
theorem frz0_ok (hS:∀b,S b->S' b) {v:Value} {x:AV} {O:List Nat} (hO:∀g∈O,S' g) (h:Giv0 S w v x O):Rep S' w v (frz0 x):=by
 cases h with
 | rep h =>
  have:=h.mono fun b hb=>⟨hS b hb,rfl⟩
  cases h<;>exact this
 | nil e=>exact sl_empty none 0 0 e (by simp) (by simp) (by simp)
 | own g l c e row cur te fr hg hf hl hc hm hs h =>
  exact sl_of_row (r:=⟨e,true,false,row⟩) hg (hO g (by simp)) row 0 (by rw [hl,hs,Nat.zero_add];exact Nat.mul_le_mul_left _ hc) hl hc hm _ (fun _=>rfl) (fun j u x hu hx=>(h j u x (by simpa using hu) hx).mono fun b hb=>⟨hS b hb,rfl⟩)
 | box g row cur te fr hg hf hs h =>
  exact ptr_of_row (off:=0) hg (hO g (by simp)) row (by omega) (fun j u x hu hx=>(h j u x hu hx).mono fun b hb=>⟨hS b hb,rfl⟩)
theorem frzL_ok {R:Value->AV->List Nat->Prop} {f:AV->AV} (hR:∀v x O,(∀g∈O,S' g)->R v x O->Rep S' w v (f x)) {vs:List Value} {xs:List AV} {O:List Nat} (h:GivL R vs xs O):(∀g∈O,S' g)->vs.length=(xs.map f).length∧ ∀(j:Nat) v c,vs[j]?=some v->(xs.map f)[j]?=some c->Rep S' w v c:=by
 induction h with
 | nil=>intro _;exact ⟨rfl,fun j v c hv=>by simp at hv⟩
 | cons h _ ih =>
  intro hO
  obtain ⟨h1,h2⟩:=ih fun g hg=>hO g (by simp [hg])
  refine ⟨by simpa using h1,fun j v c hv hc=>?_⟩
  cases j with
  | zero=>simp at hv hc;subst hv;subst hc;exact hR _ _ _ (fun g hg=>hO g (by simp [hg])) h
  | succ j=>exact h2 j v c (by simpa using hv) (by simpa using hc)
theorem frz1_ok (hS:∀b,S b->S' b) {v:Value} {x:AV} {O:List Nat} (hO:∀g∈O,S' g) (h:Giv1 S w v x O):Rep S' w v (frz1 x):=by
 rcases h with h|⟨vs,cs,rfl,rfl,hL⟩
 ·by_cases hx:∃cs,x= .agg cs
  ·obtain ⟨cs,rfl⟩:=hx
   cases h with
   | rep h=>cases h with
    | agg vs _ hl h =>
     refine .agg vs _ (by simpa using hl) fun j v c hv hc=>?_
     rw [List.getElem?_map] at hc
     cases hj:cs[j]? with
     | none=>rw [hj] at hc;cases hc
     | some y=>rw [hj] at hc;injection hc with hc;subst hc;exact frz0_ok hS (O:=[]) (by simp) (.rep (h j v y hv hj))
  ·have:frz1 x=frz0 x:=by
    cases x with
    | agg cs=>exact absurd ⟨cs,rfl⟩ hx
    | _=>rfl
   rw [this];exact frz0_ok hS hO h
 ·obtain ⟨h1,h2⟩:=frzL_ok (S':=S') (f:=frz0) (fun v x O hO h=>frz0_ok hS hO h) hL hO
  exact .agg vs _ h1 h2
theorem frz_ok (hS:∀b,S b->S' b) {v:Value} {x:AV} {O:List Nat} (hO:∀g∈O,S' g) (h:Giv S w v x O):Rep S' w v (frz x):=by
 rcases h with h|⟨vs,cs,rfl,rfl,hL⟩
 ·by_cases hx:∃cs,x= .tup cs
  ·obtain ⟨cs,rfl⟩:=hx
   rcases h with h|⟨vs,cs',h1,h2,h3⟩
   ·cases h with
    | rep h=>cases h with
     | tup vs _ hl h =>
      refine .tup vs _ (by simpa using hl) fun j v c hv hc=>?_
      rw [List.getElem?_map] at hc
      cases hj:cs[j]? with
      | none=>rw [hj] at hc;cases hc
      | some y=>rw [hj] at hc;injection hc with hc;subst hc;exact frz1_ok hS (O:=[]) (by simp) (.inl (.rep (h j v y hv hj)))
   ·cases h2
  ·have:frz x=frz1 x:=by
    cases x with
    | tup cs=>exact absurd ⟨cs,rfl⟩ hx
    | _=>rfl
   rw [this];exact frz1_ok hS hO h
 ·obtain ⟨h1,h2⟩:=frzL_ok (S':=S') (f:=frz1) (fun v x O hO h=>frz1_ok hS hO h) hL hO
  exact .tup vs _ h1 h2
end
def evHead (P:Program) (s:AS) (o:Oper) (h:Hint):Option (AV×List Prop) :=
 match o.op with
 | .buildSlice t len parts=>(match P.underlying t with
  | some (.slice el)=>(match sizeT P el,(P.info? el).bind (·.zero) with
   | some (z+1),some zero=>(match litCells s (z+1) 0 parts.toList,Nat.beq parts.toList.length len,Nat.ble (len*(z+1)) 16777216,Nat.beq zero.cells.size (z+1) with
    | some cells,true,true,true=>(match plainL cells with
     | true=>some (.sl (z+1) (named h cells).1,(named h cells).2)
     | false=>none)
    | _,_,_,_=>none)
   | _,_=>none)
  | _=>none)
 | .makeSlice t l c=>(match opd s l,opd s c,P.underlying t with
  | .val (.int _ L),.val (.int _ C),some (.slice el)=>(match P.info? el with
   | some i=>(match i.zero,i.size with
    | some zero,z+1=>(match Nat.beq zero.cells.size (z+1) with
     | true=>some (.sl (z+1) (named h (zrow (zero.cells.toList.map constAV0) h.k)).1,(named h (zrow (zero.cells.toList.map constAV0) h.k)).2++ [L=(h.k:Int),C=(h.m:Int),h.k≤h.m,i.bytes*h.m≤281474976710656,h.m≤maxLen])
     | false=>none)
    | _,_=>none)
   | none=>none)
  | _,_,_=>none)
 | .call ⟨.builtin _,_,_⟩=>evPlain P s o h
 | .call ⟨c,xs,_⟩=>(match callee s c,h.av with
  | some f,some r=>(match isEnter P f,h.b with
   | true,true=>(match viewsL s (xs.toList.map (opd s)),flat r with
    | some vs,some C=>some (frz r,Ret P f vs r::C)
    | _,_=>none)
   | true,false=>(match readyL (xs.toList.map (opd s)) with
    | true=>some (frz r,[Ret P f (xs.toList.map (opd s)) r])
    | false=>none)
   | _,_=>none)
  | _,_=>none)
 | _=>evPlain P s o h
def HeadOK (P:Program) (s:AS) (o:Oper) (x:AV) (C:List Prop):Prop :=
 AllP C-> ∀S0 w0 n a w φ Q (b:Act),SimO S0 w0 n [] s a w φ->b.tmps=a.tmps->o.wp P b w (fun b' w'=>∃v,b'=b.put o.dst v∧Below w.heap.size w w'∧Den (infoOf s.H φ) (Free S0 w' φ []) w' v x) Q
theorem eval_tmps {a b:Act} (h:b.tmps=a.tmps):b.eval=a.eval:=by
 funext x
 cases x<;>simp [Act.eval,h]
section
variable {P:Program} {s:AS} {o:Oper} {h:Hint} {r:AV×List Prop}
theorem head_plain (hp:PlainOK P s o r.1 r.2):HeadOK P s o r.1 r.2:=by
 intro hC S0 w0 n a w φ Q b hs hb
 obtain ⟨v,hrun,hden⟩:=hp hC S0 w0 n [] a w φ hs
 rw [←eval_tmps hb] at hrun
 exact wp_of_run hrun ⟨v,rfl,Below.refl _ _,hden⟩
theorem free_grow {S0:Zone} {w0 w w':World} {n:Nat} {a:Act} {φ:Nat->Option Nat} (hs:SimO S0 w0 n [] s a w φ) (hb:Below w.heap.size w w') (b:Nat) (h:Free S0 w φ [] b∨(w.heap.size≤b∧b<w'.heap.size)):Free S0 w' φ [] b:=by
 rcases h with h|⟨h1,h2⟩
 ·exact ⟨by have:=h.1;have:=hb.size;omega,by simp,h.2.2⟩
 ·exact ⟨h2,by simp,fun i hi=>by have:=(hs.rng i b hi).2;omega,hs.new b (.inl (by have:=hs.bel.size;omega))⟩
theorem head_call {c:Callee} {xs:Array Operand} {ts:Array TypeId} {f:FuncId} {args:List AV} {x:AV} {C:List Prop} (ho:o.op= .call ⟨c,xs,ts⟩) (hc:callee s c=some f) (hE:isEnter P f=true) (hret:AllP C->Ret P f args x) (hl:args.length=xs.toList.length)
  (hG:AllP C-> ∀S0 w0 n a w φ,SimO S0 w0 n [] s a w φ-> ∃S:Nat->Prop,(∀b,S b->b<w.heap.size)∧(∀(j:Nat) v y,(xs.toList.map a.eval)[j]?=some v->args[j]?=some y->Rep S w v y)∧ ∀w' v O,Giv (fun b=>S b∨(w.heap.size≤b∧b<w'.heap.size∧b ∉ O)) w' v x O->Giv (fun b=>Free S0 w φ [] b∨(w.heap.size≤b∧b<w'.heap.size∧b ∉ O)) w' v x O):HeadOK P s o (frz x) C:=by
 intro hC S0 w0 n a w φ Q b hs hb
 have hrun:=callee_ok (P:=P) hs hc ho hE
 rw [←eval_tmps hb] at hrun
 obtain ⟨S,hS,hargs,hgiv⟩:=hG hC S0 w0 n a w φ hs
 unfold Oper.wp
 rw [hrun]
 have hcall:=hret hC w S (xs.toList.map a.eval) hs.bel.good hS (by simp [hl]) hargs
 have e:(xs.toList.map a.eval).toArray=xs.map b.eval:=by rw [eval_tmps hb];apply Array.ext';simp
 rw [e] at hcall
 refine hcall.mono ?_
 rintro en w' ⟨v,O,rfl,hbl,hnd,hrg,hg⟩
 refine ⟨v,rfl,hbl,.rep (frz_ok (fun b hb=>?_) (fun g hg=>?_) (hgiv w' v O hg))⟩
 ·exact free_grow hs hbl b (hb.imp id fun h=>⟨h.1,h.2.1⟩)
 ·exact free_grow hs hbl g (.inr (hrg g hg))
theorem evHead_ok (hr:evHead P s o h=some r):HeadOK P s o r.1 r.2:=by
 unfold evHead at hr
 split at hr
 ·rename_i t len parts ho
  split at hr
  ·rename_i el hu
   split at hr
   ·rename_i z zero hz hzero
    split at hr
    ·rename_i cells hcells hlen hbig hzs
     split at hr
     ·rename_i hp
      cases hr
      intro hC S0 w0 n a w φ Q b hs hb
      have hlen:=Nat.eq_of_beq_eq_true hlen
      have hbig:len*(z+1)≤16777216:=Nat.le_of_ble_eq_true hbig
      have hn:(named h cells).1=cells:=(named_ok (C:=[]) (by rw [List.append_nil];exact hC)).1
      obtain ⟨h1,us,h2,h3,-,h4⟩:=lit_ok hs (z+1) parts.toList 0 cells ((Array.range (len*(z+1))).map (zero.cells[· %zero.cells.size]!)) hcells hp (by simp [←hlen])
      have hm:len≤maxLen:=by
       have:len≤len*(z+1):=Nat.le_mul_of_pos_right _ (by omega)
       unfold maxLen;omega
      have hrun:(execOp b.eval o).run P w= .ok (.value (.slice (some ⟨w.heap.size,0,none⟩) len len)) {w with heap:=w.heap.push (.cells us el (0,0))}:=by
       have hz':(sizeOf el).run P w= .ok (z+1) w:=run_sizeOf hz
       have hpl:(parts.map fun p=>(p.1,a.eval p.2)).toList=parts.toList.map fun p=>(p.1,a.eval p.2):=by simp
       rw [eval_tmps hb]
       unfold execOp
       simp only [ho,Instr.buildSlice,Sem.run_bind,run_underlying hu,Result.andThen_ok,hz',Sem.run_ite]
       rw [if_neg (by omega)]
       by_cases h0:len*(z+1)=0
       ·rw [if_pos h0]
        simp only [Sem.run_pure,Result.andThen_ok]
        have:(Array.range (len*(z+1))).map (fun x=>(#[]:Array Value)[x%(#[]:Array Value).size]!)=(Array.range (len*(z+1))).map (fun x=>zero.cells[x%zero.cells.size]!):=by rw [h0,map_range0,map_range0]
        rw [this,hpl,h2]
        rfl
       ·rw [if_neg h0]
        simp only [run_zero hzero,Result.andThen_ok,Sem.run_pure]
        rw [hpl,h2]
        rfl
      have hbl:Below w.heap.size w {w with heap:=w.heap.push (.cells us el (0,0))}:=⟨rfl,rfl,rfl,by simp,fun k hk=>heap_push_lt w _ k hk⟩
      have hcl:cells.length=(z+1)*len:=by rw [h1,hlen,Nat.mul_comm]
      refine wp_of_run hrun ⟨_,rfl,hbl,?_⟩
      simp only [hn]
      refine .rep (sl_of_row (r:=⟨z+1,true,false,cells⟩) (heap_push w _) (free_grow hs hbl _ (.inr ⟨Nat.le_refl _,by simp⟩)) cells 0 (by rw [h3,hcl];simp [Nat.mul_comm]) hcl (Nat.le_refl _) hm _ (fun _=>rfl) (fun j u x hu hx=>?_))
      exact (h4 j u x (by simpa using hu) hx).mono fun b hb=>⟨free_grow hs hbl b (.inl hb),heap_push_lt w _ b hb.1⟩
     ·cases hr
    ·cases hr
   ·cases hr
  ·cases hr
 ·rename_i t l c ho
  split at hr
  ·rename_i kl L kc C el hl hc hu
   split at hr
   ·rename_i i hi
    split at hr
    ·rename_i zero z hz hsz
     split at hr
     ·rename_i hb
      cases hr
      have hb:=Nat.eq_of_beq_eq_true hb
      intro hC S0 w0 n a w φ Q b hs hbt
      obtain ⟨hnm,hC⟩:=named_ok hC
      obtain ⟨h1,h2,h3,h4,h5,-⟩:=hC
      have el':b.eval l= .int kl L:=by rw [eval_tmps hbt];exact den_val (hl ▸ hs.opd l)
      have ec:b.eval c= .int kc C:=by rw [eval_tmps hbt];exact den_val (hc ▸ hs.opd c)
      obtain ⟨cur,hrun,hcs,hcell⟩:=run_make ho el' ec hu hi hz hsz hb h1 h2 h3 h4 h5 w
      have hbl:Below w.heap.size w {w with heap:=w.heap.push (.cells cur el (0,0))}:=⟨rfl,rfl,rfl,by simp,fun k hk=>heap_push_lt w _ k hk⟩
      have hzl:(zero.cells.toList.map constAV0).length=z+1:=by simp [hb]
      have hrl:=zrow_len (zero.cells.toList.map constAV0) (z+1) hzl h.k
      have hle:(z+1)*h.k≤(z+1)*h.m:=Nat.mul_le_mul_left _ h3
      refine wp_of_run hrun ⟨_,rfl,hbl,?_⟩
      simp only [hnm]
      refine .rep (sl_of_row (r:=⟨z+1,true,false,zrow (zero.cells.toList.map constAV0) h.k⟩) (heap_push w _) (free_grow hs hbl _ (.inr ⟨Nat.le_refl _,by simp⟩)) _ 0 (by rw [hrl,hcs];omega) hrl h3 h5 _ (fun _=>rfl) (fun j u x hu hx=>?_))
      have h6:=zrow_at _ (z+1) hzl (by omega) _ _ _ hx
      have h7:=hcell j u (by simpa using hu)
      rw [List.getElem?_map] at h6
      have h8:zero.cells.toList[j%(z+1)]?=some u:=by simpa using h7
      rw [h8] at h6;injection h6 with h6;subst h6;exact rep_const0 u
     ·cases hr
    ·cases hr
   ·cases hr
  ·cases hr
 ·exact head_plain (evPlain_ok hr)
 ·rename_i c xs ts _ ho
  split at hr
  ·rename_i f x hc _
   split at hr
   ·rename_i hE _
    split at hr
    ·rename_i vs C hv hfl
     cases hr
     refine head_call ho hc hE (fun hC=>hC.1) ?_ fun hC S0 w0 n a w φ hs=>?_
     ·have key:∀(l:List AV) (m:List AV),viewsL s l=some m->m.length=l.length:=by
       intro l
       induction l with
       | nil=>intro m h;cases h;rfl
       | cons y l ih =>
        intro m h
        simp only [viewsL] at h
        split at h
        ·rename_i y' m' _ hm
         cases h
         simp [ih m' hm]
        ·cases h
      rw [key _ _ hv];simp
     ·exact ⟨fun b=>b<w.heap.size,fun _ h=>h,(viewsL_ok hs _ _ hv).2,fun w' v O hg=>flat_ok hfl hC.2 hg⟩
    ·cases hr
   ·rename_i hE _
    split at hr
    ·rename_i hrd
     cases hr
     refine head_call ho hc hE (fun hC=>hC.1) (by simp) fun hC S0 w0 n a w φ hs=>⟨Free S0 w φ [],fun b hb=>hb.1,fun j v x hv hx=>?_,fun w' v O hg=>hg⟩
     have hrx:=readyL_at hrd hx
     rw [List.getElem?_map] at hv hx
     cases hj:xs.toList[j]? with
     | none=>rw [hj] at hv;cases hv
     | some y =>
      rw [hj] at hv hx
      injection hv with hv;injection hx with hx;subst hv;subst hx
      exact readyA_ok (hs.opd y) hrx
    ·cases hr
   ·cases hr
  ·cases hr
 ·exact head_plain (evPlain_ok hr)
end
def keptF (ds:List Nat):List (Nat×AV)->List (Nat×AV)
 | []=>[]
 | (i,x)::l=>match ds.any (Nat.beq i) with|true=>keptF ds l|false=>(i,x)::keptF ds l
theorem look_keptF (ds:List Nat):∀(l:List (Nat×AV)) (i:Nat) (x:AV),look (keptF ds l) i=some x->look l i=some x∧i ∉ ds
 | [],i,x,h=>by cases h
 | (k,y)::l,i,x,h=>by
  simp only [keptF] at h
  have ih:=look_keptF ds l i x
  split at h
  ·rename_i hk
   obtain ⟨h1,h2⟩:=ih h
   rw [look_cons]
   have hne:k≠i:=fun e=>by
    subst e
    obtain ⟨j,hj,hb⟩:=List.any_eq_true.1 hk
    have:=Nat.eq_of_beq_eq_true hb
    subst this
    exact h2 hj
   rw [if_neg hne];exact ⟨h1,h2⟩
  ·rename_i hk
   rw [look_cons] at h ⊢
   by_cases hki:k=i
   ·rw [if_pos hki] at h ⊢
    refine ⟨h,fun hm=>?_⟩
    have:ds.any (Nat.beq k)=true:=List.any_eq_true.2 ⟨i,hm,by rw [hki];exact Nat.beq_refl i⟩
    rw [hk] at this;cases this
   ·rw [if_neg hki] at h ⊢
    exact ih h
def depF (ops:List Oper) (avs:List AV):List Nat->List (Nat×AV)
 | []=>[]
 | d::l=>match ops[d]?,avs[d]? with
  | some p,some x=>(match p.dst with|some i=>(i,x)::depF ops avs l|none=>depF ops avs l)
  | _,_=>depF ops avs l
theorem look_depF (ops:List Oper) (avs:List AV):∀(l:List Nat) (i:Nat) (x:AV),look (depF ops avs l) i=some x-> ∃d p,d∈l∧ops[d]?=some p∧p.dst=some i∧avs[d]?=some x
 | [],i,x,h=>by cases h
 | d::l,i,x,h=>by
  simp only [depF] at h
  have ih:=look_depF ops avs l i x
  have step:look (depF ops avs l) i=some x-> ∃d' p,d'∈d::l∧ops[d']?=some p∧p.dst=some i∧avs[d']?=some x:=fun h=>by
   obtain ⟨d',p,h1,h2⟩:=ih h
   exact ⟨d',p,by simp [h1],h2⟩
  split at h
  ·rename_i p y hp hy
   split at h
   ·rename_i k hk
    rw [look_cons] at h
    by_cases e:k=i
    ·rw [if_pos e] at h;injection h with h;subst h;subst e
     exact ⟨d,p,by simp,hp,hk,hy⟩
    ·rw [if_neg e] at h;exact step h
   ·exact step h
  ·exact step h
def atOp (s:AS) (ds:List Nat) (ops:List Oper) (avs:List AV) (o:Oper):AS:=⟨depF ops avs (depsOf o)++keptF ds s.F,s.H⟩
def evHG (P:Program) (ops:List Oper) (s:AS) (o:Oper) (h:Hint):Option (AV×List Prop) :=
 match o.guard with
 | none=>evHead P s o h
 | some (j,want)=>(match ops[j]? with
  | some p=>(match p.dst with
   | some d=>(match getF s d with
    | .val (.bool b)=>(match h.g == want with
     | true=>(match evHead P s o h with|some (x,C)=>some (x,(b=h.g)::C)|none=>none)
     | false=>some (.val (.tuple #[]),[b=h.g]))
    | .val (.tuple _)=>some (.val (.tuple #[]),[])
    | _=>none)
   | none=>none)
  | none=>none)
def evHeads (P:Program) (s:AS) (ds:List Nat) (ops:List Oper) (hs:List (Nat×Hint)):List Oper->Nat->List AV->Option (List AV×List Prop)
 | [],_,avs=>some (avs,[])
 | o::l,i,avs=>match evHG P ops (atOp s ds ops avs o) o (hintAt hs i) with
  | some (x,C)=>(match evHeads P s ds ops hs l (i+1) (avs++ [x]) with|some (avs',D)=>some (avs',C++D)|none=>none)
  | none=>none
def headF:List Oper->List AV->List (Nat×AV)
 | o::l,x::m=>(match o.dst with|some d=>(d,x)::headF l m|none=>headF l m)
 | _,_=>[]
def evDraw (P:Program) (n T:Nat) (ops:List Oper) (hs:List (Nat×Hint)) (s:AS):Option (AS×List Prop) :=
 match P.follows .mixedOrders,factsB ops.toArray n,tailB ops.toArray T with
 | true,true,true=>(match evHeads P s ((ops.take T).filterMap (·.dst)) ops hs (ops.take T) 0 [] with
  | some (avs,C)=>(match evOps P n ops hs (ops.drop T) T ⟨headF (ops.take T) avs++keptF ((ops.take T).filterMap (·.dst)) s.F,s.H⟩ with|some (s',D)=>some (s',C++D)|none=>none)
  | none=>none)
 | _,_,_=>none
end Go.Proofs.YtejpabdmiagnnaaGreatDoor
namespace Go.Proofs.YtejpabdmiagnnaaGreatDoor
open Go.RowKit
section
variable {P:Program} {ops:List Oper} {S0:Zone} {w0:World} {Q:Exit->Act->World->Prop}
theorem evHG_ok {s:AS} {o:Oper} {h:Hint} {r:AV×List Prop} (hr:evHG P ops s o h=some r) (hC:AllP r.2) {n:Nat} {a b:Act} {w:World} {φ:Nat->Option Nat} (hs:SimO S0 w0 n [] s a w φ) (hb:b.tmps=a.tmps) :
  opRule P ops.toArray Q o b w fun v w'=>w.heap.size≤w'.heap.size∧Den (infoOf s.H φ) (Free S0 w' φ []) w' v r.1:=by
 unfold evHG at hr
 unfold opRule
 split at hr
 ·rename_i hg
  have hw:Region.wanted o (yielded ops.toArray b.tmps)=true:=by unfold Region.wanted;rw [hg]
  rw [if_pos hw]
  exact Oper.wp_mono (fun b' w' ⟨v,h1,h2,h3⟩=>⟨v,h1,h2,h2.size,h3⟩) (evHead_ok hr hC S0 w0 n a w φ Q b hs hb)
 ·rename_i j want hg
  split at hr
  ·rename_i p hp
   split at hr
   ·rename_i d hd
    split at hr
    ·rename_i bb hbb
     have ht:=hs.get d
     rw [hbb] at ht
     have hy:=yielded_at (ops:=ops) hp hd (den_bool ht)
     rw [←hb] at hy
     split at hr
     ·rename_i hwant
      split at hr
      ·rename_i x C he
       cases hr
       obtain ⟨hbg,hC⟩:=hC
       have hw:Region.wanted o (yielded ops.toArray b.tmps)=true:=by
        unfold Region.wanted;rw [hg];simp only [hy,hbg]
        have:h.g=want:=by simpa using hwant
        rw [this];simp
       rw [if_pos hw]
       exact Oper.wp_mono (fun b' w' ⟨v,h1,h2,h3⟩=>⟨v,h1,h2,h2.size,h3⟩) (evHead_ok he hC S0 w0 n a w φ Q b hs hb)
      ·cases hr
     ·rename_i hwant
      cases hr
      obtain ⟨hbg,-⟩:=hC
      have hw:¬Region.wanted o (yielded ops.toArray b.tmps)=true:=by
       unfold Region.wanted;rw [hg];simp only [hy,hbg]
       have:¬h.g=want:=by simpa using hwant
       simpa using this
      rw [if_neg hw]
      exact ⟨Nat.le_refl _,.rep (.val _)⟩
    ·rename_i arr hbb
     have ht:=hs.get d
     rw [hbb] at ht
     have hy:=yielded_none (ops:=ops) hp hd (den_val ht)
     rw [←hb] at hy
     cases hr
     have hw:¬Region.wanted o (yielded ops.toArray b.tmps)=true:=by
      unfold Region.wanted;rw [hg];simp [hy]
     rw [if_neg hw]
     exact ⟨Nat.le_refl _,.rep (.val _)⟩
    ·cases hr
   ·cases hr
  ·cases hr
theorem evHeads_at {s:AS} {ds:List Nat} {hs:List (Nat×Hint)}:∀(l:List Oper) (i:Nat) (avs avs':List AV) (C:List Prop),evHeads P s ds ops hs l i avs=some (avs',C)->AllP C->avs.length=i ->
  avs'.length=i+l.length∧avs'.take i=avs∧ ∀(j:Nat) (o:Oper),l[j]?=some o-> ∃x D,avs'[i+j]?=some x∧evHG P ops (atOp s ds ops (avs'.take (i+j)) o) o (hintAt hs (i+j))=some (x,D)∧AllP D
 | [],i,avs,avs',C,he,hC,hl=>by
  cases he
  exact ⟨by simp [hl],by rw [←hl,List.take_length],fun j o h=>by simp at h⟩
 | o::l,i,avs,avs',C,he,hC,hl=>by
  simp only [evHeads] at he
  split at he
  ·rename_i x C1 h1
   split at he
   ·rename_i avs2 D h2
    cases he
    obtain ⟨hC1,hD⟩:=allP_app.1 hC
    obtain ⟨e1,e2,e3⟩:=evHeads_at l (i+1) (avs++ [x]) avs' D h2 hD (by simp [hl])
    have e4:avs'.take i=avs:=by
     have:=congrArg (List.take i) e2
     rw [List.take_take,Nat.min_eq_left (by omega),←hl,List.take_left] at this
     rw [←hl];exact this
    have e5:avs'[i]?=some x:=by
     have h3:(avs'.take (i+1))[i]?=some x:=by rw [e2,List.getElem?_append_right (by omega),hl];simp
     exact take_get _ _ _ _ h3
    refine ⟨by rw [e1,List.length_cons];omega,e4,fun j p hp=>?_⟩
    cases j with
    | zero =>
     simp at hp;subst hp
     exact ⟨x,C1,by simpa using e5,by simp only [Nat.add_zero];rw [e4];exact h1,hC1⟩
    | succ j =>
     obtain ⟨y,D',h5,h6,h7⟩:=e3 j p (by simpa using hp)
     rw [show i+1+j=i+(j+1) by omega] at h5 h6
     exact ⟨y,D',h5,h6,h7⟩
   ·cases he
  ·cases he
theorem look_headF:∀(l:List Oper) (m:List AV) (i:Nat) (x:AV),look (headF l m) i=some x-> ∃(k:Nat) (o:Oper),l[k]?=some o∧o.dst=some i∧m[k]?=some x
 | [],m,i,x,h=>by simp [headF,look] at h
 | o::l,[],i,x,h=>by simp [headF,look] at h
 | o::l,y::m,i,x,h=>by
  simp only [headF] at h
  have step:look (headF l m) i=some x-> ∃(k:Nat) (p:Oper),(o::l)[k]?=some p∧p.dst=some i∧(y::m)[k]?=some x:=fun h=>by
   obtain ⟨k,p,h1,h2,h3⟩:=look_headF l m i x h
   exact ⟨k+1,p,by simpa using h1,h2,by simpa using h3⟩
  split at h
  ·rename_i d hd
   rw [look_cons] at h
   by_cases e:d=i
   ·rw [if_pos e] at h;injection h with h;subst h;subst e
    exact ⟨0,o,rfl,hd,rfl⟩
   ·rw [if_neg e] at h;exact step h
  ·exact step h
theorem mem_head (ops:List Oper) (T:Nat) (p:Oper×Nat):p∈ops.zipIdx.take T↔(p.2<T∧ops[p.2]?=some p.1):=by
 rw [List.mem_iff_getElem?]
 constructor
 ·rintro ⟨x,hx⟩
  rw [List.getElem?_take] at hx
  split at hx
  ·rename_i hxT
   rw [List.getElem?_zipIdx] at hx
   cases ho:ops[x]? with
   | none=>rw [ho] at hx;simp at hx
   | some q=>rw [ho] at hx;simp at hx;subst hx;exact ⟨by simpa using hxT,by simpa using ho⟩
  ·cases hx
 ·rintro ⟨h1,h2⟩
  refine ⟨p.2,?_⟩
  rw [List.getElem?_take,if_pos h1,List.getElem?_zipIdx,h2];simp
theorem head_dsts (ops:List Oper) (T i:Nat):i ∉ (ops.take T).filterMap (·.dst)↔ ∀(j:Nat) (p:Oper),j<T->ops[j]?=some p->p.dst≠some i:=by
 constructor
 ·intro h j p hj hp hd
  refine h (List.mem_filterMap.2 ⟨p,?_,hd⟩)
  exact List.mem_of_getElem? (i:=j) (by rw [List.getElem?_take,if_pos hj];exact hp)
 ·intro h hm
  obtain ⟨p,hp,hd⟩:=List.mem_filterMap.1 hm
  obtain ⟨j,hj⟩:=List.getElem?_of_mem hp
  rw [List.getElem?_take] at hj
  split at hj
  ·rename_i hjT;exact h j p hjT hj hd
  ·cases hj
theorem evDraw_ok {n T:Nat} {hs:List (Nat×Hint)} {s s':AS} {C:List Prop} (he:evDraw P n T ops hs s=some (s',C)) (hC:AllP C) {a:Act} {w:World} (hsim:Sim S0 w0 n s a w) (hQ:∀a' w',Sim S0 w0 n s' a' w'->Q .normal a' w'):P.follows .mixedOrders=true∧wpAny P .any ops.toArray Q ops.toArray.size (Array.replicate ops.toArray.size false) a {w with drawn:=w.drawn+1}:=by
 unfold evDraw at he
 split at he
 ·rename_i hm hB hT
  split at he
  ·rename_i avs C1 hheads
   split at he
   ·rename_i s2 D htail
    cases he
    obtain ⟨hC1,hD⟩:=allP_app.1 hC
    obtain ⟨φ,hs0⟩:=hsim
    have hs1:SimO S0 w0 n [] s a w.drew φ:=hs0.grow ((Below.refl _ _).drew)
    obtain ⟨hlen,-,hat⟩:=evHeads_at _ 0 [] avs C1 hheads hC1 rfl
    simp only [Nat.zero_add] at hlen hat
    obtain ⟨hlt,hnd,hin⟩:=factsB_parts hB
    unfold tailB at hT
    simp only [Bool.and_eq_true,decide_eq_true_eq] at hT
    obtain ⟨⟨⟨hT1,hT2⟩,hT3⟩,hT4⟩:=hT
    have hTs:T<ops.length:=by simpa using hT1
    have hal:avs.length=T:=by rw [hlen,List.length_take];omega
    let F:Nat->Value->World->Prop:=fun k v w'=>w.heap.size≤w'.heap.size∧ ∀x,avs[k]?=some x->Den (infoOf s.H φ) (Free S0 w' φ []) w' v x
    have hmono:∀k v w1 w2,Below w1.heap.size w1 w2->F k v w1->F k v w2:=by
     intro k v w1 w2 hb ⟨h1,h2⟩
     refine ⟨Nat.le_trans h1 hb.size,fun x hx=>(h2 x hx).mono (fun _ _ h=>h) (fun b hS=>⟨⟨by have:=hS.1;have:=hb.size;omega,hS.2⟩,hb.block b hS.1⟩) (fun id e m g hi=>?_)⟩
     obtain ⟨r,-,-,-,hφ⟩:=info_some hi
     have:=(hs0.rng id g hφ).2
     unfold cellsLen;rw [hb.block g (by omega)]
    refine ⟨hm,wpAny_tail hT1 hT2 hT3 hT4 hs0.tsz hB F hmono ?_ ?_ ops.toArray.size _ a _ ⟨(Below.refl _ _).drew,by simp,?_,rfl,rfl,?_,?_,fun _ _=>rfl⟩ (fun j _=>by simp only [List.size_toArray];exact getD_replicate_false _ _) (by simp)⟩
    ·
     intro k o hkT ho a' w' hb hdeps hkept
     have ho':ops[k]?=some o:=by simpa using ho
     obtain ⟨x,Dk,hx,hev,hDk⟩:=hat k o (by rw [List.getElem?_take,if_pos hkT];exact ho')
     have hb':Below w.heap.size w w':=hb
     have hg:=hs0.grow hb'
     have hsk:SimO S0 w0 a'.tmps.size [] (atOp s ((ops.take T).filterMap (·.dst)) ops (avs.take k) o) ⟨a'.tmps,S0.dfs⟩ w' φ:=by
      refine ⟨rfl,rfl,hg.bel,fun i av hi=>?_,hg.rows,hg.only,hg.inj,hg.rng,hg.apart,hg.new⟩
      show Den (infoOf s.H φ) _ _ _ _
      unfold atOp at hi
      rw [look_append] at hi
      cases hdf:look (depF ops (avs.take k) (depsOf o)) i with
      | some y =>
       rw [hdf] at hi
       simp at hi;subst hi
       obtain ⟨d,p,h1,h2,h3,h4⟩:=look_depF _ _ _ _ _ hdf
       rcases hdeps d h1 with hF|⟨q,hq,hn⟩
       ·have hval:valAt ops.toArray a' d=a'.tmps.getD i undef:=by
         unfold valAt
         have:(ops.toArray[d]?).bind (·.dst)=some i:=by simp [h2,h3]
         rw [this]
        rw [hval] at hF
        exact hF.2 y (take_get _ _ _ _ h4)
       ·have hq':ops[d]?=some q:=by simpa using hq
        rw [h2] at hq';injection hq' with hq';subst hq'
        rw [h3] at hn;cases hn
      | none =>
       rw [hdf] at hi
       simp at hi
       obtain ⟨h1,h2⟩:=look_keptF _ _ _ _ hi
       have hk:=hkept i (fun j p hj hp=>(head_dsts ops T i).1 h2 j p hj (by simpa using hp))
       have hk':a'.tmps.getD i undef=a.tmps.getD i undef:=hk
       show Den _ _ _ (a'.tmps.getD i undef) av
       rw [hk']
       exact hg.slots i av h1
     have:=evHG_ok (Q:=Q) (ops:=ops) hev hDk hsk (b:=a') rfl
     unfold opRule at this ⊢
     split
     ·rename_i hw
      rw [if_pos hw] at this
      exact Oper.wp_mono (fun b' w2 ⟨v,h1,h2,h3,h4⟩=>⟨v,h1,h2,Nat.le_trans hb'.size h3,fun y hy=>by rw [hx] at hy;injection hy with hy;subst hy;exact h4⟩) this
     ·rename_i hw
      rw [if_neg hw] at this
      exact ⟨hb'.size,fun y hy=>by rw [hx] at hy;injection hy with hy;subst hy;exact this.2⟩
    ·
     intro vs w' hb hfacts
     have hb':Below w.heap.size w w':=hb
     have hg:=hs0.grow hb'
     have hspec:=putAll_spec vs (ops.zipIdx.take T) a (by
      have h1:(ops.zipIdx.take T).filterMap (·.1.dst)=(ops.take T).filterMap (·.dst):=by
       conv=>rhs;rw [←List.zipIdx_map_fst 0 ops,←List.map_take]
       rw [List.filterMap_map];rfl
      rw [h1]
      exact List.Nodup.sublist ((List.take_sublist T ops).filterMap _) (by simpa using hnd))
     show wpList P ops.toArray Q (ops.drop T) (putAll (ops.zipIdx.take T) vs a) w'
     refine evOps_ok (S0:=S0) (w0:=w0) _ _ _ _ _ htail hD _ _ ⟨φ,?_⟩ hQ
     refine ⟨hspec.1.trans hs0.tsz,hspec.2.1.trans hs0.dfr,hg.bel,fun i av hi=>?_,hg.rows,hg.only,hg.inj,hg.rng,hg.apart,hg.new⟩
     show Den (infoOf s.H φ) _ _ _ _
     rw [look_append] at hi
     cases hh:look (headF (ops.take T) avs) i with
     | some y =>
      rw [hh] at hi
      simp at hi;subst hi
      obtain ⟨k,o,h1,h2,h3⟩:=look_headF _ _ _ _ hh
      have hkT:k<T:=by have:=(List.getElem?_eq_some_iff.1 h3).1;omega
      have ho:ops[k]?=some o:=take_get _ _ _ _ h1
      have hv:=hspec.2.2.1 (o,k) ((mem_head ops T _).2 ⟨hkT,ho⟩) i h2 (by rw [hs0.tsz];exact hin k o i (by simpa using ho) h2)
      have:(putAll (ops.zipIdx.take T) vs a).tmps.getD i undef=vs k:=by
       simp [hv]
      rw [this]
      exact (hfacts k hkT).2 y h3
     | none =>
      rw [hh] at hi
      simp at hi
      obtain ⟨h1,h2⟩:=look_keptF _ _ _ _ hi
      have hv:=hspec.2.2.2 i (fun p hp hd=>(head_dsts ops T i).1 h2 p.2 p.1 ((mem_head ops T p).1 hp).1 ((mem_head ops T p).1 hp).2 hd)
      have:(putAll (ops.zipIdx.take T) vs a).tmps.getD i undef=a.tmps.getD i undef:=by
       simp [hv]
      rw [this]
      exact hg.slots i av h1
    ·intro k o hk;rw [getD_replicate_false] at hk;cases hk
    ·intro k o s hk;rw [getD_replicate_false] at hk;cases hk
    ·intro k o hk;rw [getD_replicate_false] at hk;cases hk
   ·cases he
  ·cases he
 ·cases he
end
end Go.Proofs.YtejpabdmiagnnaaGreatDoor
namespace Go.Proofs.YtejpabdmiagnnaaGreatDoor
open Go.RowKit
set_option linter.unusedVariables false
def Weaks (s s':AS):Prop:=∀S0 w0 n a w,Sim S0 w0 n s a w->Sim S0 w0 n s' a w
def swp (P:Program):Code->(Exit->Act->World->Prop)->Act->World->Prop
 | .skip,Q,a,w=>Q .normal a w
 | .region _ ops false,Q,a,w=>wpList P ops Q ops.toList a w
 | .region _ ops true,Q,a,w=>P.follows .mixedOrders=true∧wpAny P .any ops Q ops.size (Array.replicate ops.size false) a {w with drawn:=w.drawn+1}
 | .seq x y,Q,a,w=>swp P x (Exit.then (swp P y Q) Q) a w
 | .cond c x y,Q,a,w=>∃t:Bool,a.eval c= .bool t∧(t=true->swp P x Q a w)∧(t=false->swp P y Q a w)
 | .block id c,Q,a,w=>swp P c (Exit.inBlock id Q) a w
 | .loop c,Q,a,w=>∃(J:Nat->Act->World->Prop) (k0:Nat),J k0 a w∧ ∀k a w,J k a w->swp P c (Exit.then (fun a' w'=>∃k',k'<k∧J k' a' w') Q) a w
 | .exit id,Q,a,w=>Q (.exit id) a w
 | .ret,Q,a,w=>Q .ret a w
 | .rangeFunc g ps x b,Q,a,w=>(Code.rangeFunc g ps x b).wp P Q a w
 | _,_,_,_=>False
section
variable {P:Program} {Q Q':Exit->Act->World->Prop}
theorem letsOut_mono (hQ:∀e a w,Q e a w->Q' e a w) (h:LetsOut Q):LetsOut Q':=let ⟨a,w,h⟩:=h;⟨a,w,hQ _ _ _ h⟩
theorem oper_mono {o:Oper} {a:Act} {w:World} {K K':Act->World->Prop} (hK:∀a w,K a w->K' a w) (hQ:∀e a w,Q e a w->Q' e a w) (hh:o.wp P a w K Q):o.wp P a w K' Q':=by
 unfold Oper.wp at *
 generalize (execOp a.eval o).run P w=r at *
 cases r with
 | ok n w' =>
  cases n<;>simp only [Oper.upon] at hh ⊢ <;>
   first
    | exact hK _ _ hh
    | exact Calls.mono hh (fun e w'' he=>by cases e<;>first|exact hK _ _ he|exact hQ _ _ _ he|exact letsOut_mono hQ he)
    | exact Rows.mono hh (fun _ _ he=>hK _ _ he)
 | halt x w'=>cases x<;>simp only [Oper.upon] at hh ⊢ <;>first|exact hQ _ _ _ hh|exact hh
theorem wpList_mono2 {ops:Array Oper} (hQ:∀e a w,Q e a w->Q' e a w):∀(l:List Oper) (a:Act) (w:World),wpList P ops Q l a w->wpList P ops Q' l a w
 | [],a,w,h=>hQ _ _ _ h
 | o::l,a,w,h=>by
  unfold wpList at h ⊢
  split at h
  ·rename_i hw
   rw [if_pos hw]
   exact h.imp (oper_mono (wpList_mono2 hQ l) hQ) fun ⟨h1,h2⟩=>⟨h1,letsOut_mono hQ h2⟩
  ·rename_i hw
   rw [if_neg hw]
   exact wpList_mono2 hQ l _ _ h
theorem wpOp_mono2 {ops:Array Oper} {i:Nat} {a:Act} {w:World} {K K':Act->World->Prop} (hK:∀a w,K a w->K' a w) (hQ:∀e a w,Q e a w->Q' e a w) (hh:wpOp P ops Q i K a w):wpOp P ops Q' i K' a w:=by
 unfold wpOp at *
 split
 ·exact hK _ _ (by simpa [*] using hh)
 ·rename_i o ho
  simp only [ho] at hh
  split
  ·rename_i hw;simp only [hw,if_true] at hh;exact hh.imp (oper_mono hK hQ) fun ⟨h1,h2⟩=>⟨h1,letsOut_mono hQ h2⟩
  ·rename_i hw;simp only [hw] at hh;exact hK _ _ hh
theorem wpAny_mono2 {md:Region.Mode} {ops:Array Oper} (hQ:∀e a w,Q e a w->Q' e a w):∀(fuel:Nat) (listed:Array Bool) (a:Act) (w:World),wpAny P md ops Q fuel listed a w->wpAny P md ops Q' fuel listed a w
 | 0,_,_,_,h=>⟨h.1,hQ _ _ _ h.2⟩
 | fuel+1,listed,a,w,h=>⟨fun h0=>hQ _ _ _ (h.1 h0),fun i hi=>wpOp_mono2 (wpAny_mono2 hQ fuel _) hQ (h.2 i hi)⟩
theorem then_mono {K K':Act->World->Prop} (hK:∀a w,K a w->K' a w) (hQ:∀e a w,Q e a w->Q' e a w) (e:Exit) (a:Act) (w:World) (h:Exit.then K Q e a w):Exit.then K' Q' e a w:=by
 cases e<;>first|exact hK _ _ h|exact hQ _ _ _ h
theorem inBlock_mono {id:Nat} (hQ:∀e a w,Q e a w->Q' e a w) (e:Exit) (a:Act) (w:World) (h:Exit.inBlock id Q e a w):Exit.inBlock id Q' e a w:=by
 cases e with
 | exit i =>
  simp only [Exit.inBlock] at h ⊢
  split
  ·rename_i hi;rw [if_pos hi] at h;exact hQ _ _ _ h
  ·rename_i hi;rw [if_neg hi] at h;exact hQ _ _ _ h
 | _=>exact hQ _ _ _ h
theorem swp_mono:∀(c:Code) (Q Q':Exit->Act->World->Prop),(∀e a w,Q e a w->Q' e a w)-> ∀(a:Act) (w:World),swp P c Q a w->swp P c Q' a w
 | .skip,_,_,hQ,a,w,h=>hQ _ _ _ h
 | .region _ ops false,_,_,hQ,a,w,h=>wpList_mono2 hQ _ _ _ h
 | .region _ ops true,_,_,hQ,a,w,h=>⟨h.1,wpAny_mono2 hQ _ _ _ _ h.2⟩
 | .seq x y,_,_,hQ,a,w,h=>swp_mono x _ _ (then_mono (swp_mono y _ _ hQ) hQ) a w h
 | .cond c x y,_,_,hQ,a,w,⟨t,h1,h2,h3⟩=>⟨t,h1,fun e=>swp_mono x _ _ hQ a w (h2 e),fun e=>swp_mono y _ _ hQ a w (h3 e)⟩
 | .block id c,_,_,hQ,a,w,h=>swp_mono c _ _ (inBlock_mono hQ) a w h
 | .loop c,_,_,hQ,a,w,⟨J,k0,h0,h⟩=>⟨J,k0,h0,fun k a w hJ=>swp_mono c _ _ (then_mono (fun _ _ h=>h) hQ) a w (h k a w hJ)⟩
 | .exit id,_,_,hQ,a,w,h=>hQ _ _ _ h
 | .ret,_,_,hQ,a,w,h=>hQ _ _ _ h
 | .rangeFunc g ps x b,_,_,hQ,a,w,h=>wp_mono h hQ
 | .scope _,_,_,_,_,_,h=>h.elim
 | .label _,_,_,_,_,_,h=>h.elim
 | .goto _,_,_,_,_,_,h=>h.elim
 | .refuse _,_,_,_,_,_,h=>h.elim
end
theorem loop_by {P:Program} {c:Code} {Q:Exit->Act->World->Prop} {a:Act} {w:World} (J:Nat->Act->World->Prop) (k0:Nat) (h0:J k0 a w)
  (round:∀k a w,J k a w->c.wp P (Exit.then (fun a' w'=>∃k',k'<k∧J k' a' w') Q) a w):(Code.loop c).wp P Q a w:=by
 intro b k cs
 have key:∀n a w,J n a w-> ∃e a' w',Q e a' w'∧Arrives P (lone (b.at a (.code c:: .inLoop c::k)) cs w) b k cs e a' w':=by
  intro n
  induction n using Nat.strongRecOn with
  | _ n ih =>
   intro a w hJ
   obtain ⟨e,a₁,w₁,hq,harr⟩:=round n a w hJ b (.inLoop c::k) cs
   cases e with
   | normal =>
    obtain ⟨k',hlt,hJ'⟩:=hq
    obtain ⟨e₂,a₂,w₂,hq₂,harr₂⟩:=ih k' hlt a₁ w₁ hJ'
    exact ⟨e₂,a₂,w₂,hq₂,.of_steps (Steps.trans harr (.one step_inLoop)) harr₂⟩
   | exit id=>exact ⟨_,a₁,w₁,hq,.pass (x:=.inLoop c) rfl (fun _ _=>.inl (by simp)) harr⟩
   | goto l=>exact ⟨_,a₁,w₁,hq,.pass (x:=.inLoop c) rfl (fun _ _=>.inl (by simp)) harr⟩
   | ret=>exact ⟨_,a₁,w₁,hq,.pass (x:=.inLoop c) rfl (fun _ _=>.inl (by simp)) harr⟩
   | panic ch=>exact ⟨_,a₁,w₁,hq,.pass (x:=.inLoop c) rfl (fun _ _=>.inl (by simp)) harr⟩
   | outgrown=>exact ⟨_,a₁,w₁,hq,.pass (x:=.inLoop c) rfl (fun _ _=>.inl (by simp)) harr⟩
 obtain ⟨e,a',w',hq,harr⟩:=key k0 a w h0
 exact ⟨e,a',w',hq,.of_steps (.one step_loop) harr⟩
theorem swp_wp {P:Program}:∀(c:Code) (Q:Exit->Act->World->Prop) (a:Act) (w:World),swp P c Q a w->c.wp P Q a w
 | .skip,_,a,w,h=>wp_skip h
 | .region _ ops false,_,a,w,h=>wp_region_list h
 | .region _ ops true,_,a,w,h=>wp_region_any h.1 h.2
 | .seq x y,Q,a,w,h=>wp_seq (swp_wp x _ a w (swp_mono x _ _ (then_mono (swp_wp y Q) fun _ _ _ h=>h) a w h))
 | .cond c x y,Q,a,w,⟨t,h1,h2,h3⟩=>wp_cond_split h1 (fun e=>swp_wp x Q a w (h2 e)) (fun e=>swp_wp y Q a w (h3 e))
 | .block id c,_,a,w,h=>wp_block (swp_wp c _ a w h)
 | .loop c,_,a,w,⟨J,k0,h0,h⟩=>loop_by J k0 h0 fun k a w hJ=>swp_wp c _ a w (h k a w hJ)
 | .exit id,_,a,w,h=>wp_exit h
 | .ret,_,a,w,h=>wp_ret h
 | .rangeFunc g ps x b,_,a,w,h=>h
 | .scope _,_,_,_,h=>h.elim
 | .label _,_,_,_,h=>h.elim
 | .goto _,_,_,_,h=>h.elim
 | .refuse _,_,_,_,h=>h.elim
def mark (r:Nat):Deferred:={target:=.collected r,args:= #[]}
structure ZExt (S0:Zone) (w0:World) (S1:Zone) (w1:World) (ms:List Nat):Prop where
 kept:Kept S0 w0 w1
 sub:∀b,S1.S b->S0.S b
 X:∀b,S1.X b->w0.heap.size≤b∨S0.X b
 fix:S1.fix=S0.fix
 dfs:S1.dfs=ms.map mark++S0.dfs
 nodup:ms.Nodup
 marks:∀r∈ms,w0.heap.size≤r∧r<w1.heap.size∧w1.heap[r]?=some (.deferred (some []))∧ ¬S1.S r∧ ¬S1.X r
theorem ZExt.refl {S0:Zone} {w0 w:World} (h:Kept S0 w0 w):ZExt S0 w0 S0 w0 []:=⟨⟨rfl,rfl,rfl,Nat.le_refl _,fun _ _ _=>rfl,h.g0,h.gx⟩,fun _ h=>h,fun _ h=>.inr h,rfl,rfl,List.nodup_nil,fun _ h=>by cases h⟩
theorem Kept.trans {S0 S1:Zone} {w0 w1 w2:World} (h:Kept S0 w0 w1) (k:Kept S1 w1 w2) (hX:∀b,S1.X b->w0.heap.size≤b∨S0.X b):Kept S0 w0 w2 :=
 ⟨k.os.trans h.os,k.tape.trans h.tape,k.output.trans h.output,Nat.le_trans h.size k.size,fun b hb hx=>(k.block b (Nat.lt_of_lt_of_le hb h.size) fun hx1=>(hX b hx1).elim (fun h=>by omega) hx).trans (h.block b hb hx),h.g0,h.gx⟩
theorem ZExt.trans {S0 S1 S2:Zone} {w0 w1 w2:World} {ms ms':List Nat} (h:ZExt S0 w0 S1 w1 ms) (k:ZExt S1 w1 S2 w2 ms'):ZExt S0 w0 S2 w2 (ms'++ms) where
 kept:=h.kept.trans k.kept h.X
 sub:=fun b hb=>h.sub b (k.sub b hb)
 X:=fun b hb=>(k.X b hb).elim (fun hb=>.inl (Nat.le_trans h.kept.size hb)) fun hb=>h.X b hb
 fix:=k.fix.trans h.fix
 dfs:=by rw [k.dfs,h.dfs,List.map_append,List.append_assoc]
 nodup:=by
  rw [List.nodup_append]
  refine ⟨k.nodup,h.nodup,fun a ha b hb e=>?_⟩
  subst e
  have:=(k.marks a ha).1
  have:=(h.marks a hb).2.1
  omega
 marks:=fun r hr=>by
  rcases List.mem_append.1 hr with hr|hr
  ·obtain ⟨h1,h2⟩:=k.marks r hr
   exact ⟨Nat.le_trans h.kept.size h1,h2⟩
  ·obtain ⟨h1,h2,h3,h4,h5⟩:=h.marks r hr
   exact ⟨h1,Nat.lt_of_lt_of_le h2 k.kept.size,(k.kept.block r h2 h5).trans h3,fun hs=>h4 (k.sub r hs),fun hx=>(k.X r hx).elim (fun h=>by omega) h5⟩
def Sim1 (S0:Zone) (w0:World) (n:Nat) (s:AS) (a:Act) (w:World):Prop:=∃S1 w1 ms,ZExt S0 w0 S1 w1 ms∧Sim S1 w1 n s a w
theorem Sim.one {S0:Zone} {w0:World} {n:Nat} {s:AS} {a:Act} {w:World} (h:Sim S0 w0 n s a w):Sim1 S0 w0 n s a w:=⟨S0,w0,[],ZExt.refl h.choose_spec.bel,h⟩
theorem Sim1.after {S0 S1:Zone} {w0 w1:World} {ms:List Nat} {n:Nat} {s:AS} {a:Act} {w:World} (he:ZExt S0 w0 S1 w1 ms) (h:Sim1 S1 w1 n s a w):Sim1 S0 w0 n s a w :=
 let ⟨S2,w2,_,h1,h2⟩:=h;⟨S2,w2,_,he.trans h1,h2⟩
def AWP (P:Program) (n:Nat) (c:Code) (Q:Exit->AS->Prop) (s:AS):Prop :=
 ∀S0 w0 a w,Sim S0 w0 n s a w->swp P c (fun e a' w'=>∃s',Q e s'∧Sim1 S0 w0 n s' a' w') a w
theorem AWP.at1 {P:Program} {n:Nat} {c:Code} {Q:Exit->AS->Prop} {s:AS} (h:AWP P n c Q s) {S0:Zone} {w0:World} {a:Act} {w:World} (hs:Sim1 S0 w0 n s a w):swp P c (fun e a' w'=>∃s',Q e s'∧Sim1 S0 w0 n s' a' w') a w:=by
 obtain ⟨S1,w1,ms,h1,h2⟩:=hs
 exact swp_mono _ _ _ (fun e a' w' ⟨s',hq,hs'⟩=>⟨s',hq,hs'.after h1⟩) _ _ (h S1 w1 a w h2)
def Then (K:AS->Prop) (Q:Exit->AS->Prop):Exit->AS->Prop
 | .normal,s=>K s
 | e,s=>Q e s
def InB (id:Nat) (Q:Exit->AS->Prop):Exit->AS->Prop
 | .exit id',s=>if id'=id then Q .normal s else Q (.exit id') s
 | e,s=>Q e s
def fstC:Code->Code
 | .seq a _=>a
 | c=>c
def sndC:Code->Code
 | .seq _ b=>b
 | c=>c
def thenC:Code->Code
 | .cond _ a _=>a
 | c=>c
def elseC:Code->Code
 | .cond _ _ b=>b
 | c=>c
def bodyC:Code->Code
 | .block _ b=>b
 | .loop b=>b
 | .scope b=>b
 | c=>c
def isSeq:Code->Bool
 | .seq _ _=>true
 | _=>false
def condC:Code->Option Operand
 | .cond x _ _=>some x
 | _=>none
def blockC:Code->Option Nat
 | .block id _=>some id
 | _=>none
def isLoop:Code->Bool
 | .loop _=>true
 | _=>false
def exitC:Code->Option Nat
 | .exit id=>some id
 | _=>none
def isRet:Code->Bool
 | .ret=>true
 | _=>false
def isSkip:Code->Bool
 | .skip=>true
 | _=>false
section
variable {P:Program} {n:Nat} {c:Code} {Q:Exit->AS->Prop} {s:AS}
theorem AWP.seq (hc:isSeq c=true) (h:AWP P n (fstC c) (Then (AWP P n (sndC c) Q) Q) s):AWP P n c Q s:=by
 cases c with
 | seq x y =>
  intro S0 w0 a w hs
  refine swp_mono x _ _ (fun e a' w' ⟨s',hq,hs'⟩=>?_) a w (h S0 w0 a w hs)
  cases e with
  | normal=>exact AWP.at1 hq hs'
  | _=>exact ⟨s',hq,hs'⟩
 | _=>cases hc
theorem AWP.cond {x:Operand} {b:Bool} (hc:condC c=some x) (hx:opd s x= .val (.bool b)) (ht:b=true->AWP P n (thenC c) Q s) (hf:b=false->AWP P n (elseC c) Q s):AWP P n c Q s:=by
 cases c with
 | cond y p q =>
  cases hc
  intro S0 w0 a w hs
  have hv:a.eval x= .bool b:=by
   obtain ⟨φ,hs'⟩:=hs
   exact den_val (hx ▸ hs'.opd x)
  exact ⟨b,hv,fun e=>ht e S0 w0 a w hs,fun e=>hf e S0 w0 a w hs⟩
 | _=>cases hc
theorem AWP.block {id:Nat} (hc:blockC c=some id) (h:AWP P n (bodyC c) (InB id Q) s):AWP P n c Q s:=by
 cases c with
 | block id' b =>
  cases hc
  intro S0 w0 a w hs
  refine swp_mono b _ _ (fun e a' w' ⟨s',hq,hs'⟩=>?_) a w (h S0 w0 a w hs)
  cases e with
  | exit i =>
   simp only [InB] at hq
   simp only [Exit.inBlock]
   split
   ·rename_i hi;rw [if_pos hi] at hq;exact ⟨s',hq,hs'⟩
   ·rename_i hi;rw [if_neg hi] at hq;exact ⟨s',hq,hs'⟩
  | _=>exact ⟨s',hq,hs'⟩
 | _=>cases hc
theorem AWP.exit {id:Nat} (hc:exitC c=some id) (h:Q (.exit id) s):AWP P n c Q s:=by
 cases c with
 | exit i=>cases hc;intro S0 w0 a w hs;exact ⟨s,h,hs.one⟩
 | _=>cases hc
theorem AWP.ret (hc:isRet c=true) (h:Q .ret s):AWP P n c Q s:=by
 cases c with
 | ret=>intro S0 w0 a w hs;exact ⟨s,h,hs.one⟩
 | _=>cases hc
theorem AWP.skip (hc:isSkip c=true) (h:Q .normal s):AWP P n c Q s:=by
 cases c with
 | skip=>intro S0 w0 a w hs;exact ⟨s,h,hs.one⟩
 | _=>cases hc
theorem AWP.weak {s':AS} (hw:Weaks s s') (h:AWP P n c Q s'):AWP P n c Q s:=fun S0 w0 a w hs=>h S0 w0 a w (hw S0 w0 n a w hs)
theorem AWP.mono {Q':Exit->AS->Prop} (h:AWP P n c Q s) (hq:∀e s,Q e s->Q' e s):AWP P n c Q' s:=fun S0 w0 a w hs=>swp_mono c _ _ (fun e _ _ ⟨s',h1,h2⟩=>⟨s',hq e s' h1,h2⟩) a w (h S0 w0 a w hs)
def Round {ι:Type} (I:ι->AS) (Inv:ι->Prop) (m:ι->Nat) (Q:Exit->AS->Prop) (x:ι):Exit->AS->Prop:=Then (fun s'=>∃y,Inv y∧m y<m x∧Weaks s' (I y)) Q
theorem AWP.loop {ι:Type} (I:ι->AS) (Inv:ι->Prop) (m:ι->Nat) (hc:isLoop c=true) (x0:ι) (h0:Inv x0) (hw:Weaks s (I x0)) (h:∀x,Inv x->AWP P n (bodyC c) (Round I Inv m Q x) (I x)):AWP P n c Q s:=by
 cases c with
 | loop b =>
  intro S0 w0 a w hs
  refine ⟨fun k a w=>∃x,Inv x∧m x=k∧Sim1 S0 w0 n (I x) a w,m x0,⟨x0,h0,rfl,(hw S0 w0 n a w hs).one⟩,?_⟩
  rintro k a w ⟨x,hx,rfl,hs⟩
  refine swp_mono b _ _ (fun e a' w' ⟨s',hq,hs'⟩=>?_) a w (AWP.at1 (h x hx) hs)
  cases e with
  | normal =>
   obtain ⟨y,hy,hlt,hwk⟩:=hq
   obtain ⟨S1,w1,ms,h1,h2⟩:=hs'
   exact ⟨m y,hlt,y,hy,rfl,S1,w1,ms,h1,hwk S1 w1 n a' w' h2⟩
  | _=>exact ⟨s',hq,hs'⟩
 | _=>cases hc
end
end Go.Proofs.YtejpabdmiagnnaaGreatDoor
namespace Go.Proofs.YtejpabdmiagnnaaGreatDoor
open Go.RowKit
structure Said where
 hs:List (Nat×Hint):=[]
 T:Nat:=0
def evReg (P:Program) (n:Nat) (c:Code) (x:Said) (s:AS):Option (AS×List Prop) :=
 match c with
 | .region _ ⟨l⟩ false=>evOps P n l x.hs l 0 s
 | .region _ ⟨l⟩ true=>evDraw P n x.T l x.hs s
 | _=>none
def evRegs (P:Program) (n:Nat):List Said->Code->AS->Option (AS×List Prop)
 | [],_,s=>some (s,[])
 | x::l,c,s=>match isSeq c with
  | true=>(match evReg P n (fstC c) x s with
   | some (s1,C)=>(match evRegs P n l (sndC c) s1 with|some (s2,D)=>some (s2,C++D)|none=>none)
   | none=>none)
  | false=>none
def dropC:Nat->Code->Code
 | 0,c=>c
 | k+1,c=>dropC k (sndC c)
section
variable {P:Program} {n:Nat} {c:Code} {Q:Exit->AS->Prop} {s s':AS} {C:List Prop}
theorem evReg_ok {x:Said} (he:evReg P n c x s=some (s',C)) (hC:AllP C) (h:Q .normal s'):AWP P n c Q s:=by
 intro S0 w0 a w hs
 unfold evReg at he
 split at he
 ·exact evOps_ok (S0:=S0) (w0:=w0) _ _ _ _ _ he hC a w hs fun a' w' hs'=>⟨s',h,hs'.one⟩
 ·exact evDraw_ok (S0:=S0) (w0:=w0) he hC hs fun a' w' hs'=>⟨s',h,hs'.one⟩
 ·cases he
theorem AWP.reg (x:Said) (he:evReg P n c x s=some (s',C)) (hC:AllP C) (h:Q .normal s'):AWP P n c Q s:=evReg_ok he hC h
theorem AWP.regs:∀(l:List Said) {c:Code} {s s':AS} {C:List Prop},evRegs P n l c s=some (s',C)->AllP C->AWP P n (dropC l.length c) Q s'->AWP P n c Q s
 | [],c,s,s',C,he,hC,h=>by cases he;exact h
 | x::l,c,s,s',C,he,hC,h=>by
  simp only [evRegs] at he
  split at he
  ·rename_i hseq
   split at he
   ·rename_i s1 C1 h1
    split at he
    ·rename_i s2 D h2
     cases he
     obtain ⟨hC1,hD⟩:=allP_app.1 hC
     exact AWP.seq hseq (evReg_ok h1 hC1 (AWP.regs l h2 hD h))
    ·cases he
   ·cases he
  ·cases he
end
def ren0 (a b:Nat):AV->AV
 | .ref i=>match Nat.beq i a with|true=>.ref b|false=>.ref i
 | .pre i n=>match Nat.beq i a with|true=>.pre b n|false=>.pre i n
 | .win i o n=>match Nat.beq i a with|true=>.win b o n|false=>.win i o n
 | .addr i o=>match Nat.beq i a with|true=>.addr b o|false=>.addr i o
 | .agg _=>.dead
 | .tup _=>.dead
 | x=>x
def ren1 (a b:Nat):AV->AV
 | .agg cs=>.agg (cs.map (ren0 a b))
 | x=>ren0 a b x
def ren2 (a b:Nat):AV->AV
 | .tup cs=>.tup (cs.map (ren1 a b))
 | x=>ren1 a b x
def renRow (a b:Nat) (r:Row):Row:=match r.pure with|true=>r|false=>⟨r.e,false,r.full,r.cells.map (ren0 a b)⟩
def renKey {α:Type} (a b:Nat):List (Nat×α)->List (Nat×α)
 | []=>[]
 | (k,x)::l=>match Nat.beq k a with|true=>(b,x)::renKey a b l|false=>(k,x)::renKey a b l
def rename (a b:Nat) (s:AS):AS:=⟨mapv (ren2 a b) s.F,mapv (renRow a b) (renKey a b s.H)⟩
theorem look_renKey {α:Type} (a b:Nat):∀(l:List (Nat×α)),look l b=none-> ∀i,look (renKey a b l) i=if i=b then look l a else if i=a then none else look l i
 | [],_,i=>by simp [renKey,look]
 | (k,x)::l,hb,i=>by
  rw [look_cons] at hb
  have hkb:k≠b:=fun e=>by rw [if_pos e] at hb;cases hb
  rw [if_neg hkb] at hb
  have ih:=look_renKey a b l hb i
  rcases beq_cases k a with ⟨h,e⟩|⟨h,e⟩
  ·simp only [renKey,h,look_cons,ih]
   by_cases hi:i=b
   ·subst hi;simp [e]
   ·by_cases hia:i=a
    ·have hba:b≠a:=fun e'=>hi (by rw [e',hia])
     simp [hia,hba,Ne.symm hba]
    ·have:k≠i:=fun e'=>hia (by rw [←e',e])
     simp [hi,hia,Ne.symm hi,this]
  ·simp only [renKey,h,look_cons,ih]
   by_cases hi:i=b
   ·subst hi;simp [hkb,e]
   ·by_cases hia:i=a
    ·subst hia;simp [hi,e]
    ·simp [hi,hia]
section
variable {S0:Zone} {w0 w:World} {n:Nat} {s:AS} {a:Act} {φ:Nat->Option Nat}
theorem renRow_len (x y:Nat) (r:Row):(renRow x y r).e=r.e∧(renRow x y r).cells.length=r.cells.length∧(renRow x y r).pure=r.pure∧(renRow x y r).full=r.full:=by
 unfold renRow
 cases h:r.pure<;>simp [h]
theorem SimO.rename_ (h:SimO S0 w0 n [] s a w φ) (x y:Nat) (hylt:y<1000000000000) (hne:x≠y) (hy:look s.H y=none):∃ φ',SimO S0 w0 n [] (rename x y s) a w φ':=by
 let φ':Nat->Option Nat:=fun i=>if i=y then φ x else if i=x then none else φ i
 have hφy:φ y=none:=h.only y hy
 have hrange:∀i g,φ' i=some g-> ∃j,φ j=some g∧(i=y->j=x)∧(i≠y->j=i):=by
  intro i g hi
  by_cases e:i=y
  ·have:φ x=some g:=by simpa [φ',e] using hi
   exact ⟨x,this,fun _=>rfl,fun h=>absurd e h⟩
  ·by_cases e2:i=x
   ·simp [φ',e2,hne] at hi
   ·have:φ i=some g:=by simpa [φ',e,e2] using hi
    exact ⟨i,this,fun h=>absurd h e,fun _=>rfl⟩
 have hFiff:∀b,Free S0 w φ [] b->Free S0 w φ' [] b:=by
  intro b ⟨h1,h2,h3,h4⟩
  refine ⟨h1,h2,fun i hi=>?_,h4⟩
  obtain ⟨j,hj,-⟩:=hrange i b hi
  exact h3 j hj
 have hlook:∀i,look (rename x y s).H i=(if i=y then look s.H x else if i=x then none else look s.H i).map (renRow x y):=by
  intro i
  unfold rename
  rw [look_mapv,look_renKey x y _ hy]
 have hI:∀i z,infoOf s.H φ i=some z->infoOf (rename x y s).H φ' (if i=x then y else i)=some z:=by
  intro i z hi
  obtain ⟨e,m,b⟩:=z
  obtain ⟨r,hl,h1,h2,h3⟩:=info_some hi
  by_cases e1:i=x
  ·subst e1
   rw [if_pos rfl,info_of (r:=renRow i y r) (by rw [hlook,if_pos rfl,hl];rfl),(renRow_len i y r).1,(renRow_len i y r).2.1,h1,h2]
   simp [φ',h3]
  ·have e2:i≠y:=fun e=>by subst e;rw [hy] at hl;cases hl
   rw [if_neg e1,info_of (r:=renRow x y r) (by rw [hlook,if_neg e2,if_neg e1,hl];rfl),(renRow_len x y r).1,(renRow_len x y r).2.1,h1,h2]
   simp [φ',e1,e2,h3]
 have hS2:∀b,Free S0 w φ [] b->Free S0 w φ' [] b∧w.heap[b]?=w.heap[b]?:=fun b h=>⟨hFiff b h,rfl⟩
 have ok:LeafOK (infoOf s.H φ) (infoOf (rename x y s).H φ') (Free S0 w φ []) (Free S0 w φ' []) w (ren0 x y):=by
  refine ⟨fun v av hv h1 h2=>?_,fun _=>rfl,fun _=>rfl⟩
  have pick:∀i z,infoOf s.H φ i=some z->(Nat.beq i x=true∧infoOf (rename x y s).H φ' y=some z)∨(Nat.beq i x=false∧infoOf (rename x y s).H φ' i=some z):=by
   intro i z hi
   have:=hI i z hi
   rcases beq_cases i x with ⟨hb,e⟩|⟨hb,e⟩
   ·rw [if_pos e] at this;exact .inl ⟨hb,this⟩
   ·rw [if_neg e] at this;exact .inr ⟨hb,this⟩
  cases hv with
  | rep h=>cases h with
   | val v=>exact .rep (.val v)
   | nil=>exact .rep .nil
   | agg vs cs _ _=>exact absurd rfl (h1 cs)
   | tup vs cs _ _=>exact absurd rfl (h2 cs)
   | arr vs cs hl h=>exact .rep ((Rep.arr vs cs hl h).mono hS2)
   | sl A n c e us row hl hn hc hm ha h=>exact .rep ((Rep.sl A n c e us row hl hn hc hm ha h).mono hS2)
   | ptr ad us row off hl hs ha h=>exact .rep ((Rep.ptr ad us row off hl hs ha h).mono hS2)
   | clo f vs cs hl h=>exact .rep ((Rep.clo f vs cs hl h).mono hS2)
  | agg vs cs _ _=>exact absurd rfl (h1 cs)
  | tup vs cs _ _=>exact absurd rfl (h2 cs)
  | ref i e m g l c hi hm hc hx hs=>rcases pick i _ hi with ⟨hb,hi'⟩|⟨hb,hi'⟩<;>simp only [ren0,hb]<;>exact .ref _ e m g l c hi' hm hc hx hs
  | refnil i e hi=>rcases pick i _ hi with ⟨hb,hi'⟩|⟨hb,hi'⟩<;>simp only [ren0,hb]<;>exact .refnil _ e hi'
  | pre i k e m g l c hi hn hm hc hx hs=>rcases pick i _ hi with ⟨hb,hi'⟩|⟨hb,hi'⟩<;>simp only [ren0,hb]<;>exact .pre _ k e m g l c hi' hn hm hc hx hs
  | prenil i e hi=>rcases pick i _ hi with ⟨hb,hi'⟩|⟨hb,hi'⟩<;>simp only [ren0,hb]<;>exact .prenil _ e hi'
  | win i off k e m l c g A hi hn hm hc hx ha=>rcases pick i _ hi with ⟨hb,hi'⟩|⟨hb,hi'⟩<;>simp only [ren0,hb]<;>exact .win _ off k e m l c g A hi' hn hm hc hx ha
  | addr i off e m g hi=>rcases pick i _ hi with ⟨hb,hi'⟩|⟨hb,hi'⟩<;>simp only [ren0,hb]<;>exact .addr _ off e m g hi'
  | dead v=>exact .dead _
 have other1:∀z:AV,(∀cs,z≠ .agg cs)->ren1 x y z=ren0 x y z:=by
  intro z hz
  cases z with
  | agg cs=>exact absurd rfl (hz cs)
  | _=>rfl
 have other2:∀z:AV,(∀cs,z≠ .tup cs)->ren2 x y z=ren1 x y z:=by
  intro z hz
  cases z with
  | tup cs=>exact absurd rfl (hz cs)
  | _=>rfl
 refine ⟨φ',h.tsz,h.dfr,h.bel,fun i av hi=>?_,fun i r hr=>?_,fun i hi=>?_,fun i j g hi hj=>?_,fun i g hi=>?_,fun i g hi=>by simp,h.new⟩
 ·unfold rename at hi
  rw [look_mapv] at hi
  cases hl:look s.F i with
  | none=>rw [hl] at hi;cases hi
  | some z =>
   rw [hl] at hi;injection hi with hi;subst hi
   exact ok.two (h.slots i z hl) (fun _=>rfl) other1 (fun _=>rfl) other2
 ·rw [hlook] at hr
  have:∃j q,look s.H j=some q∧φ' i=φ j∧r=renRow x y q:=by
   by_cases e:i=y
   ·rw [if_pos e] at hr
    cases hl:look s.H x with
    | none=>rw [hl] at hr;cases hr
    | some q=>rw [hl] at hr;injection hr with hr;exact ⟨x,q,hl,by simp [φ',e],hr.symm⟩
   ·rw [if_neg e] at hr
    by_cases e2:i=x
    ·rw [if_pos e2] at hr;cases hr
    ·rw [if_neg e2] at hr
     cases hl:look s.H i with
     | none=>rw [hl] at hr;cases hr
     | some q=>rw [hl] at hr;injection hr with hr;exact ⟨i,q,hl,by simp [φ',e,e2],hr.symm⟩
  obtain ⟨j,q,hq,hφj,rfl⟩:=this
  have hrow:=h.rows j q hq
  rw [hφj]
  unfold RowDen at hrow ⊢
  cases hb:φ j with
  | none =>
   rw [hb] at hrow
   have:=(renRow_len x y q).2.1
   simp only at hrow ⊢
   rw [hrow] at this;exact List.length_eq_zero_iff.1 this
  | some g =>
   rw [hb] at hrow
   obtain ⟨cur,te,fr,hg,hf,hlen,hfu,hc⟩:=hrow
   refine ⟨cur,te,fr,hg,hf,by rw [(renRow_len x y q).2.1];exact hlen,by rw [(renRow_len x y q).2.1,(renRow_len x y q).2.2.2];exact hfu,fun j u z hu hz=>?_⟩
   rw [(renRow_len x y q).2.2.1]
   unfold CellDen
   cases hp:q.pure with
   | true =>
    have:renRow x y q=q:=by unfold renRow;rw [hp]
    rw [this] at hz
    have:=hc j u z hu hz
    unfold CellDen at this;rw [hp] at this
    exact this.mono hS2
   | false =>
    have:(renRow x y q).cells=q.cells.map (ren0 x y):=by unfold renRow;rw [hp]
    rw [this,List.getElem?_map] at hz
    cases hj:q.cells[j]? with
    | none=>rw [hj] at hz;cases hz
    | some z' =>
     rw [hj] at hz;injection hz with hz;subst hz
     have:=hc j u z' hu hj
     unfold CellDen at this;rw [hp] at this
     exact ok.all this
 ·rw [hlook] at hi
  by_cases e:i=y
  ·rw [if_pos e] at hi
   cases hl:look s.H x with
   | none=>simp [φ',e,h.only x hl]
   | some q=>rw [hl] at hi;cases hi
  ·rw [if_neg e] at hi
   by_cases e2:i=x
   ·simp [φ',e2,hne]
   ·rw [if_neg e2] at hi
    cases hl:look s.H i with
    | none=>simp [φ',e,e2,h.only i hl]
    | some q=>rw [hl] at hi;cases hi
 ·obtain ⟨i',h1,h2,h3⟩:=hrange i g hi
  obtain ⟨j',h4,h5,h6⟩:=hrange j g hj
  have e:=h.inj i' j' g h1 h4
  by_cases ei:i=y<;>by_cases ej:j=y
  ·rw [ei,ej]
  ·have:=h2 ei;have:=h6 ej
   have:j=x:=by omega
   subst this
   simp [φ',hne] at hj
  ·have:=h3 ei;have:=h5 ej
   have:i=x:=by omega
   subst this
   simp [φ',hne] at hi
  ·have:=h3 ei;have:=h6 ej;omega
 ·obtain ⟨j,h1,h2,h3⟩:=hrange i g hi
  have:=h.rng j g h1
  refine ⟨⟨?_,this.1.2⟩,this.2⟩
  by_cases e:i=y
  ·exact .inl (by omega)
  ·rw [←h3 e];exact this.1.1
end
inductive Wk where
 | thaw (id:Nat)
 | ren (a b:Nat)
 | nil (slot id e:Nat)
 | keep (slots ids:List Nat)
 | loose (id:Nat)
def pickF (s:AS):List Nat->List (Nat×AV)
 | []=>[]
 | i::l=>(i,getF s i)::pickF s l
def pickH (H:List (Nat×Row)):List Nat->List (Nat×Row)
 | []=>[]
 | i::l=>match look H i with|some r=>(i,r)::pickH H l|none=>pickH H l
def restOf (ids:List Nat):List (Nat×Row)->List Nat
 | []=>[]
 | (k,_)::l=>match ids.any (Nat.beq k) with|true=>restOf ids l|false=>k::restOf ids l
def wkLoose (s:AS) (id:Nat):Option AS:=match look s.H id with|some r=>some ⟨s.F,(id,⟨r.e,r.pure,false,r.cells⟩)::drop_ s.H id⟩|none=>none
def wk1 (s:AS):Wk->Option AS
 | .thaw id=>(match look s.H id with|some r=>(match r.pure with|true=>some (thaw id r s)|false=>none)|none=>none)
 | .ren x y=>(match Nat.beq x y,Nat.ble y 999999999999 with|false,true=>some (rename x y (retire y s))|_,_=>none)
 | .nil i id e=>(match getF s i with| .nil=>some (setF ⟨(retire id s).F,(id,⟨e,true,false,[]⟩)::(retire id s).H⟩ i (.ref id))|_=>none)
 | .keep is ids=>some ⟨(retireAll ⟨pickF s is,s.H⟩ (restOf ids s.H)).F,pickH (retireAll ⟨pickF s is,s.H⟩ (restOf ids s.H)).H ids⟩
 | .loose id=>wkLoose s id
def wk:List Wk->AS->Option AS
 | [],s=>some s
 | x::l,s=>match wk1 s x with|some s1=>wk l s1|none=>none
theorem look_pickF (s:AS):∀(l:List Nat) (i:Nat) (x:AV),look (pickF s l) i=some x->x=getF s i
 | [],i,x,h=>by cases h
 | k::l,i,x,h=>by
  simp only [pickF,look_cons] at h
  by_cases e:k=i
  ·rw [if_pos e] at h;injection h with h;rw [←h,e]
  ·rw [if_neg e] at h;exact look_pickF s l i x h
theorem look_pickH (H:List (Nat×Row)):∀(l:List Nat) (i:Nat),look (pickH H l) i=if i∈l then look H i else none
 | [],i=>by simp [pickH,look]
 | k::l,i=>by
  simp only [pickH]
  have ih:=look_pickH H l i
  cases hk:look H k with
  | none =>
   rw [ih]
   by_cases e:i=k
   ·subst e;simp [hk]
   ·simp [e]
  | some r =>
   simp only [look_cons,ih]
   by_cases e:k=i
   ·subst e;simp [hk]
   ·simp [e,Ne.symm e]
theorem look_restOf (ids:List Nat):∀(H:List (Nat×Row)) (i:Nat),i ∉ ids->look H i=none∨i∈restOf ids H
 | [],i,_=>.inl rfl
 | (k,r)::H,i,hi=>by
  simp only [restOf,look_cons]
  by_cases e:k=i
  ·subst e
   right
   have:ids.any (Nat.beq k)=false:=by
    cases hb:ids.any (Nat.beq k) with
    | false=>rfl
    | true =>
     obtain ⟨j,hj,hbj⟩:=List.any_eq_true.1 hb
     have:=Nat.eq_of_beq_eq_true hbj
     subst this;exact absurd hj hi
   rw [this];simp
  ·rw [if_neg e]
   rcases look_restOf ids H i hi with h|h
   ·exact .inl h
   ·right
    split
    ·exact h
    ·simp [h]
theorem den_nil {I:Info} {S:Nat->Prop} {w:World} {v:Value} (h:Den I S w v .nil):v= .slice none 0 0:=by
 cases h with|rep h=>cases h;rfl
theorem wk1_ok {s s':AS} {x:Wk} (he:wk1 s x=some s'):Weaks s s':=by
 intro S0 w0 n a w ⟨φ,hs⟩
 cases x with
 | thaw id =>
  simp only [wk1] at he
  split at he
  ·rename_i r hr
   split at he
   ·rename_i hp;cases he;exact ⟨_,hs.thaw_ hr hp⟩
   ·cases he
  ·cases he
 | ren x y =>
  simp only [wk1] at he
  split at he
  ·rename_i hb hlt
   cases he
   have hne:x≠y:=Nat.ne_of_beq_eq_false hb
   have hlt:=Nat.le_of_ble_eq_true hlt
   obtain ⟨φ',h⟩:=(hs.retire0 y).rename_ x y (by omega) hne (look_retire_none y)
   exact ⟨φ',h⟩
  ·cases he
 | nil i id e =>
  simp only [wk1] at he
  split at he
  ·rename_i hn
   cases he
   have hv:=hs.get i
   rw [hn] at hv
   have hv':a.tmps.getD i undef= .slice none 0 0:=den_nil hv
   have h1:=hs.retire0 id
   have h2:=h1.adopt_nil (id:=id) (r:=⟨e,true,false,[]⟩) (look_retire_none id) rfl
   refine ⟨erase φ id,h2.tsz,h2.dfr,h2.bel,fun j av hj=>?_,h2.rows,h2.only,h2.inj,h2.rng,h2.apart,h2.new⟩
   rw [look_setF] at hj
   by_cases e':i=j
   ·rw [if_pos e'] at hj;injection hj with hj;subst hj;subst e'
    rw [hv']
    exact .refnil id e (by
     show infoOf ((id,⟨e,true,false,[]⟩)::(retire id s).H) _ id=_
     rw [info_of (r:=⟨e,true,false,[]⟩) (by rw [look_cons,if_pos rfl]),h1.only id (look_retire_none id)];rfl)
   ·rw [if_neg e'] at hj;exact h2.slots j av hj
  ·cases he
 | keep is ids =>
  simp only [wk1] at he
  cases he
  have h1:SimO S0 w0 n [] ⟨pickF s is,s.H⟩ a w φ:=by
   refine ⟨hs.tsz,hs.dfr,hs.bel,fun i av hi=>?_,hs.rows,hs.only,hs.inj,hs.rng,hs.apart,hs.new⟩
   rw [look_pickF s is i av hi]
   exact hs.get i
  obtain ⟨φ',h2,-,h3⟩:=retireAll_ok (restOf ids s.H) ⟨pickF s is,s.H⟩ φ [] h1
  have hno:∀i,i ∉ ids->look (retireAll ⟨pickF s is,s.H⟩ (restOf ids s.H)).H i=none:=fun i hi=>h3 i (look_restOf ids s.H i hi)
  have hlook:∀i,look (pickH (retireAll ⟨pickF s is,s.H⟩ (restOf ids s.H)).H ids) i=look (retireAll ⟨pickF s is,s.H⟩ (restOf ids s.H)).H i:=by
   intro i
   rw [look_pickH]
   by_cases hi:i∈ids
   ·rw [if_pos hi]
   ·rw [if_neg hi,hno i hi]
  have hI:infoOf (pickH (retireAll ⟨pickF s is,s.H⟩ (restOf ids s.H)).H ids) φ'=infoOf (retireAll ⟨pickF s is,s.H⟩ (restOf ids s.H)).H φ':=by
   funext i;unfold infoOf;rw [hlook]
  refine ⟨φ',h2.tsz,h2.dfr,h2.bel,fun i av hi=>?_,fun i r hr=>?_,fun i hi=>?_,h2.inj,h2.rng,h2.apart,h2.new⟩
  ·simp only [hI];exact h2.slots i av hi
  ·simp only [hI];simp only [hlook] at hr;exact h2.rows i r hr
  ·simp only [hlook] at hi;exact h2.only i hi
 | loose id =>
  simp only [wk1,wkLoose] at he
  split at he
  ·rename_i r hr
   cases he
   have hlk:∀i,look ((id,(⟨r.e,r.pure,false,r.cells⟩:Row))::drop_ s.H id) i=if id=i then some ⟨r.e,r.pure,false,r.cells⟩ else look s.H i:=by
    intro i
    rw [look_cons,look_drop]
    by_cases e:id=i<;>simp [e]
   have hI:infoOf ((id,(⟨r.e,r.pure,false,r.cells⟩:Row))::drop_ s.H id) φ=infoOf s.H φ:=by
    funext i
    unfold infoOf
    rw [hlk]
    by_cases e:id=i
    ·subst e;rw [if_pos rfl,hr];rfl
    ·rw [if_neg e]
   refine ⟨φ,hs.tsz,hs.dfr,hs.bel,fun i av hi=>?_,fun i q hq=>?_,fun i hi=>?_,hs.inj,hs.rng,hs.apart,hs.new⟩
   ·simp only [hI];exact hs.slots i av hi
   ·simp only [hI]
    simp only [hlk] at hq
    by_cases e:id=i
    ·subst e
     rw [if_pos rfl] at hq;injection hq with hq;subst hq
     have hrow:=hs.rows id r hr
     unfold RowDen at hrow ⊢
     cases hφ:φ id with
     | none=>rw [hφ] at hrow;exact hrow
     | some g =>
      rw [hφ] at hrow
      obtain ⟨cur,te,fr,hg,hf,hl,-,hc⟩:=hrow
      exact ⟨cur,te,fr,hg,hf,hl,fun h=>(by cases h),hc⟩
    ·rw [if_neg e] at hq;exact hs.rows i q hq
   ·simp only [hlk] at hi
    by_cases e:id=i
    ·rw [if_pos e] at hi;cases hi
    ·rw [if_neg e] at hi;exact hs.only i hi
  ·cases he
theorem wk_ok:∀(l:List Wk) {s s':AS},wk l s=some s'->Weaks s s'
 | [],s,s',he=>by cases he;exact fun _ _ _ _ _ h=>h
 | x::l,s,s',he=>by
  simp only [wk] at he
  split at he
  ·rename_i s1 h1
   exact fun S0 w0 n a w h=>wk_ok l he S0 w0 n a w (wk1_ok h1 S0 w0 n a w h)
  ·cases he
theorem AWP.wk {P:Program} {n:Nat} {c:Code} {Q:Exit->AS->Prop} {s s':AS} (l:List Wk) (he:wk l s=some s') (h:AWP P n c Q s'):AWP P n c Q s:=AWP.weak (wk_ok l he) h
end Go.Proofs.YtejpabdmiagnnaaGreatDoor
namespace Go.Proofs.YtejpabdmiagnnaaGreatDoor
open Go.RowKit
def give0 (s:AS):AV->AV->Option (List Nat×List Prop)
 | .val u,.val v=>some ([],[u=v])
 | .nil,.nil=>some ([],[])
 | .nil,.own _ row=>some ([],[row= []])
 | .nil,.sl _ row=>some ([],[row= []])
 | .sl e row,.sl e' row'=>(match Nat.beq e e' with|true=>some ([],[row=row'])|false=>none)
 | .arr cs,.arr cs'=>some ([],[cs=cs'])
 | .ptr row off,.ptr row' off'=>some ([],[row=row',off=off'])
 | .clo f cs,.clo f' cs'=>(match Nat.beq f f' with|true=>some ([],[cs=cs'])|false=>none)
 | .ref id,.own e row=>(match look s.H id with|some ⟨e',true,_,cells⟩=>(match Nat.beq e e' with|true=>some ([id],[cells=row])|false=>none)|_=>none)
 | .pre id k,.own e row=>(match look s.H id with|some ⟨e',true,_,cells⟩=>(match Nat.beq e e' with|true=>some ([id],[cells.take k=row])|false=>none)|_=>none)
 | .addr id off,.box row=>(match look s.H id,off with|some ⟨_,false,true,cells⟩,0=>(match plainL cells with|true=>some ([id],[cells=row])|false=>none)|_,_=>none)
 | _,_=>none
def giveL (f:AV->AV->Option (List Nat×List Prop)):List AV->List AV->Option (List Nat×List Prop)
 | [],[]=>some ([],[])
 | x::xs,r::rs=>match f x r,giveL f xs rs with|some (a,C),some (b,D)=>some (a++b,C++D)|_,_=>none
 | _,_=>none
def give1 (s:AS):AV->AV->Option (List Nat×List Prop)
 | .agg xs,.agg rs=>giveL (give0 s) xs rs
 | x,r=>give0 s x r
def giveT (s:AS):AV->AV->Option (List Nat×List Prop)
 | .tup xs,.tup rs=>giveL (give1 s) xs rs
 | x,r=>give1 s x r
section
variable {S0:Zone} {w0 w:World} {n:Nat} {s:AS} {a:Act} {φ:Nat->Option Nat}
def blocks (φ:Nat->Option Nat):List Nat->List Nat
 | []=>[]
 | i::l=>match φ i with|some g=>g::blocks φ l|none=>blocks φ l
theorem blocks_app (φ:Nat->Option Nat) (l m:List Nat):blocks φ (l++m)=blocks φ l++blocks φ m:=by
 induction l with
 | nil=>rfl
 | cons i l ih =>
  simp only [List.cons_append,blocks]
  cases φ i<;>simp [ih]
theorem mem_blocks {φ:Nat->Option Nat} {g:Nat}:∀ {l:List Nat},g∈blocks φ l-> ∃i∈l,φ i=some g
 | [],h=>by cases h
 | i::l,h=>by
  simp only [blocks] at h
  split at h
  ·rename_i g' hg'
   rcases List.mem_cons.1 h with rfl|h
   ·exact ⟨i,by simp,hg'⟩
   ·obtain ⟨j,h1,h2⟩:=mem_blocks h
    exact ⟨j,by simp [h1],h2⟩
  ·obtain ⟨j,h1,h2⟩:=mem_blocks h
   exact ⟨j,by simp [h1],h2⟩
theorem nodup_blocks (hs:SimO S0 w0 n [] s a w φ):∀ {l:List Nat},l.Nodup->(blocks φ l).Nodup
 | [],_=>List.nodup_nil
 | i::l,h=>by
  rw [List.nodup_cons] at h
  simp only [blocks]
  split
  ·rename_i g hg
   rw [List.nodup_cons]
   refine ⟨fun hm=>?_,nodup_blocks hs h.2⟩
   obtain ⟨j,h1,h2⟩:=mem_blocks hm
   have:=hs.inj i j g hg h2
   subst this;exact h.1 h1
  ·exact nodup_blocks hs h.2
theorem give0_ok (hs:SimO S0 w0 n [] s a w φ) {v:Value} {x r:AV} {ids:List Nat} {C:List Prop} (hx:Den (infoOf s.H φ) (Free S0 w φ []) w v x) (hg:give0 s x r=some (ids,C)) (hC:AllP C):Giv0 (Free S0 w φ []) w v r (blocks φ ids):=by
 have own:∀(id e l c g:Nat) (fu:Bool) (cells row:List AV),look s.H id=some ⟨e,true,fu,cells⟩->φ id=some g->row.length=e*l->l≤c->c≤maxLen->cellsLen w g=e*c->(∀(j:Nat) x,row[j]?=some x->cells[j]?=some x)->Giv0 (Free S0 w φ []) w (.slice (some ⟨g,0,none⟩) l c) (.own e row) (blocks φ [id]):=by
  intro id e l c g fu cells row hr hφ hl hc hm hcl hsub
  obtain ⟨cur,te,fr,hg,hf,hle,hcell⟩:=row_pure hs hr rfl hφ
  have:blocks φ [id]= [g]:=by simp [blocks,hφ]
  rw [this]
  exact .own g l c e row cur te fr hg hf hl hc hm (by unfold cellsLen at hcl;rw [hg] at hcl;exact hcl) fun j u x hu hx=>hcell j u x hu (hsub j x hx)
 have nilown:∀(id e:Nat),φ id=none->Giv0 (Free S0 w φ []) w (.slice none 0 0) (.own e []) (blocks φ [id]):=by
  intro id e hφ
  have:blocks φ [id]= []:=by simp [blocks,hφ]
  rw [this];exact .nil e
 unfold give0 at hg
 split at hg
 ·cases hg;have:=hC.1;subst this;exact .rep (by cases hx with|rep h=>exact h)
 ·cases hg;exact .rep (by cases hx with|rep h=>exact h)
 ·cases hg;have:=hC.1;subst this;rw [den_nil hx];exact .nil _
 ·cases hg;have:=hC.1;subst this;rw [den_nil hx];exact .rep (sl_empty none 0 0 _ (by simp) (by simp) (by simp))
 ·split at hg
  ·rename_i hb
   cases hg
   have:=hC.1
   subst this
   rw [←Nat.eq_of_beq_eq_true hb]
   exact .rep (den_sl hx)
  ·cases hg
 ·cases hg;have:=hC.1;subst this;exact .rep (by cases hx with|rep h=>exact h)
 ·cases hg
  obtain ⟨h1,h2,-⟩:=hC
  subst h1;subst h2
  exact .rep (by cases hx with|rep h=>exact h)
 ·split at hg
  ·rename_i hb
   cases hg
   have:=hC.1
   subst this
   rw [←Nat.eq_of_beq_eq_true hb]
   exact .rep (by cases hx with|rep h=>exact h)
  ·cases hg
 ·rename_i id e row
  split at hg
  ·rename_i e' fu cells hr
   split at hg
   ·rename_i hb
    have hb:=Nat.eq_of_beq_eq_true hb
    cases hg
    have:=hC.1
    subst this
    subst hb
    cases hx with
    | rep h=>cases h
    | ref _ e2 m g l c hi hm hc hx hs' =>
     obtain ⟨r',hr',h1,h2,hφ⟩:=info_some hi
     rw [hr] at hr';injection hr' with hr';subst hr'
     simp only at h1 h2
     exact own id e l c g fu cells cells hr hφ (by rw [h2,hm,h1]) hc hx (by rw [h1];exact hs') (fun _ _ h=>h)
    | refnil _ e2 hi =>
     obtain ⟨r',hr',h1,h2,hφ⟩:=info_some hi
     rw [hr] at hr';injection hr' with hr';subst hr'
     simp only at h2
     have:cells= []:=List.length_eq_zero_iff.1 h2
     subst this
     exact nilown id e hφ
   ·cases hg
  ·cases hg
 ·rename_i id k e row
  split at hg
  ·rename_i e' fu cells hr
   split at hg
   ·rename_i hb
    have hb:=Nat.eq_of_beq_eq_true hb
    cases hg
    have:=hC.1
    subst this
    subst hb
    cases hx with
    | rep h=>cases h
    | pre _ _ e2 m g l c hi hn hm hc hx hs' =>
     obtain ⟨r',hr',h1,h2,hφ⟩:=info_some hi
     rw [hr] at hr';injection hr' with hr';subst hr'
     simp only at h1 h2
     exact own id e l c g fu cells (cells.take k) hr hφ (by rw [List.length_take,h2,h1,←hn];omega) hc hx (by rw [h1];exact hs') (fun j x h=>take_get _ _ _ _ h)
    | prenil _ e2 hi =>
     obtain ⟨r',hr',h1,h2,hφ⟩:=info_some hi
     simp only [List.take_zero]
     exact nilown id e hφ
   ·cases hg
  ·cases hg
 ·rename_i id off row
  split at hg
  ·rename_i e cells hr
   split at hg
   ·rename_i hp
    cases hg
    have:=hC.1
    subst this
    obtain ⟨e2,m,g,hi,hv⟩:=den_addr hx
    obtain ⟨r',hr',h1,h2,hφ⟩:=info_some hi
    have hrow:=hs.rows id _ hr
    rw [hφ] at hrow
    obtain ⟨cur,te,fr,u1,u2,u3,u4,u5⟩:=hrow
    have:blocks φ [id]= [g]:=by simp [blocks,hφ]
    rw [this,hv]
    refine .box g cells cur te fr u1 u2 (u4 rfl) fun j u x hu hx=>?_
    have hd:Den (infoOf s.H φ) (Free S0 w φ []) w u x:=u5 j u x hu hx
    exact (plain0_rep hd (plainL_at hp hx)).1
   ·cases hg
  ·cases hg
 ·cases hg
theorem giveL_ok {f:AV->AV->Option (List Nat×List Prop)} {R:Value->AV->List Nat->Prop} (hf:∀v x r ids C,Den (infoOf s.H φ) (Free S0 w φ []) w v x->f x r=some (ids,C)->AllP C->R v r (blocks φ ids)):∀(vs:List Value) (xs rs:List AV) (ids:List Nat) (C:List Prop),vs.length=xs.length->(∀(j:Nat) v c,vs[j]?=some v->xs[j]?=some c->Den (infoOf s.H φ) (Free S0 w φ []) w v c)->giveL f xs rs=some (ids,C)->AllP C->GivL R vs rs (blocks φ ids)
 | vs,[],rs,ids,C,hl,hd,hg,hC=>by
  cases vs with
  | cons=>simp at hl
  | nil =>
   cases rs with
   | nil=>cases hg;exact .nil
   | cons=>cases hg
 | vs,x::xs,[],ids,C,hl,hd,hg,hC=>by cases hg
 | [],x::xs,r::rs,ids,C,hl,hd,hg,hC=>by simp at hl
 | v::vs,x::xs,r::rs,ids,C,hl,hd,hg,hC=>by
  simp only [giveL] at hg
  split at hg
  ·rename_i a C1 b D h1 h2
   cases hg
   obtain ⟨hC1,hD⟩:=allP_app.1 hC
   rw [blocks_app]
   exact .cons (hf v x r a C1 (hd 0 v x rfl rfl) h1 hC1) (giveL_ok hf vs xs rs b D (by simpa using hl) (fun j v c hv hc=>hd (j+1) v c (by simpa using hv) (by simpa using hc)) h2 hD)
  ·cases hg
theorem give1_ok (hs:SimO S0 w0 n [] s a w φ) {v:Value} {x r:AV} {ids:List Nat} {C:List Prop} (hx:Den (infoOf s.H φ) (Free S0 w φ []) w v x) (hg:give1 s x r=some (ids,C)) (hC:AllP C):Giv1 (Free S0 w φ []) w v r (blocks φ ids):=by
 unfold give1 at hg
 split at hg
 ·obtain ⟨vs,rfl,hl,hd⟩:=den_agg hx
  exact .inr ⟨vs,_,rfl,rfl,giveL_ok (f:=give0 s) (R:=Giv0 (Free S0 w φ []) w) (fun v x r ids C h1 h2 h3=>give0_ok hs h1 h2 h3) vs _ _ ids C hl hd hg hC⟩
 ·exact .inl (give0_ok hs hx hg hC)
theorem giveT_ok (hs:SimO S0 w0 n [] s a w φ) {v:Value} {x r:AV} {ids:List Nat} {C:List Prop} (hx:Den (infoOf s.H φ) (Free S0 w φ []) w v x) (hg:giveT s x r=some (ids,C)) (hC:AllP C):Giv (Free S0 w φ []) w v r (blocks φ ids):=by
 unfold giveT at hg
 split at hg
 ·obtain ⟨vs,rfl,hl,hd⟩:=den_tup hx
  exact .inr ⟨vs,_,rfl,rfl,giveL_ok (f:=give1 s) (R:=Giv1 (Free S0 w φ []) w) (fun v x r ids C h1 h2 h3=>give1_ok hs h1 h2 h3) vs _ _ ids C hl hd hg hC⟩
 ·exact .inl (give1_ok hs hx hg hC)
end
def resAV (P:Program) (s:AS):ResultVar->Option (AV×List Prop)
 | .tmp t=>some (getF s t,[])
 | .cell x t=>(match getF s x with
  | .addr id off=>(match look s.H id with
   | some r=>(match isArrT P t,r.pure,off with
    | true,true,0=>(match sizeT P t with|some z=>some (.arr r.cells,[r.cells.length=z])|none=>none)
    | _,_,_=>evRead P t r.pure r.cells off {})
   | none=>none)
  | _=>none)
def resL (P:Program) (s:AS):List ResultVar->Option (List AV×List Prop)
 | []=>some ([],[])
 | x::l=>match resAV P s x,resL P s l with|some (y,C),some (m,D)=>some (y::m,C++D)|_,_=>none
def evRes (P:Program) (s:AS) (rs:List ResultVar) (r:AV):Option (List Prop) :=
 match resL P s rs with
 | some (xs,C)=>(match (match xs with| [x]=>giveT s x r|xs=>giveT s (.tup xs) r) with
  | some (ids,D)=>(match nodupB ids with|true=>some (C++D)|false=>none)
  | none=>none)
 | none=>none
section
variable {P:Program} {S0:Zone} {w0 w:World} {n:Nat} {s:AS} {a:Act} {φ:Nat->Option Nat}
def resRun (a:Act):ResultVar->Sem Value
 | .tmp t=>pure (a.tmps.getD t undef)
 | .cell b t=>do loadVar t (←asAddr (a.tmps.getD b undef))
theorem resAV_ok (hs:SimO S0 w0 n [] s a w φ) {x:ResultVar} {y:AV} {C:List Prop} (he:resAV P s x=some (y,C)) (hC:AllP C) :
  ∃v,(resRun a x).run P w= .ok v w∧Den (infoOf s.H φ) (Free S0 w φ []) w v y:=by
 cases x with
 | tmp t=>cases he;exact ⟨_,rfl,hs.get t⟩
 | cell b t =>
  simp only [resAV] at he
  split at he
  ·rename_i id off hb
   split at he
   ·rename_i r hr
    have hx:=hs.get b
    rw [hb] at hx
    obtain ⟨e,m,g,hi,hv⟩:=den_addr hx
    obtain ⟨r',hr',-,-,hφ⟩:=info_some hi
    obtain ⟨cur,te,fr,hg,hf,hle,hc⟩:=row_at hs hr hφ
    have rd:∀(z:AV×List Prop) (h:Hint),evRead P t r.pure r.cells off h=some z->AllP z.2-> ∃v,(resRun a (.cell b t)).run P w= .ok v w∧Den (infoOf s.H φ) (Free S0 w φ []) w v z.1:=by
     intro z h hz hCz
     obtain ⟨v,h1,h2⟩:=evRead_ok (I:=infoOf s.H φ) (S:=Free S0 w φ []) hz hCz ⟨g,off,none⟩ cur.toList hle (fun j u hu=>by rw [addr_add,cell_of_row w g _ cur te fr hg];simpa using hu) (fun j u x hu hx=>hc j u x (by simpa using hu) hx)
     exact ⟨v,by simp only [resRun];rw [hv];simp [asAddr,h1],h2⟩
    split at he
    ·rename_i harr hp
     split at he
     ·rename_i z hz
      cases he
      have hlen:=hC.1
      unfold isArrT at harr
      split at harr
      ·rename_i k el hu
       refine rd (.arr r.cells,[(r.cells.drop 0).take z=r.cells,r.cells.length=z]) {av:=some (.arr r.cells)} ?_ ⟨by rw [List.drop_zero,List.take_of_length_le (by omega)],hlen,trivial⟩
       unfold evRead
       rw [hz,hu,hp]
      ·cases harr
     ·cases he
    ·exact rd _ _ he hC
   ·cases he
  ·cases he
theorem resL_ok (hs:SimO S0 w0 n [] s a w φ):∀(l:List ResultVar) (ys:List AV) (C:List Prop),resL P s l=some (ys,C)->AllP C ->
  ∃vs:List Value,(l.mapM (resRun a)).run P w= .ok vs w∧vs.length=ys.length∧ ∀(j:Nat) v c,vs[j]?=some v->ys[j]?=some c->Den (infoOf s.H φ) (Free S0 w φ []) w v c
 | [],ys,C,he,hC=>by cases he;exact ⟨[],rfl,rfl,fun j v c hv=>by simp at hv⟩
 | x::l,ys,C,he,hC=>by
  simp only [resL] at he
  split at he
  ·rename_i y C1 m D h1 h2
   cases he
   obtain ⟨hC1,hD⟩:=allP_app.1 hC
   obtain ⟨v,hv1,hv2⟩:=resAV_ok hs h1 hC1
   obtain ⟨vs,h3,h4,h5⟩:=resL_ok hs l m D h2 hD
   refine ⟨v::vs,?_,by simp [h4],fun j u c hu hc=>?_⟩
   ·rw [List.mapM_cons,Sem.run_bind,hv1]
    simp only [Result.andThen_ok]
    rw [Sem.run_bind,h3]
    rfl
   ·cases j with
    | zero=>simp at hu hc;subst hu;subst hc;exact hv2
    | succ j=>exact h5 j u c (by simpa using hu) (by simpa using hc)
  ·cases he
theorem evRes_ok (hs:SimO S0 w0 n [] s a w φ) {fn:Func} {r:AV} {C:List Prop} (he:evRes P s fn.results.toList r=some C) (hC:AllP C) :
  ∃v O,(results fn a.tmps).run P w= .ok v w∧O.Nodup∧(∀g∈O,∃i,φ i=some g)∧Giv (Free S0 w φ []) w v r O:=by
 unfold evRes at he
 split at he
 ·rename_i xs C1 hr
  split at he
  ·rename_i ids D hg
   split at he
   ·rename_i hn
    cases he
    obtain ⟨hC1,hD⟩:=allP_app.1 hC
    obtain ⟨vs,hrun,hl,hd⟩:=resL_ok hs _ _ _ hr hC1
    have hm:(fn.results.mapM (resRun a)).run P w= .ok vs.toArray w:=by
     rw [Array.mapM_eq_mapM_toList,Sem.run_map,hrun];rfl
    have hres:(results fn a.tmps).run P w= .ok (if h:vs.toArray.size=1 then vs.toArray[0] else .tuple vs.toArray) w:=by
     have he:results fn a.tmps=(do let vs ←fn.results.mapM (resRun a);pure (if h:vs.size=1 then vs[0] else .tuple vs):Sem Value):=by
      unfold results
      congr 1
     rw [he,Sem.run_bind,hm]
     rfl
    refine ⟨_,blocks φ ids,hres,nodup_blocks hs (nodupB_ok hn),fun g hg=>(mem_blocks hg).imp fun i h=>h.2,?_⟩
    split at hg
    ·rename_i x
     cases vs with
     | nil=>simp at hl
     | cons v vs =>
      have:vs= []:=by simpa using hl
      subst this
      exact giveT_ok hs (hd 0 v x rfl rfl) hg hD
    ·rename_i hne
     have hsz:¬vs.toArray.size=1:=by
      intro h1
      have h2:xs.length=1:=by rw [←hl];simpa using h1
      obtain ⟨x,rfl⟩:=List.length_eq_one_iff.1 h2
      exact hne x rfl
     rw [dif_neg hsz]
     exact giveT_ok hs (.tup vs xs hl hd) hg hD
   ·cases he
  ·cases he
 ·cases he
end
def argsF:Nat->List AV->List (Nat×AV)
 | _,[]=>[]
 | i,x::l=>(i,x)::argsF (i+1) l
theorem look_argsF:∀(l:List AV) (i j:Nat) (x:AV),look (argsF i l) j=some x-> ∃k,j=i+k∧l[k]?=some x
 | [],i,j,x,h=>by cases h
 | y::l,i,j,x,h=>by
  simp only [argsF,look_cons] at h
  by_cases e:i=j
  ·rw [if_pos e] at h;exact ⟨0,by omega,by simpa using h⟩
  ·rw [if_neg e] at h
   obtain ⟨k,h1,h2⟩:=look_argsF l (i+1) j x h
   exact ⟨k+1,by omega,by simpa using h2⟩
def Done (P:Program) (rs:List ResultVar) (r:AV):Exit->AS->Prop
 | .normal,s=>∃C,evRes P s rs r=some C∧AllP C
 | .ret,s=>∃C,evRes P s rs r=some C∧AllP C
 | _,_=>False
theorem leaves_marks {P:Program} {fn:Func} {tmps:Array Value} {R:Ending->World->Prop}:∀(ms:List Nat) (w:World),ms.Nodup->(∀r∈ms,w.heap[r]?=some (.deferred (some []))) ->
  (∀w',w'.os=w.os->w'.tape=w.tape->w'.output=w.output->w'.heap.size=w.heap.size->(∀b,b ∉ ms->w'.heap[b]?=w.heap[b]?)-> ∃v,(results fn tmps).run P w'= .ok v w'∧R (.returned v) w') ->
  LeavesInM Fence.wide 0 P fn tmps R (ms.map mark) .returning w
 | [],w,_,_,h=>h w rfl rfl rfl rfl fun _ _=>rfl
 | r::ms,w,nd,hm,h=>by
  rw [List.nodup_cons] at nd
  refine ⟨by simp,.inl ⟨r,w.putObj r (.deferred none),rfl,run_takeDeferred (hm r (by simp)),?_⟩⟩
  refine leaves_marks ms _ nd.2 (fun r' hr'=>?_) (fun w' h1 h2 h3 h4 h5=>h w' h1 h2 h3 (by rw [h4];exact World.putObj_size) fun b hb=>?_)
  ·rw [World.putObj_heap_other fun e=>nd.1 (by rw [←e];exact hr')];exact hm r' (by simp [hr'])
  ·simp only [List.mem_cons,not_or] at hb
   rw [h5 b hb.2,World.putObj_heap_other hb.1]
theorem Sim1.close {Z:Zone} {w w' w'':World} {n:Nat} {s:AS} {a:Act} (hd:Z.dfs= []) (hnew:∀b,(w.heap.size≤b∨Z.X b)->Z.S b) {S1:Zone} {w1:World} {ms:List Nat} (hE:ZExt Z w S1 w1 ms) {φ:Nat->Option Nat} (hs:SimO S1 w1 n [] s a w' φ)
  (h1:w''.os=w'.os) (h2:w''.tape=w'.tape) (h3:w''.output=w'.output) (h4:w''.heap.size=w'.heap.size) (h5:∀b,b ∉ ms->w''.heap[b]?=w'.heap[b]?):SimO Z w n [] s ⟨a.tmps,[]⟩ w'' φ:=by
 have hS:∀b,S1.S b->w''.heap[b]?=w'.heap[b]?:=fun b hb=>h5 b fun hm=>(hE.marks b hm).2.2.2.1 hb
 have hF:∀b,Free S1 w' φ [] b->Free Z w'' φ [] b∧w''.heap[b]?=w'.heap[b]?:=fun b hb=>⟨⟨by rw [h4];exact hb.1,hb.2.1,hb.2.2.1,hE.sub b hb.2.2.2⟩,hS b hb.2.2.2⟩
 have hφ:∀id g,φ id=some g->w''.heap[g]?=w'.heap[g]?:=fun id g hg=>hS g (hs.new g (hs.rng id g hg).1.2)
 have hL:∀id e m g,infoOf s.H φ id=some (e,m,some g)->cellsLen w'' g=cellsLen w' g:=fun id e m g hi=>by
  obtain ⟨_,-,-,-,hg⟩:=info_some hi
  unfold cellsLen;rw [hφ id g hg]
 refine ⟨hs.tsz,hd.symm,?_,fun i av hi=>(hs.slots i av hi).mono (fun _ _ h=>h) hF hL,fun id r hr=>?_,hs.only,hs.inj,fun id g hg=>⟨⟨?_,?_⟩,by rw [h4];exact (hs.rng id g hg).2⟩,fun _ _ _ h=>(by cases h),hnew⟩
 ·have k:=hE.kept.trans hs.bel hE.X
  exact ⟨h1.trans k.os,h2.trans k.tape,h3.trans k.output,by rw [h4];exact k.size,fun b hb hx=>(h5 b fun hm=>by have:=(hE.marks b hm).1;omega).trans (k.block b hb hx),k.g0,k.gx⟩
 ·have hrow:=hs.rows id r hr
  unfold RowDen at hrow ⊢
  cases hg:φ id with
  | none=>rw [hg] at hrow;exact hrow
  | some g =>
   rw [hg] at hrow
   obtain ⟨cur,te,fr,u1,u2,u3,u4,u5⟩:=hrow
   refine ⟨cur,te,fr,(hφ id g hg).trans u1,u2,u3,u4,fun j u x hu hx=>?_⟩
   have:=u5 j u x hu hx
   unfold CellDen at this ⊢
   cases hp:r.pure with
   | true=>rw [hp] at this;exact this.mono hF
   | false=>rw [hp] at this;exact this.mono (fun _ _ h=>h) hF hL
 ·exact (hs.rng id g hg).1.1.imp (fun h=>h) fun h=>by rw [←hE.fix];exact h
 ·rcases (hs.rng id g hg).1.2 with h|h
  ·exact .inl (Nat.le_trans hE.kept.size h)
  ·exact hE.X g h
theorem calls_of_swp {P:Program} {f:FuncId} {fn:Func} {c:Code} {args:Array Value} {w:World} {R:Ending->World->Prop} (hf:P.funcs[f]?=some fn) (hb:fn.body=some c) {Z:Zone} {n:Nat} (hd:Z.dfs= []) (hnew:∀b,(w.heap.size≤b∨Z.X b)->Z.S b) {Q:Exit->AS->Prop} (hQ:∀e s,Q e s->e= .normal∨e= .ret)
  (h:swp P c (fun e a' w'=>∃s',Q e s'∧Sim1 Z w n s' a' w') {tmps:=args++Array.replicate (fn.ntmps-args.size) undef,defers:=[]} w)
  (hfin:∀e s' (a':Act) w',Q e s'->a'.defers= []->Sim Z w n s' a' w'-> ∃v,(results fn a'.tmps).run P w'= .ok v w'∧R (.returned v) w'):Calls P f args w R:=by
 refine callsIn_wide.1 (callsIn_of_wp_marks (F:=Fence.wide) (n:=0) hf hb trivial ?_)
 refine wpIn_wide.2 (wp_mono (swp_wp _ _ _ _ h) fun e a' w' ⟨s',hq,S1,w1,ms,hE,φ,hs⟩=>?_)
 have fin:LeavesInM Fence.wide 0 P fn a'.tmps R a'.defers .returning w':=by
  have hds:a'.defers=ms.map mark:=by rw [hs.dfr,hE.dfs,hd,List.append_nil]
  rw [hds]
  refine leaves_marks ms w' hE.nodup (fun r hr=>?_) (fun w'' h1 h2 h3 h4 h5=>hfin e s' ⟨a'.tmps,[]⟩ w'' hq rfl ⟨φ,Sim1.close hd hnew hE hs h1 h2 h3 h4 h5⟩)
  obtain ⟨-,k2,k3,-,k5⟩:=hE.marks r hr
  exact (hs.bel.block r k2 k5).trans k3
 rcases hQ e s' hq with rfl|rfl
 ·exact fin
 ·exact fin
theorem Ret.of_body {P:Program} {f:FuncId} {fn:Func} {c:Code} {args:List AV} {r:AV} (hf:P.funcs[f]?=some fn) (hb:fn.body=some c) (n:Nat) (hn:fn.ntmps=n) (hargs:args.length≤n) (h:AWP P n c (Done P fn.results.toList r) ⟨argsF 0 args,[]⟩):Ret P f args r:=by
 intro w S vs hgood hS hl hrep
 let Z:Zone:=⟨fun b=>S b∨w.heap.size≤b,fun _=>False,fun _=>none,[]⟩
 have hS0:SimO Z w n [] ⟨argsF 0 args,[]⟩ {tmps:=vs.toArray++Array.replicate (fn.ntmps-vs.toArray.size) undef,defers:=[]} w (fun _=>none):=by
  refine ⟨by simp;omega,rfl,⟨rfl,rfl,rfl,Nat.le_refl _,fun _ _ _=>rfl,hgood,fun _ _ h=>h⟩,fun i av hi=>?_,fun id r hr=>(by cases hr),fun _ _=>rfl,fun _ _ _ h=>(by cases h),fun _ _ h=>(by cases h),fun _ _ h=>(by cases h),fun b hb=>Or.inr (hb.elim id fun h=>h.elim)⟩
  obtain ⟨k,rfl,hk⟩:=look_argsF args 0 i av hi
  have hkl:k<vs.length:=by have:=(List.getElem?_eq_some_iff.1 hk).1;omega
  have hv:vs[k]?=some vs[k]:=List.getElem?_eq_getElem hkl
  have e:(vs.toArray++Array.replicate (fn.ntmps-vs.toArray.size) undef).getD (0+k) undef=vs[k]:=by
   rw [Nat.zero_add,Array.getD_eq_getD_getElem?,Array.getElem?_append_left (by simpa using hkl)]
   simp [hkl]
  simp only [e]
  exact .rep ((hrep k vs[k] av hv hk).mono fun b hb=>⟨⟨hS b hb,by simp,fun _ h=>(by cases h),Or.inl hb⟩,rfl⟩)
 refine calls_of_swp hf hb (Z:=Z) rfl (fun b hb=>Or.inr (hb.elim id fun h=>h.elim)) (Q:=Done P fn.results.toList r) (fun e s hq=>by cases e<;>first|exact .inl rfl|exact .inr rfl|exact hq.elim) (h Z w _ w ⟨_,hS0⟩) fun e s' a' w' hq hd ⟨φ,hs'⟩=>?_
 have hq:∃C,evRes P s' fn.results.toList r=some C∧AllP C:=by cases e<;>first|exact hq|exact hq.elim
 obtain ⟨C,he,hC⟩:=hq
 obtain ⟨v,O,hrun,hnd,hO,hg⟩:=evRes_ok hs' he hC
 refine ⟨v,hrun,v,O,rfl,hs'.bel.below (fun _ h=>h),hnd,fun g hg=>?_,hg.mono fun b hb=>?_⟩
 ·obtain ⟨i,hi⟩:=hO g hg
  exact ⟨(hs'.rng i g hi).1.2.elim id fun h=>h.elim,(hs'.rng i g hi).2⟩
 ·rcases hb.2.2.2 with h1|h1
  ·exact .inl h1
  ·exact .inr ⟨h1,hb.1,fun hm=>by obtain ⟨i,hi⟩:=hO b hm;exact hb.2.2.1 i hi⟩
def bodyOf (fn:Func):Code:=match fn.body with|some c=>c|none=>.skip
theorem Ret.of_fn {P:Program} {f:FuncId} {fn:Func} {args:List AV} {r:AV} (hf:P.funcs[f]?=some fn) (hb:fn.body.isSome=true) (n:Nat) (hn:fn.ntmps=n) (hargs:Nat.ble args.length n=true) (h:AWP P n (bodyOf fn) (Done P fn.results.toList r) ⟨argsF 0 args,[]⟩):Ret P f args r:=by
 cases hbody:fn.body with
 | none=>rw [hbody] at hb;cases hb
 | some c =>
  have:bodyOf fn=c:=by unfold bodyOf;rw [hbody]
  rw [this] at h
  exact Ret.of_body hf hbody n hn (Nat.le_of_ble_eq_true hargs) h
theorem AWP.regsK {P:Program} {n:Nat} {c:Code} {Q:Exit->AS->Prop} {s s':AS} {C:List Prop} (k:Nat) (l:List Said) (hk:Nat.beq l.length k=true) (he:evRegs P n l c s=some (s',C)) (hC:AllP C) (h:AWP P n (dropC k c) Q s'):AWP P n c Q s:=by
 rw [←Nat.eq_of_beq_eq_true hk] at h
 exact AWP.regs l he hC h
theorem Done.ret_ {P:Program} {rs:List ResultVar} {r:AV} {s:AS} {C:List Prop} (he:evRes P s rs r=some C) (hC:AllP C):Done P rs r .ret s:=⟨C,he,hC⟩
section
variable {P:Program} {n:Nat} {c:Code} {Q:Exit->AS->Prop} {K:AS->Prop} {s s1 s2:AS}
theorem AWP.condT {x:Operand} {b:Bool} (hc:condC c=some x) (hx:opd s x= .val (.bool b)) (hb:b=true) (h:AWP P n (thenC c) Q s):AWP P n c Q s:=AWP.cond hc hx (fun _=>h) (fun e=>by rw [hb] at e;cases e)
theorem AWP.condF {x:Operand} {b:Bool} (hc:condC c=some x) (hx:opd s x= .val (.bool b)) (hb:b=false) (h:AWP P n (elseC c) Q s):AWP P n c Q s:=AWP.cond hc hx (fun e=>by rw [hb] at e;cases e) (fun _=>h)
theorem AWP.condD {x:Operand} {p:Prop} [Decidable p] (hc:condC c=some x) (hx:opd s x= .val (.bool (decide p))) (ht:p->AWP P n (thenC c) Q s) (hf:¬p->AWP P n (elseC c) Q s):AWP P n c Q s:=AWP.cond hc hx (fun e=>ht (of_decide_eq_true e)) (fun e=>hf (of_decide_eq_false e))
theorem AWP.condE {α:Type} [BEq α] [LawfulBEq α] {x:Operand} {u v:α} (hc:condC c=some x) (hx:opd s x= .val (.bool (u == v))) (ht:u=v->AWP P n (thenC c) Q s) (hf:u≠v->AWP P n (elseC c) Q s):AWP P n c Q s:=AWP.cond hc hx (fun e=>ht (eq_of_beq e)) (fun e=>hf (by simpa using e))
theorem AWP.condN {α:Type} [BEq α] [LawfulBEq α] {x:Operand} {u v:α} (hc:condC c=some x) (hx:opd s x= .val (.bool (u != v))) (ht:u≠v->AWP P n (thenC c) Q s) (hf:u=v->AWP P n (elseC c) Q s):AWP P n c Q s:=AWP.cond hc hx (fun e=>ht (by simpa using e)) (fun e=>hf (by simpa using e))
theorem AWP.join (J:AS) (hc:isSeq c=true) (h1:AWP P n (fstC c) (Then (fun s'=>Weaks s' J) Q) s) (h2:AWP P n (sndC c) Q J):AWP P n c Q s:=by
 refine AWP.seq hc (h1.mono fun e s' hq=>?_)
 cases e with
 | normal=>exact AWP.weak hq h2
 | _=>exact hq
theorem AWP.joinX {ι:Type} (J:ι->AS) (Inv:ι->Prop) (hc:isSeq c=true) (h1:AWP P n (fstC c) (Then (fun s'=>∃x,Inv x∧Weaks s' (J x)) Q) s) (h2:∀x,Inv x->AWP P n (sndC c) Q (J x)):AWP P n c Q s :=
 AWP.seq hc (AWP.mono h1 fun e s' h=>by
  cases e with
  | normal=>obtain ⟨x,hx,hw⟩:=h;exact AWP.weak hw (h2 x hx)
  | exit _=>exact h
  | ret=>exact h
  | _=>exact h)
theorem then_n (h:K s):Then K Q .normal s:=h
theorem then_e {id:Nat} (h:Q (.exit id) s):Then K Q (.exit id) s:=h
theorem then_r (h:Q .ret s):Then K Q .ret s:=h
theorem inb_n {id:Nat} (h:Q .normal s):InB id Q .normal s:=h
theorem inb_r {id:Nat} (h:Q .ret s):InB id Q .ret s:=h
theorem inb_e {id:Nat} (h:Q .normal s):InB id Q (.exit id) s:=by show (if _ then _ else _);rw [if_pos rfl];exact h
theorem inb_o {id i:Nat} (hi:Nat.beq i id=false) (h:Q (.exit i) s):InB id Q (.exit i) s:=by show (if _ then _ else _);rw [if_neg (Nat.ne_of_beq_eq_false hi)];exact h
theorem Weaks.of (l:List Wk) (he:wk l s=some s1) (e:s1=s2):Weaks s s2:=e ▸ wk_ok l he
theorem round_n {ι:Type} {I:ι->AS} {Inv:ι->Prop} {m:ι->Nat} {x:ι} (y:ι) (h1:Inv y) (h2:m y<m x) (h3:Weaks s (I y)):Round I Inv m Q x .normal s:=⟨y,h1,h2,h3⟩
theorem round_e {ι:Type} {I:ι->AS} {Inv:ι->Prop} {m:ι->Nat} {x:ι} {id:Nat} (h:Q (.exit id) s):Round I Inv m Q x (.exit id) s:=h
theorem round_r {ι:Type} {I:ι->AS} {Inv:ι->Prop} {m:ι->Nat} {x:ι} (h:Q .ret s):Round I Inv m Q x .ret s:=h
end
end Go.Proofs.YtejpabdmiagnnaaGreatDoor
namespace Go.Proofs.YtejpabdmiagnnaaGreatDoor
open Go.RowKit
def u64 (n:Int):UInt64:=UInt64.ofInt n
def u8 (n:Int):UInt8:=UInt8.ofInt n
theorem wv_ofInt (n:Int):IntKind.u64.wrap n=wv (u64 n):=by
 unfold wv u64;rw [IntKind.wrap_u64]
 simp [UInt64.ofInt]
 omega
theorem bv_ofInt (n:Int):IntKind.u8.wrap n=bv (u8 n):=by
 unfold bv u8;rw [IntKind.wrap_u8]
 simp [UInt8.ofInt]
 omega
abbrev aw (x:UInt64):AV:=.val (.int .u64 (wv x))
abbrev ab (x:UInt8):AV:=.val (.int .u8 (bv x))
abbrev ai (n:Int):AV:=.val (.int .i64 n)
abbrev ao (b:Bool):AV:=.val (.bool b)
abbrev as_ (s:List UInt8):AV:=.val (.string ⟨s.toArray⟩)
theorem av_i64 {n:Int} (h1: -9223372036854775808≤n) (h2:n≤9223372036854775807):AV.val (.int .i64 (IntKind.i64.wrap n))= .val (.int .i64 n):=by
 rw [show IntKind.i64.wrap n=n by rw [IntKind.wrap_i64];omega]
theorem av_i64_bv (c:UInt8):AV.val (.int .i64 (IntKind.i64.wrap (bv c)))= .val (.int .i64 (bv c)):=av_i64 (by have:=bv_nn c;omega) (by have:=bv_lt c;omega)
theorem avw_conv (n:Int):AV.val (.int .u64 (IntKind.u64.wrap n))=aw (u64 n):=by rw [wv_ofInt]
theorem avb_conv (n:Int):AV.val (.int .u8 (IntKind.u8.wrap n))=ab (u8 n):=by rw [bv_ofInt]
theorem avw_bv (c:UInt8):AV.val (.int .u64 (IntKind.u64.wrap (bv c)))=aw c.toUInt64:=by
 rw [bv_wv,show IntKind.u64.wrap (wv c.toUInt64)=wv c.toUInt64 by have:=wv_lt c.toUInt64;have:=wv_nn c.toUInt64;rw [IntKind.wrap_u64];omega]
theorem avw_self (x:UInt64):AV.val (.int .u64 (IntKind.u64.wrap (wv x)))=aw x:=by
 rw [show IntKind.u64.wrap (wv x)=wv x by have:=wv_lt x;have:=wv_nn x;rw [IntKind.wrap_u64];omega]
theorem avb_wv (x:UInt64):AV.val (.int .u8 (IntKind.u8.wrap (wv x)))=ab x.toUInt8:=by rw [wv_byte]
theorem avw_add (x y:UInt64):AV.val (.int .u64 (IntKind.u64.wrap (wv x+wv y)))=aw (x+y):=by rw [wv_add]
theorem avw_sub (x y:UInt64):AV.val (.int .u64 (IntKind.u64.wrap (wv x-wv y)))=aw (x-y):=by
 rw [show IntKind.u64.wrap (wv x-wv y)=wv (x-y) by
  unfold wv;rw [IntKind.wrap_u64,UInt64.toNat_sub]
  have:=x.toNat_lt;have:=y.toNat_lt;omega]
theorem avw_mul (x y:UInt64):AV.val (.int .u64 (IntKind.u64.wrap (wv x*wv y)))=aw (x*y):=by
 rw [show IntKind.u64.wrap (wv x*wv y)=wv (x*y) by
  unfold wv;rw [IntKind.wrap_u64,UInt64.toNat_mul,←Int.natCast_mul];omega]
theorem avw_and (x y:UInt64):AV.val (.int .u64 (IntKind.u64.wrap ((BitVec.ofInt IntKind.u64.bits (wv x)&&&BitVec.ofInt IntKind.u64.bits (wv y)).toNat:Nat)))=aw (x&&&y):=congrArg (fun n=>AV.val (.int .u64 n)) (wv_and x y)
theorem avw_or (x y:UInt64):AV.val (.int .u64 (IntKind.u64.wrap ((BitVec.ofInt IntKind.u64.bits (wv x)|||BitVec.ofInt IntKind.u64.bits (wv y)).toNat:Nat)))=aw (x|||y):=congrArg (fun n=>AV.val (.int .u64 n)) (wv_or x y)
theorem avw_xor (x y:UInt64):AV.val (.int .u64 (IntKind.u64.wrap ((BitVec.ofInt IntKind.u64.bits (wv x)^^^BitVec.ofInt IntKind.u64.bits (wv y)).toNat:Nat)))=aw (x^^^y):=congrArg (fun n=>AV.val (.int .u64 n)) (wv_xor x y)
theorem avb_and (x y:UInt8):AV.val (.int .u8 (IntKind.u8.wrap ((BitVec.ofInt IntKind.u8.bits (bv x)&&&BitVec.ofInt IntKind.u8.bits (bv y)).toNat:Nat)))=ab (x&&&y):=congrArg (fun n=>AV.val (.int .u8 n)) (bv_and x y)
theorem avb_xor (x y:UInt8):AV.val (.int .u8 (IntKind.u8.wrap ((BitVec.ofInt IntKind.u8.bits (bv x)^^^BitVec.ofInt IntKind.u8.bits (bv y)).toNat:Nat)))=ab (x^^^y):=congrArg (fun n=>AV.val (.int .u8 n)) (bv_xor x y)
theorem avw_shr (x:UInt64) (n:Int) (h0:0≤n) (h1:n<64):AV.val (.int .u64 ((wv x).fdiv (2^min n.toNat IntKind.u64.bits)))=aw (x>>>UInt64.ofNat n.toNat):=by
 rw [show min n.toNat IntKind.u64.bits=n.toNat from Nat.min_eq_left (by show n.toNat≤64;omega),Int.fdiv_eq_ediv_of_nonneg _ (Int.pow_nonneg (by decide)),wv_shr x n.toNat (by omega)]
theorem avw_shl (x:UInt64) (n:Int) (h0:0≤n) (h1:n<64):AV.val (.int .u64 (IntKind.u64.wrap (wv x*2^min n.toNat IntKind.u64.bits)))=aw (x<<<UInt64.ofNat n.toNat):=by
 rw [show min n.toNat IntKind.u64.bits=n.toNat from Nat.min_eq_left (by show n.toNat≤64;omega),wv_shl x n.toNat (by omega)]
theorem bv_shr (x:UInt8) (k:Nat) (hk:k<8):bv x/2^k=bv (x>>>UInt8.ofNat k):=by
 unfold bv
 rw [UInt8.toNat_shiftRight,UInt8.toNat_ofNat_of_lt' (by show k<2^8;omega),Nat.mod_eq_of_lt hk,Nat.shiftRight_eq_div_pow]
 simp [Int.natCast_ediv,Int.natCast_pow]
theorem bv_shl (x:UInt8) (k:Nat) (hk:k<8):IntKind.u8.wrap (bv x*2^k)=bv (x<<<UInt8.ofNat k):=by
 unfold bv
 rw [IntKind.wrap_u8,UInt8.toNat_shiftLeft,UInt8.toNat_ofNat_of_lt' (by show k<2^8;omega),Nat.mod_eq_of_lt hk,Nat.shiftLeft_eq]
 simp [Int.natCast_emod,Int.natCast_mul,Int.natCast_pow]
theorem avb_shr (x:UInt8) (n:Int) (h0:0≤n) (h1:n<8):AV.val (.int .u8 ((bv x).fdiv (2^min n.toNat IntKind.u8.bits)))=ab (x>>>UInt8.ofNat n.toNat):=by
 rw [show min n.toNat IntKind.u8.bits=n.toNat from Nat.min_eq_left (by show n.toNat≤8;omega),Int.fdiv_eq_ediv_of_nonneg _ (Int.pow_nonneg (by decide)),bv_shr x n.toNat (by omega)]
theorem avb_shl (x:UInt8) (n:Int) (h0:0≤n) (h1:n<8):AV.val (.int .u8 (IntKind.u8.wrap (bv x*2^min n.toNat IntKind.u8.bits)))=ab (x<<<UInt8.ofNat n.toNat):=by
 rw [show min n.toNat IntKind.u8.bits=n.toNat from Nat.min_eq_left (by show n.toNat≤8;omega),bv_shl x n.toNat (by omega)]
theorem avw_eq (x y:UInt64):AV.val (.bool (wv x == wv y))=ao (x == y):=by rw [wv_beq]
theorem avw_ne (x y:UInt64):AV.val (.bool (wv x != wv y))=ao (x != y):=by rw [wv_bne]
theorem avb_eq (x y:UInt8):AV.val (.bool (bv x == bv y))=ao (x == y):=by rw [bv_beq]
theorem avb_ne (x y:UInt8):AV.val (.bool (bv x != bv y))=ao (x != y):=by rw [bv_bne]
theorem str_eq (a b:List UInt8):AV.val (.bool ((⟨a.toArray⟩:ByteArray).toList == (⟨b.toArray⟩:ByteArray).toList))=ao (a == b):=by simp
def boolsA (l:List Bool):List AV:=l.map fun b=>.val (.bool b)
theorem boolsA_len (l:List Bool):(boolsA l).length=l.length:=by simp [boolsA]
theorem bytesA_at {l:List UInt8} {k:Nat} (h:k<l.length):(bytesA l)[k]?=some (ab (l.getD k 0)):=by simp [bytesA,h]
theorem wordsA_at {l:List UInt64} {k:Nat} (h:k<l.length):(wordsA l)[k]?=some (aw (l.getD k 0)):=by simp [wordsA,h]
theorem intsA_at {l:List Int} {k:Nat} (h:k<l.length):(intsA l)[k]?=some (ai (l.getD k 0)):=by simp [intsA,h]
theorem boolsA_at {l:List Bool} {k:Nat} (h:k<l.length):(boolsA l)[k]?=some (ao (l.getD k false)):=by simp [boolsA,h]
theorem bytesA_app (a b:List UInt8):bytesA a++bytesA b=bytesA (a++b):=by simp [bytesA]
theorem wordsA_app (a b:List UInt64):wordsA a++wordsA b=wordsA (a++b):=by simp [wordsA]
theorem bytesA_set (a:List UInt8) (k:Nat) (c:UInt8):(bytesA a).set k (ab c)=bytesA (a.set k c):=by simp [bytesA,List.map_set]
theorem boolsA_set (a:List Bool) (k:Nat) (c:Bool):(boolsA a).set k (ao c)=boolsA (a.set k c):=by simp [boolsA,List.map_set]
theorem whole_set {cells cs:List AV} (h:cells.length=cs.length):cells.take 0++cs++cells.drop (0+cs.length)=cs:=by
 rw [List.take_zero,List.nil_append,Nat.zero_add,←h,List.drop_length,List.append_nil]
theorem whole_get {l:List UInt8} {n:Nat} (h:l.length=n):((bytesA l).drop 0).take n=bytesA l:=by
 rw [List.drop_zero,List.take_of_length_le (by rw [bytesA_len];omega)]
theorem bytesA_ints (l:List UInt8):bytesA l=(l.map bv).map (fun x=>AV.val (.int .u8 x)):=by simp [bytesA]
theorem map_bv_beq (l m:List UInt8):(l.map bv == m.map bv)=(l == m):=by
 rw [Bool.eq_iff_iff,beq_iff_eq,beq_iff_eq]
 exact ⟨fun h=>List.map_inj_right (fun _ _=>bv_inj) |>.1 h,fun h=>by rw [h]⟩
theorem arrEq_bytes {n:Nat} (l m:List UInt8) (h:l.length=n) (h':m.length=n):ArrEq .u8 n (bytesA l) (bytesA m) (l == m) :=
 ⟨l.map bv,m.map bv,bytesA_ints l,bytesA_ints m,by simpa using h,by simpa using h',(map_bv_beq l m).symm⟩
theorem arrEq_bytesN {n:Nat} (l m:List UInt8) (h:l.length=n) (h':m.length=n):ArrEq .u8 n (bytesA l) (bytesA m) (!(l != m)):=by
 rw [show (!(l != m))=(l == m) by simp [bne]];exact arrEq_bytes l m h h'
theorem bytesA_take (a:List UInt8) (k:Nat):(bytesA a).take k=bytesA (a.take k):=by simp [bytesA,List.map_take]
theorem bytesA_drop (a:List UInt8) (k:Nat):(bytesA a).drop k=bytesA (a.drop k):=by simp [bytesA,List.map_drop]
theorem bytesA_rep (n:Nat):List.replicate n (AV.val (.int .u8 0))=bytesA (List.replicate n 0):=by simp [bytesA,bv]
theorem wordsA_rep (n:Nat):List.replicate n (AV.val (.int .u64 0))=wordsA (List.replicate n 0):=by simp [wordsA,wv]
theorem as_eq {F F':List (Nat×AV)} {H H':List (Nat×Row)} (a:F=F') (b:H=H'):(⟨F,H⟩:AS)=⟨F',H'⟩:=by rw [a,b]
theorem f_cons {i:Nat} {x y:AV} {l l':List (Nat×AV)} (a:x=y) (b:l=l'):(i,x)::l=(i,y)::l':=by rw [a,b]
theorem h_cons {i e:Nat} {p f:Bool} {x y:List AV} {l l':List (Nat×Row)} (a:x=y) (b:l=l'):(i,(⟨e,p,f,x⟩:Row))::l=(i,⟨e,p,f,y⟩)::l':=by rw [a,b]
theorem av_u64 {n:Int} (h1:0≤n) (h2:n<18446744073709551616):AV.val (.int .u64 (IntKind.u64.wrap n))= .val (.int .u64 n):=by
 rw [show IntKind.u64.wrap n=n by rw [IntKind.wrap_u64];omega]
end Go.Proofs.YtejpabdmiagnnaaGreatDoor
namespace Go.Proofs.YtejpabdmiagnnaaGreatDoor
open Go.RowKit
def encA {T:Type} (f:T->List AV) (l:List T):List AV:=l.flatMap f
section
variable {T:Type} {f:T->List AV} {e:Nat}
theorem encA_cons (x:T) (l:List T):encA f (x::l)=f x++encA f l:=rfl
theorem encA_app (a b:List T):encA f a++encA f b=encA f (a++b):=by simp [encA]
theorem encA_one (x:T):encA f [x]=f x:=by simp [encA]
theorem encA_len (he:∀x,(f x).length=e) (l:List T):(encA f l).length=l.length*e:=by
 induction l with
 | nil=>simp [encA]
 | cons x l ih=>rw [encA_cons,List.length_append,ih,he,List.length_cons,Nat.succ_mul];omega
theorem encA_drop (he:∀x,(f x).length=e) (l:List T) (k:Nat):(encA f l).drop (k*e)=encA f (l.drop k):=by
 induction k generalizing l with
 | zero=>simp
 | succ k ih =>
  cases l with
  | nil=>simp [encA]
  | cons x l =>
   rw [encA_cons,List.drop_succ_cons,←ih l,Nat.succ_mul,Nat.add_comm,←List.drop_drop,List.drop_append_of_le_length (by rw [he];omega),show List.drop e (f x)= [] from List.drop_eq_nil_of_le (by rw [he];omega),List.nil_append]
theorem encA_elem [Inhabited T] (he:∀x,(f x).length=e) {l:List T} {k:Nat} (hk:k<l.length):((encA f l).drop (k*e)).take e=f (l.getD k default):=by
 rw [encA_drop he,List.drop_eq_getElem_cons hk,encA_cons,List.take_append_of_le_length (by rw [he];omega),List.take_of_length_le (by rw [he];omega)]
 simp [hk]
theorem encA_at [Inhabited T] (he:∀x,(f x).length=e) {l:List T} {k j:Nat} {c:AV} (hk:k<l.length) (hj:(f (l.getD k default))[j]?=some c):(encA f l)[k*e+j]?=some c:=by
 have h1:j<e:=by
  have:=(List.getElem?_eq_some_iff.1 hj).1
  rw [he] at this;exact this
 rw [←encA_elem he hk,List.getElem?_take_of_lt h1,List.getElem?_drop] at hj
 exact hj
theorem encA_sub [Inhabited T] (he:∀x,(f x).length=e) {l:List T} {k j z:Nat} {cs:List AV} (hk:k<l.length) (hz:j+z≤e) (hj:((f (l.getD k default)).drop j).take z=cs):((encA f l).drop (k*e+j)).take z=cs:=by
 rw [←hj,←encA_elem he hk,List.drop_take,List.take_take,Nat.min_eq_left (by omega),List.drop_drop]
theorem rep_len (zs:List AV) (n:Nat):(List.replicate n zs).flatten.length=n*zs.length:=by
 induction n with
 | zero=>simp
 | succ n ih=>rw [List.replicate_succ,List.flatten_cons,List.length_append,ih,Nat.succ_mul];omega
theorem fill_next (he:∀x,(f x).length=e) (zs:List AV) (hz:zs.length=e) (a:List T) (x:T) (m:Nat) (off:Nat) (ho:off=a.length*e) :
  (encA f a++(List.replicate (m+1) zs).flatten).take off++f x++(encA f a++(List.replicate (m+1) zs).flatten).drop (off+e)=encA f (a++ [x])++(List.replicate m zs).flatten:=by
 have hl:=encA_len he a
 rw [List.take_append_of_le_length (by omega),List.take_of_length_le (by omega),List.drop_append,List.drop_eq_nil_of_le (by omega),List.nil_append,List.replicate_succ,List.flatten_cons,show off+e-(encA f a).length=zs.length by omega,List.drop_left,←encA_app,encA_one]
end
theorem range_fill {α:Type} (g:Nat->α) (z:α) {j L:Nat} (h:j<L):((List.range j).map g++List.replicate (L-j) z).set j (g j)=(List.range (j+1)).map g++List.replicate (L-(j+1)) z:=by
 obtain ⟨m,hm⟩:∃m,L-j=m+1:=⟨L-j-1,by omega⟩
 rw [hm,show L-(j+1)=m by omega,List.set_append_right _ _ (by simp),List.replicate_succ,List.range_succ]
 simp
theorem enc_fill {T:Type} {f:T->List AV} {e:Nat} (he:∀x,(f x).length=e) (zs:List AV) (hz:zs.length=e) (g:Nat->T) {j L:Nat} (h:j<L) :
  (encA f ((List.range j).map g)++(List.replicate (L-j) zs).flatten).take (j*e)++f (g j)++(encA f ((List.range j).map g)++(List.replicate (L-j) zs).flatten).drop (j*e+e)=encA f ((List.range (j+1)).map g)++(List.replicate (L-(j+1)) zs).flatten:=by
 obtain ⟨m,hm⟩:∃m,L-j=m+1:=⟨L-j-1,by omega⟩
 rw [hm,show L-(j+1)=m by omega,List.range_succ,List.map_append]
 exact fill_next he zs hz _ (g j) m _ (by simp)
theorem Ret.len {P:Program} {f:FuncId} {args:List AV} {r:AV} (i:Nat) {e:Nat} {row:List AV} (hi:args[i]?=some (.sl e row)) (h:row.length≤e*9223372036854775807->Ret P f args r):Ret P f args r:=by
 intro w S vs hgood hS hl hr
 have hlt:i<vs.length:=by rw [hl];exact (List.getElem?_eq_some_iff.1 hi).1
 have hrep:=hr i vs[i] _ (List.getElem?_eq_getElem hlt) hi
 refine h ?_ w S vs hgood hS hl hr
 generalize vs[i]=v at hrep
 cases hrep with
 | sl A n c e us row hl hn hc hm ha h =>
  rw [hn]
  refine Nat.mul_le_mul_left e ?_
  simp only [maxLen] at hm
  omega
theorem range_snoc {α:Type} (g:Nat->α) (j:Nat):(List.range j).map g++ [g j]=(List.range (j+1)).map g:=by rw [List.range_succ,List.map_append];rfl
theorem encA_snoc {T:Type} {f:T->List AV} (l:List T) (x:T):encA f l++f x=encA f (l++ [x]):=by rw [←encA_app,encA_one]
theorem enc_range {T:Type} {f:T->List AV} (g:Nat->T) (j:Nat):encA f ((List.range j).map g)++f (g j)=encA f ((List.range (j+1)).map g):=by rw [encA_snoc,range_snoc]
end Go.Proofs.YtejpabdmiagnnaaGreatDoor
namespace Go.Proofs.YtejpabdmiagnnaaGreatDoor
open Go.RowKit Go.ChangeShapes Go.WideShapes Go.ChangeAt
def ReadC (P:Program) (t:TypeId) {T:Type} (f:T->List AV) (ok:T->Prop):Prop :=
 ∀(H:Type) (enc:TypeId×Value->H) (w:World) (fuel:Nat) (cs:List Value) (x:DataW H×List MemPlace),DataW.trod enc P w 0 (fun _=>true) true fuel t cs=some x ->
  ∃a,ok a∧(f a).length=cs.length∧ ∀(j:Nat) u y,cs[j]?=some u->(f a)[j]?=some y->Rep (fun b=>b<w.heap.size) w u y
def ReadT (P:Program) (t:TypeId) {T:Type} (g:T->AV) (ok:T->Prop):Prop :=
 ∀(H:Type) (enc:TypeId×Value->H) (w:World) (base:Nat) (v:Value) (d:DataW H) (ps:List MemPlace),Value.okWide P w .any base t v->DataW.Trod enc P w 0 (fun _=>true) true t v d ps ->
  ∃a,ok a∧Rep (fun b=>b<w.heap.size) w v (g a)
section
variable {P:Program} {t:TypeId} {T T':Type} {f:T->List AV} {ok:T->Prop}
theorem ReadC.map (h:ReadC P t f ok) (g:T->T') {f':T'->List AV} {ok':T'->Prop} (hf:∀a,ok a->f' (g a)=f a) (ho:∀a,ok a->ok' (g a)):ReadC P t f' ok':=by
 intro H enc w fuel cs x hx
 obtain ⟨a,h1,h2,h3⟩:=h H enc w fuel cs x hx
 exact ⟨g a,ho a h1,by rw [hf a h1];exact h2,by rw [hf a h1];exact h3⟩
theorem rep_cells1 {S:Nat->Prop} {w:World} {v:Value} {x:AV} (h:Rep S w v x) (j:Nat) (u:Value) (y:AV) (hu:[v][j]?=some u) (hy:[x][j]?=some y):Rep S w u y:=by
 cases j with
 | zero=>simp at hu hy;subst hu hy;exact h
 | succ j=>simp at hu
theorem read_word (ht:P.underlying t=some (.int .u64)):ReadC P t (fun c:UInt64=>[aw c]) (fun _=>True):=by
 intro H enc w fuel cs x hx
 obtain ⟨n,rfl,_,hw⟩:=DataW.trod_int ht hx
 obtain ⟨c,rfl⟩:=word_of n hw
 exact ⟨c,trivial,rfl,rep_cells1 (.val _)⟩
abbrev i64ok (n:Int):Prop:= -9223372036854775808≤n∧n≤9223372036854775807
theorem read_int (ht:P.underlying t=some (.int .i64)):ReadC P t (fun c:Int=>[ai c]) i64ok:=by
 intro H enc w fuel cs x hx
 obtain ⟨n,rfl,_,hw⟩:=DataW.trod_int ht hx
 refine ⟨n,?_,rfl,rep_cells1 (.val _)⟩
 simpa [Lit.wf,IntKind.min,IntKind.max,IntKind.signed,IntKind.bits] using hw
theorem mapM_get {α β:Type} {g:α->Option β}:∀ {l:List α} {m:List β},l.mapM g=some m->m.length=l.length∧ ∀(i:Nat) (a:α),l[i]?=some a->g a=m[i]?:=by
 intro l
 induction l with
 | nil=>intro m h;simp at h;subst h;simp
 | cons a l ih =>
  intro m h
  simp only [List.mapM_cons,Option.bind_eq_bind,Option.bind_eq_some_iff,Option.pure_def,Option.some.injEq] at h
  obtain ⟨b,hb,m',hm,rfl⟩:=h
  obtain ⟨h1,h2⟩:=ih hm
  refine ⟨by simp [h1],fun i x hx=>?_⟩
  cases i with
  | zero=>simp at hx;subst hx;simpa using hb
  | succ i=>simpa using h2 i x (by simpa using hx)
theorem cells_of {w:World} {ad:Addr} {n:Nat} {cs:List Value} (h:w.cells? 0 ad n=some cs):cs.length=n∧ ∀j,j<n->w.cell? (ad.add j)=cs[j]?:=by
 simp only [World.cells?,Nat.zero_le,if_true] at h
 obtain ⟨h1,h2⟩:=mapM_get h
 exact ⟨by simpa using h1,fun j hj=>h2 j j (by simp [hj])⟩
theorem elems_read {H:Type} {enc:TypeId×Value->H} {w:World} {fuel e:Nat} (hC:ReadC P t f ok) (ad:Addr):∀(n:Nat) (elems:List (DataW H×List MemPlace)),n≤elems.length ->
  (∀i,i<n->(w.cells? 0 (ad.add (i*e)) e).bind (DataW.trod enc P w 0 (fun _=>true) true fuel t)=elems[i]?) ->
  ∃(l:List T) (us:List Value),l.length=n∧(∀a∈l,ok a)∧us.length=n*e∧(encA f l).length=n*e∧(∀(j:Nat) u,us[j]?=some u->w.cell? (ad.add j)=some u)∧ ∀(j:Nat) u y,us[j]?=some u->(encA f l)[j]?=some y->Rep (fun b=>b<w.heap.size) w u y:=by
 intro n
 induction n with
 | zero=>intro elems _ _;exact ⟨[],[],rfl,by simp,by simp,by simp [encA],by simp,by simp⟩
 | succ n ih =>
  intro elems hn hel
  obtain ⟨l,us,h1,h2,h3,h4,h5,h6⟩:=ih elems (by omega) (fun i hi=>hel i (by omega))
  have hx:=hel n (by omega)
  rw [List.getElem?_eq_getElem (by omega)] at hx
  rw [Option.bind_eq_some_iff] at hx
  obtain ⟨cs,hcs,htr⟩:=hx
  obtain ⟨hcl,hcc⟩:=cells_of hcs
  obtain ⟨a,ha,hfl,hfr⟩:=hC H enc w fuel cs _ htr
  refine ⟨l++ [a],us++cs,by simp [h1],?_,?_,?_,?_,?_⟩
  ·intro b hb
   rcases List.mem_append.1 hb with hb|hb
   ·exact h2 b hb
   ·simp at hb;subst hb;exact ha
  ·rw [List.length_append,h3,hcl,Nat.add_mul];omega
  ·rw [←encA_snoc,List.length_append,h4,hfl,hcl,Nat.add_mul];omega
  ·intro j u hu
   by_cases hj:j<us.length
   ·rw [List.getElem?_append_left hj] at hu;exact h5 j u hu
   ·rw [List.getElem?_append_right (by omega)] at hu
    have hlt:j-us.length<e:=by
     have:=(List.getElem?_eq_some_iff.1 hu).1;omega
    have:=hcc (j-us.length) hlt
    rw [hu,Addr.add_add] at this
    rw [←this];congr 2;omega
  ·intro j u y hu hy
   rw [←encA_snoc] at hy
   by_cases hj:j<us.length
   ·rw [List.getElem?_append_left hj] at hu
    rw [List.getElem?_append_left (by omega)] at hy
    exact h6 j u y hu hy
   ·rw [List.getElem?_append_right (by omega)] at hu
    rw [List.getElem?_append_right (by omega),h4,←h3] at hy
    exact hfr _ u y hu hy
theorem read_slice {te:TypeId} {e:Nat} (ht:P.underlying t=some (.slice te)) (he:P.cellsOf te=e) (hC:ReadC P te f ok):ReadC P t (fun l:List T=>[.sl e (encA f l)]) (fun l=>∀a∈l,ok a):=by
 intro H enc w fuel cs x hx
 rcases DataW.trod_slice ht hx with ⟨rfl,_⟩|⟨a,len,cap,elems,rest,n,_,rfl,hxe,_,hlc,hcm,hel,hat,_,_⟩
 ·exact ⟨[],by simp,rfl,rep_cells1 (sl_empty none 0 0 e (by simp) (Nat.le_refl _) (by simp))⟩
 ·rw [he] at hat
  obtain ⟨l,us,h1,h2,h3,h4,h5,h6⟩:=elems_read hC a len elems (by omega) hat
  refine ⟨l,h2,rfl,rep_cells1 (.sl _ _ _ _ us _ (h3.trans h4.symm) (by rw [h4,Nat.mul_comm]) hlc hcm (fun h0=>⟨a,rfl,?_,h5⟩) h6)⟩
  have hu:0<us.length:=by omega
  have:=h5 0 us[0] (List.getElem?_eq_getElem hu)
  have hb:w.heap[(a.add 0).block]?≠none:=by
   intro hn
   rw [World.cell?,hn] at this
   cases this
  rw [block_of_add] at hb
  exact Nat.lt_of_not_le fun hle=>hb (Array.getElem?_eq_none hle)
def oneT (P:Program) (t:TypeId):Bool:=match P.underlying t with|some (.int _)|some .string|some .bool|some (.slice _)=>true|_=>false
theorem ReadC.one {g:T->AV} (h:ReadC P t (fun a=>[g a]) ok) (ht:oneT P t=true):ReadT P t g ok:=by
 intro H enc w base v d ps hv hd
 obtain ⟨fuel,hd⟩:=hd
 have hc:v.cells= #[v]:=by
  simp only [oneT] at ht
  split at ht
  ·rename_i hu;obtain ⟨n,rfl⟩:=okWide_int hu hv;rfl
  ·rename_i hu
   simp only [Value.okWide,hu,Cell.okWide] at hv
   cases v<;>simp_all [Cell.ok]
   rfl
  ·rename_i hu
   simp only [Value.okWide,hu,Cell.okWide] at hv
   cases v<;>simp_all [Cell.ok]
   rfl
  ·rename_i hu;obtain ⟨_,_,_,rfl⟩:=okWide_slice hu hv;rfl
  ·cases ht
 rw [hc] at hd
 obtain ⟨a,h1,h2,h3⟩:=h H enc w fuel _ _ hd
 exact ⟨a,h1,h3 0 _ _ rfl rfl⟩
theorem encA_ints (l:List Int):encA (fun c:Int=>[ai c]) l=intsA l:=by
 induction l with
 | nil=>rfl
 | cons c l ih=>rw [encA_cons,ih];rfl
theorem read_ints {te:TypeId} (ht:P.underlying t=some (.slice te)) (he:P.underlying te=some (.int .i64)) (hc:P.cellsOf te=1):ReadC P t (fun l:List Int=>[.sl 1 (intsA l)]) (fun l=>∀n∈l,i64ok n) :=
 (read_slice ht hc (read_int he)).map id (fun l _=>by rw [encA_ints];rfl) (fun _ h=>h)
end
theorem Ret.law {P:Program} {f:FuncId} {args:List AV} (h:Ret P f args (ao true)) (w:World) (hgood:Good w) (vs:List Value) (hl:vs.length=args.length) (hr:∀(j:Nat) v x,vs[j]?=some v->args[j]?=some x->Rep (fun b=>b<w.heap.size) w v x) :
  Calls P f vs.toArray w fun e w'=>e= .returned (.bool true)∧Below w.heap.size w w':=by
 refine (h w (fun b=>b<w.heap.size) vs hgood (fun _ h=>h) hl hr).mono fun e w' ⟨v,O,he,hb,_,_,hg⟩=>⟨?_,hb⟩
 subst he
 rcases hg with hg|⟨_,_,_,hx,_⟩
 ·rcases hg with hg|⟨_,_,_,hx,_⟩
  ·cases hg with
   | rep hrep=>cases hrep;rfl
  ·cases hx
 ·cases hx
theorem rep_nil (S:Nat->Prop) (w:World) (j:Nat) (v:Value) (x:AV) (h:([]:List Value)[j]?=some v) (_:([]:List AV)[j]?=some x):Rep S w v x:=by simp at h
theorem rep_cons {S:Nat->Prop} {w:World} {v:Value} {x:AV} {vs:List Value} {xs:List AV} (h:Rep S w v x) (h2:∀(j:Nat) v x,vs[j]?=some v->xs[j]?=some x->Rep S w v x) (j:Nat) (u:Value) (y:AV) (hu:(v::vs)[j]?=some u) (hy:(x::xs)[j]?=some y):Rep S w u y:=by
 cases j with
 | zero=>simp at hu hy;subst hu hy;exact h
 | succ j=>exact h2 j u y (by simpa using hu) (by simpa using hy)
theorem Below.trodAll_ {H:Type} {enc:TypeId×Value->H} {P:Program} (hl:laidOutB P=true) {W W':World} (hb:Below W.heap.size W W'):∀(ts:List TypeId) (vs:List Value) (ds:List (DataW H)) (ps:List MemPlace),(ts.all fun t=>P.readableRec t && decide (t<P.types.size))=true ->
  DataW.TrodAll enc P W 0 (fun _=>true) true ts vs ds ps->DataW.TrodAll enc P W' 0 (fun b=>decide (b<W.heap.size)) true ts vs ds ps:=by
 intro ts
 induction ts with
 | nil=>intro vs ds ps _ h;cases vs<;>cases ds<;>simp_all [DataW.TrodAll]
 | cons t ts ih =>
  intro vs ds ps hr h
  rw [List.all_cons,Bool.and_eq_true,Bool.and_eq_true] at hr
  obtain ⟨v,vs',d,ds',p,q,rfl,rfl,rfl,h1,h2⟩:=trodAll_cons h
  have lt:∀x∈p,x.block<W.heap.size:=by obtain ⟨m,hm⟩:=h1;exact DataW.trod_lt m _ _ _ hm
  exact ⟨p,q,Below.trod hl hr.1.1 (of_decide_eq_true hr.1.2) h1 hb lt,ih _ _ _ hr.2 h2,rfl⟩
end Go.Proofs.YtejpabdmiagnnaaGreatDoor
