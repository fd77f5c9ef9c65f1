import Derived.Test.YtejpabdmiagnnaaGreatDoorZrRA
import Derived.Laws.StructEq
import Derived.ChangeKeysEq
set_option linter.all false
namespace Go.Proofs.YtejpabdmiagnnaaGreatDoor
open Go.RowKit
def eqFs (P:Program) (eq:TypeId->List AV->List AV->Option Bool) (cs ds:List AV):List Field->Option Bool
 | []=>some true
 | f :: fs => match f.name == "_", sizeT P f.type, eqFs P eq cs ds fs with
  | false,some z,some b=>(match eq f.type ((cs.drop f.offset).take z) ((ds.drop f.offset).take z) with|some a=>some (a && b)|none=>none)
  | _,_,_=>none
def eqT (P:Program):Nat->TypeId->List AV->List AV->Option Bool
 | 0,_,_,_=>none
 | d+1,t,cs,ds=>match P.underlying t with
  | some .bool=>(match cs,ds with| [.val (.bool a)],[.val (.bool b)]=>some (a == b)|_,_=>none)
  | some (.int _)=>(match cs,ds with| [.val (.int k a)],[.val (.int k' b)]=>if k=k' then some (a == b) else none|_,_=>none)
  | some .string=>(match cs,ds with| [.val (.string a)],[.val (.string b)]=>some (a.toList == b.toList)|_,_=>none)
  | some (.struct fs)=>(match P.stoodInHeld t with|true=>none|false=>eqFs P (eqT P d) cs ds fs.toList)
  | _=>none
def packs (P:Program) (t:TypeId) (vs:List Value) (x:Value):Prop:=match isAggT P t with|true=>x= .agg vs.toArray|false=>vs= [x]
theorem den_val1 {I:Info} {S:Nat->Prop} {w:World} {vs:List Value} {u:Value} (hl:vs.length=1) (hd:∀(j:Nat) v c,vs[j]?=some v-> [AV.val u][j]?=some c->Den I S w v c):vs= [u]:=by
 match vs,hl with
 | [v],_=>rw [den_val (hd 0 v _ rfl rfl)]
section
variable {P:Program} {I:Info} {S:Nat->Prop} {w:World}
theorem part_packs {t:TypeId} {z:Nat} {cs:List AV} {vs:List Value} {off:Nat} (hz:sizeT P t=some z) (hu:∃d,P.underlying t=some d) (hl:vs.length=cs.length) (hs:isAggT P t=false-> ∃x,(cs.drop off).take z= [x]) :
  ∃v,(part t vs.toArray off).run P w= .ok v w∧packs P t ((vs.drop off).take z) v:=by
 cases ha:isAggT P t with
 | true =>
  refine ⟨.agg (vs.toArray.extract off (off+z)),?_,?_⟩
  ·simp [part,run_isAgg hu,ha,run_sizeOf hz]
  ·unfold packs;rw [ha];simp [List.extract_eq_take_drop]
 | false =>
  obtain ⟨x,hx⟩:=hs ha
  have hlen:=congrArg List.length hx
  rw [List.length_take,List.length_drop] at hlen
  simp at hlen
  have hlt:off<vs.length:=by omega
  refine ⟨vs[off],?_,?_⟩
  ·simp [part,run_isAgg hu,ha,hlt]
  ·unfold packs;rw [ha]
   show (vs.drop off).take z= [vs[off]]
   rw [List.drop_eq_getElem_cons hlt]
   obtain ⟨z',rfl⟩:∃z',z=z'+1:=⟨z-1,by omega⟩
   rw [List.take_succ_cons]
   congr 1
   apply List.eq_nil_of_length_eq_zero
   rw [List.length_take,List.length_drop];omega
theorem eqFs_ok {eq:TypeId->List AV->List AV->Option Bool} {D:Nat} (heq:∀t cs ds b vs us x y,eq t cs ds=some b->vs.length=cs.length->us.length=ds.length->(∀(j:Nat) v c,vs[j]?=some v->cs[j]?=some c->Den I S w v c)->(∀(j:Nat) v c,us[j]?=some v->ds[j]?=some c->Den I S w v c)->packs P t vs x->packs P t us y->(Op.equalIn D t x y).run P w= .ok b w)
  (hone:∀t cs ds b,eq t cs ds=some b->(∃d,P.underlying t=some d)∧(isAggT P t=false->(∃x,cs= [x])∧ ∃x,ds= [x])) {cs ds:List AV} {vs us:List Value} (hl:vs.length=cs.length) (hl':us.length=ds.length) (hd:∀(j:Nat) v c,vs[j]?=some v->cs[j]?=some c->Den I S w v c) (hd':∀(j:Nat) v c,us[j]?=some v->ds[j]?=some c->Den I S w v c) :
  ∀(fs:List Field) (b:Bool),eqFs P eq cs ds fs=some b->(Op.eqFields D vs.toArray us.toArray fs).run P w= .ok b w
 | [],b,h=>by simp [eqFs] at h;subst h;simp [Op.eqFields]
 | f::fs,b,h=>by
  rw [eqFs] at h
  split at h
  ·rename_i z b' hn hz hb'
   split at h
   ·rename_i a ha
    injection h with h;subst h
    obtain ⟨hu,ho⟩:=hone _ _ _ _ ha
    obtain ⟨x,hx,px⟩:=part_packs (w:=w) (off:=f.offset) hz hu hl (fun h0=>(ho h0).1)
    obtain ⟨y,hy,py⟩:=part_packs (w:=w) (off:=f.offset) hz hu hl' (fun h0=>(ho h0).2)
    have he:=heq _ _ _ _ _ _ x y ha (by rw [List.length_take,List.length_drop,List.length_take,List.length_drop,hl]) (by rw [List.length_take,List.length_drop,List.length_take,List.length_drop,hl']) (fun j v c hv hc=>hd (f.offset+j) v c (drop_take_get _ _ _ _ _ hv) (drop_take_get _ _ _ _ _ hc)) (fun j v c hv hc=>hd' (f.offset+j) v c (drop_take_get _ _ _ _ _ hv) (drop_take_get _ _ _ _ _ hc)) px py
    have hn' : f.name ≠ "_" := by simpa using hn
    simp only [Op.eqFields,if_pos hn',Sem.run_bind,hx,hy,he,Result.andThen_ok]
    cases a with
    | false=>simp
    | true =>
     have:=eqFs_ok heq hone hl hl' hd hd' fs b' hb'
     simpa using this
   ·cases h
  ·cases h
theorem eqT_one:∀(d:Nat) (t:TypeId) (cs ds:List AV) (b:Bool),eqT P d t cs ds=some b->(∃d,P.underlying t=some d)∧(isAggT P t=false->(∃x,cs= [x])∧ ∃x,ds= [x]):=by
 intro d t cs ds b h
 cases d with
 | zero=>cases h
 | succ d =>
  unfold eqT at h
  split at h
  ·rename_i hu;refine ⟨⟨_,hu⟩,fun _=>?_⟩
   split at h
   ·exact ⟨⟨_,rfl⟩,_,rfl⟩
   ·cases h
  ·rename_i hu;refine ⟨⟨_,hu⟩,fun _=>?_⟩
   split at h
   ·exact ⟨⟨_,rfl⟩,_,rfl⟩
   ·cases h
  ·rename_i hu;refine ⟨⟨_,hu⟩,fun _=>?_⟩
   split at h
   ·exact ⟨⟨_,rfl⟩,_,rfl⟩
   ·cases h
  ·rename_i hu;refine ⟨⟨_,hu⟩,fun ha=>?_⟩
   unfold isAggT at ha;rw [hu] at ha;cases ha
  ·cases h
theorem eqT_ok (D:Nat):∀(d:Nat) (t:TypeId) (cs ds:List AV) (b:Bool) (vs us:List Value) (x y:Value),eqT P d t cs ds=some b->vs.length=cs.length->us.length=ds.length->(∀(j:Nat) v c,vs[j]?=some v->cs[j]?=some c->Den I S w v c)->(∀(j:Nat) v c,us[j]?=some v->ds[j]?=some c->Den I S w v c)->packs P t vs x->packs P t us y->(Op.equalIn (D+d) t x y).run P w= .ok b w:=by
 intro d
 induction d with
 | zero=>intro t cs ds b vs us x y h;cases h
 | succ d ih =>
  intro t cs ds b vs us x y h hl hl' hd hd' px py
  unfold eqT at h
  split at h
  ·rename_i hu
   have ha:isAggT P t=false:=by unfold isAggT;rw [hu]
   unfold packs at px py;rw [ha] at px py
   split at h
   ·have h1:=den_val1 hl hd
    have h2:=den_val1 hl' hd'
    rw [h1] at px;rw [h2] at py
    injection px with px;injection py with py
    injection h with h
    subst px py h
    exact run_equalIn_bool' w (D+d) t _ _ hu
   ·cases h
  ·rename_i hu
   have ha:isAggT P t=false:=by unfold isAggT;rw [hu]
   unfold packs at px py;rw [ha] at px py
   split at h
   ·have h1:=den_val1 hl hd
    have h2:=den_val1 hl' hd'
    rw [h1] at px;rw [h2] at py
    injection px with px;injection py with py
    split at h
    ·rename_i hk
     injection h with h
     subst px py h hk
     exact run_equalIn_int w (D+d) t _ _ _ _ hu
    ·cases h
   ·cases h
  ·rename_i hu
   have ha:isAggT P t=false:=by unfold isAggT;rw [hu]
   unfold packs at px py;rw [ha] at px py
   split at h
   ·have h1:=den_val1 hl hd
    have h2:=den_val1 hl' hd'
    rw [h1] at px;rw [h2] at py
    injection px with px;injection py with py
    injection h with h
    subst px py h
    exact run_equalIn_string w (D+d) t _ _ hu
   ·cases h
  ·rename_i fs hu
   have ha:isAggT P t=true:=by unfold isAggT;rw [hu]
   unfold packs at px py;rw [ha] at px py
   split at h
   ·cases h
   ·rename_i hp
    have hf:P.fieldsOf t=fs:=by simp [Program.fieldsOf,hu]
    simp only at px py
    subst px py
    rw [show D+(d+1)=(D+d)+1 from rfl,run_equalIn_struct w (D+d) t _ _ (by rw [hf];exact hu) hp,hf]
    exact eqFs_ok (fun t cs ds b vs us x y h1 h2 h3 h4 h5 h6 h7=>ih t cs ds b vs us x y h1 h2 h3 h4 h5 h6 h7) (eqT_one d) hl hl' hd hd' fs.toList b h
  ·cases h
end
def evEqAgg (P:Program) (op:BinOp) (t:TypeId) (cs ds:List AV):Option (AV×List Prop) :=
 match op,P.eqGuardType P.depth t,isAggT P t,eqT P 12 t cs ds with
 | .eql,false,true,some b=>some (.val (.bool b),[])
 | .neq,false,true,some b=>some (.val (.bool (!b)),[])
 | _,_,_,_=>none
section
variable {P:Program} {s:AS} {o:Oper} {h:Hint} {r:AV×List Prop}
theorem evEqAgg_ok {op:BinOp} {t t':TypeId} {x y:Operand} {cs ds:List AV} (ho:o.op= .binOp op t x y t') (hx:opd s x= .agg cs) (hy:opd s y= .agg ds) (hr:evEqAgg P op t cs ds=some r):PlainOK P s o r.1 r.2:=by
 intro _ S0 w0 n O a w φ hs
 have dx:=hs.opd x
 have dy:=hs.opd y
 rw [hx] at dx;rw [hy] at dy
 obtain ⟨vs,ex,hl,hd⟩:=den_agg dx
 obtain ⟨us,ey,hl',hd'⟩:=den_agg dy
 have main:∀b,P.eqGuardType P.depth t=false->isAggT P t=true->eqT P 12 t cs ds=some b->(∀op,(eqGuard op t x y (a.eval x) (a.eval y)).run P w= .ok () w)∧(Op.equalIn 10000 t (.agg vs.toArray) (.agg us.toArray)).run P w= .ok b w:=by
  intro b hg ha he
  refine ⟨fun op=>by rw [ex,ey];exact run_eqGuard_agg w op t x y _ _ hg,?_⟩
  exact eqT_ok 9988 12 t cs ds b vs us _ _ he hl hl' hd hd' (by unfold packs;rw [ha]) (by unfold packs;rw [ha])
 unfold evEqAgg at hr
 split at hr
 ·rename_i hg ha he
  injection hr with hr;subst hr
  obtain ⟨h1,h2⟩:=main _ hg ha he
  refine ⟨.bool _,?_,.rep (.val _)⟩
  unfold execOp;simp only [ho,Sem.run_bind,h1,Result.andThen_ok]
  rw [ex,ey,run_eql_struct,h2];rfl
 ·rename_i hg ha he
  injection hr with hr;subst hr
  obtain ⟨h1,h2⟩:=main _ hg ha he
  refine ⟨.bool _,?_,.rep (.val _)⟩
  unfold execOp;simp only [ho,Sem.run_bind,h1,Result.andThen_ok]
  rw [ex,ey,run_neq_struct,h2];rfl
 ·cases hr
end
end Go.Proofs.YtejpabdmiagnnaaGreatDoor
namespace Go.Proofs.YtejpabdmiagnnaaGreatDoor
open Go.RowKit
def ArrEq (k:IntKind) (n:Nat) (cs ds:List AV) (b:Bool):Prop:=∃l m:List Int,cs=l.map (fun x=>.val (.int k x))∧ds=m.map (fun x=>.val (.int k x))∧l.length=n∧m.length=n∧b=(l == m)
def evEqArr (P:Program) (op:BinOp) (t:TypeId) (cs ds:List AV) (h:Hint):Option (AV×List Prop) :=
 match P.underlying t,P.eqGuardType P.depth t,h.av with
 | some (.array n e),false,some (.val (.bool b))=>(match P.underlying e,sizeT P e,op with
  | some (.int k),some 1,.eql=>some (.val (.bool b),[ArrEq k n cs ds b])
  | some (.int k),some 1,.neq=>some (.val (.bool b),[ArrEq k n cs ds (!b)])
  | _,_,_=>none)
 | _,_,_=>none
section
variable {P:Program} {w:World}
theorem eqItems_ints (d:Nat) {e:TypeId} {k k':IntKind} (he:P.underlying e=some (.int k')) {n:Nat} {l m:List Int} (hl:l.length=n) (hm:m.length=n):∀(is:List Nat),(∀i∈is,i<n) ->
  (Op.eqItems (d+1) e 1 (l.map (Value.int k)).toArray (m.map (Value.int k)).toArray is).run P w= .ok (is.all fun i=>l.getD i 0 == m.getD i 0) w
 | [],_=>by simp [Op.eqItems]
 | i::is,hi=>by
  have h1:i<n:=hi i (by simp)
  have ha:isAggT P e=false:=by unfold isAggT;rw [he]
  have p1:(part e (l.map (Value.int k)).toArray (i*1)).run P w= .ok (.int k (l.getD i 0)) w:=by
   simp [part,run_isAgg ⟨_,he⟩,ha,hl,h1]
  have p2:(part e (m.map (Value.int k)).toArray (i*1)).run P w= .ok (.int k (m.getD i 0)) w:=by
   simp [part,run_isAgg ⟨_,he⟩,ha,hm,h1]
  simp only [Op.eqItems,Sem.run_bind,p1,p2,run_equalIn_int w d e k k' _ _ he,Result.andThen_ok,List.all_cons]
  have ih:=eqItems_ints d (k:=k) he hl hm is (fun j hj=>hi j (by simp [hj]))
  cases hb:l.getD i 0 == m.getD i 0 with
  | false=>simp
  | true=>simpa using ih
theorem all_getD_eq {l m:List Int} {n:Nat} (hl:l.length=n) (hm:m.length=n):((List.range n).all fun i=>l.getD i 0 == m.getD i 0)=(l == m):=by
 rw [Bool.eq_iff_iff,List.all_eq_true,beq_iff_eq]
 constructor
 ·intro h
  apply List.ext_getElem (by omega)
  intro i h1 h2
  have:=h i (List.mem_range.2 (by omega))
  simpa [h1,h2] using this
 ·rintro rfl i _;simp
theorem rep_ints {S:Nat->Prop} {k:IntKind} {l:List Int} {vs:List Value} (hl:vs.length=(l.map (fun x=>AV.val (.int k x))).length) (hd:∀(j:Nat) v c,vs[j]?=some v->(l.map (fun x=>AV.val (.int k x)))[j]?=some c->Rep S w v c):vs=l.map (Value.int k):=by
 apply List.ext_getElem (by simpa using hl)
 intro i h1 h2
 have h3:i<l.length:=by simpa using h2
 have:=hd i vs[i] (.val (.int k l[i])) (List.getElem?_eq_getElem h1) (by simp [h3])
 generalize vs[i]=q at this
 cases this
 simp
end
section
variable {P:Program} {s:AS} {o:Oper} {h:Hint} {r:AV×List Prop}
theorem evEqArr_ok {op:BinOp} {t t':TypeId} {x y:Operand} {cs ds:List AV} (ho:o.op= .binOp op t x y t') (hx:opd s x= .arr cs) (hy:opd s y= .arr ds) (hr:evEqArr P op t cs ds h=some r):PlainOK P s o r.1 r.2:=by
 intro hC S0 w0 n O a w φ hs
 have dx:=hs.opd x
 have dy:=hs.opd y
 rw [hx] at dx;rw [hy] at dy
 obtain ⟨vs,ex,hl,hd⟩:=den_arr dx
 obtain ⟨us,ey,hl',hd'⟩:=den_arr dy
 have main:∀k N e b,P.underlying t=some (.array N e)->P.underlying e=some (.int k)->sizeT P e=some 1->P.eqGuardType P.depth t=false->ArrEq k N cs ds b->(∀op,(eqGuard op t x y (a.eval x) (a.eval y)).run P w= .ok () w)∧(Op.equalIn 10000 t (.agg vs.toArray) (.agg us.toArray)).run P w= .ok b w:=by
  intro k N e b hu he hz hg ⟨l,m,e1,e2,h1,h2,h3⟩
  refine ⟨fun op=>by rw [ex,ey];exact run_eqGuard_agg w op t x y _ _ hg,?_⟩
  subst e1 e2
  rw [rep_ints hl hd,rep_ints hl' hd']
  obtain ⟨i,hi,hi1⟩:∃i,P.info? e=some i∧i.size=1:=by
   unfold sizeT at hz
   cases hp:P.info? e with
   | none=>rw [hp] at hz;cases hz
   | some i=>rw [hp] at hz;exact ⟨i,rfl,by simpa using hz⟩
  rw [show (10000:Nat)=9999+1 from rfl,run_equalIn_array w 9999 _ _ hu hi]
  have hc:P.cellsOf e=1:=by unfold Program.cellsOf;rw [hi];exact hi1
  rw [hc,show (9999:Nat)=9998+1 from rfl,eqItems_ints 9998 he h1 h2 _ (fun i hi=>List.mem_range.1 hi),all_getD_eq h1 h2,h3]
 unfold evEqArr at hr
 split at hr
 ·rename_i N e b hu hg _
  split at hr
  ·rename_i k he hz
   injection hr with hr;subst hr
   obtain ⟨h1,h2⟩:=main k N e _ hu he hz hg hC.1
   refine ⟨.bool _,?_,.rep (.val _)⟩
   unfold execOp;simp only [ho,Sem.run_bind,h1,Result.andThen_ok]
   rw [ex,ey,run_eql_struct,h2];rfl
  ·rename_i k he hz
   injection hr with hr;subst hr
   obtain ⟨h1,h2⟩:=main k N e _ hu he hz hg hC.1
   refine ⟨.bool _,?_,.rep (.val _)⟩
   unfold execOp;simp only [ho,Sem.run_bind,h1,Result.andThen_ok]
   rw [ex,ey,run_neq_struct,h2];simp
  ·cases hr
 ·cases hr
def evArrAt (P:Program) (s:AS) (t:TypeId) (x:AV):Option (AV×List Prop) :=
 match P.underlying t,x with
 | some (.array (n+1) _),.sl (z+1) row=>some (.ptr row 0,[mul1 (n+1) (z+1)≤row.length])
 | some (.array (n+1) _),.ref id=>(match look s.H id with
  | some ⟨z+1,_,_,cells⟩=>some (.addr id 0,[mul1 (n+1) (z+1)≤cells.length])
  | _=>none)
 | _,_=>none
theorem run_arrayAt {P:Program} {w:World} {t:TypeId} {n:Nat} {e:TypeId} (hu:P.underlying t=some (.array n e)) (A:Option Addr) (l c:Nat) (h:n≤l):(Instr.arrayAt t (.slice A l c)).run P w= .ok (.pointer A) w:=by
 have:¬l<n:=by omega
 simp [Instr.arrayAt,run_underlying hu,this]
theorem evArrAt_ok {t:TypeId} {x:Operand} (ho:o.op= .sliceToArrayPointer t x) (hr:evArrAt P s t (opd s x)=some r):PlainOK P s o r.1 r.2:=by
 intro hC S0 w0 n O a w φ hs
 have dx:=hs.opd x
 unfold evArrAt at hr
 split at hr
 ·rename_i N e z row hu hx
  injection hr with hr;subst hr
  rw [hx] at dx
  have hrep:=den_sl dx
  generalize hv:a.eval x=v at hrep
  cases hrep with
  | sl A l c e' us row' hlen hn hc hm ha hr' =>
   have hC1:=hC.1
   rw [mul1_eq] at hC1
   rw [hn,Nat.mul_comm (z+1)] at hC1
   have hNl:N+1≤l:=Nat.le_of_mul_le_mul_right hC1 (by omega)
   obtain ⟨ad,rfl,hS,hcell⟩:=ha (by rw [hn];exact Nat.mul_pos (by omega) (by omega))
   refine ⟨.pointer (some ad),?_,?_⟩
   ·unfold execOp;simp only [ho,hv,Sem.run_bind,run_arrayAt hu (some ad) l c hNl,Result.andThen_ok];rfl
   ·have:=Rep.ptr (S:=Free S0 w φ O) (w:=w) ad us row 0 hlen hS hcell hr'
    rw [add_zero_addr] at this
    exact .rep this
 ·rename_i N e id hu hx
  rw [hx] at dx
  split at hr
  ·rename_i z p f cells hlk
   injection hr with hr;subst hr
   have hC1:=hC.1
   rw [mul1_eq] at hC1
   generalize hv:a.eval x=v at dx
   cases dx with
   | rep hrep=>cases hrep
   | ref _ e' m g l c hi hm hc hx' hs' =>
    have hinf:=info_of (φ:=φ) hlk
    rw [hi] at hinf
    simp at hinf
    obtain ⟨h1,h2,h3⟩:=hinf
    subst h1 h2
    rw [hm,Nat.mul_comm (z+1)] at hC1
    have hNl:N+1≤l:=Nat.le_of_mul_le_mul_right hC1 (by omega)
    refine ⟨.pointer (some ⟨g,0,none⟩),?_,.addr id 0 _ _ g hi⟩
    unfold execOp;simp only [ho,hv,Sem.run_bind,run_arrayAt hu _ l c hNl,Result.andThen_ok];rfl
   | refnil _ e' hi =>
    have hinf:=info_of (φ:=φ) hlk
    rw [hi] at hinf
    simp at hinf
    rw [←hinf.2.1] at hC1
    simp at hC1
  ·cases hr
 ·cases hr
end
end Go.Proofs.YtejpabdmiagnnaaGreatDoor
namespace Go.Proofs.YtejpabdmiagnnaaGreatDoor
open Go.RowKit
def avCells:AV->Option (List AV)
 | .val u=>(match u.oneCell' with|true=>some [.val u]|false=>none)
 | .agg cs=>some cs
 | .arr cs=>some cs
 | .tup _=>none
 | .dead=>none
 | .own _ _=>none
 | .box _=>none
 | x=>some [x]
theorem one_cells {v:Value} (h:v.oneCell'=true):v.cells= [v].toArray:=by
 cases v<;>first|rfl|cases h
theorem den_cells {I:Info} {S:Nat->Prop} {w:World} {v:Value} {x:AV} {l:List AV} (hd:Den I S w v x) (hl:avCells x=some l) :
  ∃vs:List Value,v.cells=vs.toArray∧vs.length=l.length∧ ∀(j:Nat) u c,vs[j]?=some u->l[j]?=some c->Den I S w u c:=by
 have single:∀y,Den I S w v y->v.oneCell'=true->l= [y]-> ∃vs:List Value,v.cells=vs.toArray∧vs.length=l.length∧ ∀(j:Nat) u c,vs[j]?=some u->l[j]?=some c->Den I S w u c:=by
  intro y hy ho hl
  subst hl
  refine ⟨[v],one_cells ho,rfl,fun j u c hu hc=>?_⟩
  cases j with
  | zero=>simp at hu hc;subst hu;subst hc;exact hy
  | succ j=>simp at hu
 have hd0:=hd
 cases hd with
 | rep h=>cases h with
  | val v =>
   unfold avCells at hl
   simp only at hl
   split at hl
   ·rename_i ho;injection hl with hl;exact single _ hd0 ho hl.symm
   ·cases hl
  | nil=>injection hl with hl;exact single _ hd0 rfl hl.symm
  | agg vs cs hlen h=>injection hl with hl;subst hl;exact ⟨vs,rfl,hlen,fun j u c hu hc=>.rep (h j u c hu hc)⟩
  | tup vs cs hlen h=>cases hl
  | arr vs cs hlen h=>injection hl with hl;subst hl;exact ⟨vs,rfl,hlen,fun j u c hu hc=>.rep (h j u c hu hc)⟩
  | sl=>injection hl with hl;exact single _ hd0 rfl hl.symm
  | ptr=>injection hl with hl;exact single _ hd0 rfl hl.symm
  | clo=>injection hl with hl;exact single _ hd0 rfl hl.symm
 | agg vs cs hlen h=>injection hl with hl;subst hl;exact ⟨vs,rfl,hlen,h⟩
 | tup=>cases hl
 | dead=>cases hl
 | ref=>injection hl with hl;exact single _ hd0 rfl hl.symm
 | refnil=>injection hl with hl;exact single _ hd0 rfl hl.symm
 | pre=>injection hl with hl;exact single _ hd0 rfl hl.symm
 | prenil=>injection hl with hl;exact single _ hd0 rfl hl.symm
 | win=>injection hl with hl;exact single _ hd0 rfl hl.symm
 | addr=>injection hl with hl;exact single _ hd0 rfl hl.symm
def fillA (place:Nat->Option (Nat×Nat)) (cells:List AV):List (Nat×AV)->Option (List AV)
 | []=>some cells
 | (i,x)::rest=>match place i,avCells x with
  | some (off,size),some l=>(match Nat.beq l.length size,Nat.ble (off+l.length) cells.length with
   | true,true=>fillA place (cells.take off++l++cells.drop (off+l.length)) rest
   | _,_=>none)
  | _,_=>none
theorem foldl_set (off:Nat):∀(vs:List Value) (k:Nat) (cells:Array Value) (p:Nat),((vs.zipIdx k).foldl (fun cs (cj:Value×Nat)=>cs.setIfInBounds (off+cj.2) cj.1) cells)[p]?=if off+k≤p∧p<off+k+vs.length∧p<cells.size then vs[p-(off+k)]? else cells[p]?
 | [],k,cells,p=>by simp;omega
 | v::vs,k,cells,p=>by
  simp only [List.zipIdx_cons,List.foldl_cons]
  rw [foldl_set off vs (k+1)]
  simp only [Array.size_setIfInBounds,List.length_cons]
  by_cases h1:off+(k+1)≤p∧p<off+(k+1)+vs.length∧p<cells.size
  ·rw [if_pos h1,if_pos (by omega)]
   rw [show p-(off+k)=(p-(off+(k+1)))+1 by omega,List.getElem?_cons_succ]
  ·rw [if_neg h1]
   by_cases h2:off+k=p
   ·subst h2
    by_cases h3:off+k<cells.size
    ·rw [Array.getElem?_setIfInBounds_self_of_lt h3,if_pos (by omega)];simp
    ·rw [if_neg (by omega),Array.getElem?_eq_none (by simp;omega),Array.getElem?_eq_none (by omega)]
   ·rw [Array.getElem?_setIfInBounds_ne h2,if_neg (by omega)]
theorem foldl_size (off:Nat):∀(vs:List (Value×Nat)) (cells:Array Value),(vs.foldl (fun cs (cj:Value×Nat)=>cs.setIfInBounds (off+cj.2) cj.1) cells).size=cells.size
 | [],_=>rfl
 | v::vs,cells=>by rw [List.foldl_cons,foldl_size off vs];simp
theorem fill_ok {I:Info} {S:Nat->Prop} {w:World} (place:Nat->Option (Nat×Nat)):∀(parts:List (Nat×AV)) (vparts:List (Nat×Value)) (cells out:List AV) (cs:Array Value),fillA place cells parts=some out->vparts.map (·.1)=parts.map (·.1) ->
  (∀(j:Nat) v x,vparts[j]?=some v->parts[j]?=some x->Den I S w v.2 x.2)->cs.size=cells.length->(∀(j:Nat) u c,cs[j]?=some u->cells[j]?=some c->Den I S w u c) ->
  ∃us:List Value,Instr.fill place cs vparts=some us.toArray∧us.length=out.length∧ ∀(j:Nat) u c,us[j]?=some u->out[j]?=some c->Den I S w u c
 | [],vparts,cells,out,cs,hf,hm,hp,hs,hd=>by
  have:vparts= []:=by simpa using hm
  subst this
  injection hf with hf;subst hf
  exact ⟨cs.toList,by simp [Instr.fill],by simpa using hs,fun j u c hu hc=>hd j u c (by simpa using hu) hc⟩
 | (i,x)::parts,vparts,cells,out,cs,hf,hm,hp,hs,hd=>by
  cases vparts with
  | nil=>simp at hm
  | cons p vparts =>
   obtain ⟨i',v⟩:=p
   simp only [List.map_cons,List.cons.injEq] at hm
   obtain ⟨hi,hm⟩:=hm
   subst hi
   have hv:=hp 0 (i',v) (i',x) rfl rfl
   simp only [fillA] at hf
   split at hf
   ·rename_i off size l hpl hl
    split at hf
    ·rename_i hb1 hb2
     have h1:=Nat.eq_of_beq_eq_true hb1
     have h2:off+l.length≤cells.length:=Nat.le_of_ble_eq_true hb2
     obtain ⟨vs,hvs,hlen,hden⟩:=den_cells hv hl
     have hz:v.cells.zipIdx.foldl (fun cs (cj:Value×Nat)=>cs.setIfInBounds (off+cj.2) cj.1) cs=(vs.zipIdx).foldl (fun cs (cj:Value×Nat)=>cs.setIfInBounds (off+cj.2) cj.1) cs:=by
      rw [hvs];simp
     have ih:=fill_ok (I:=I) (S:=S) (w:=w) place parts vparts (cells.take off++l++cells.drop (off+l.length)) out ((vs.zipIdx).foldl (fun cs (cj:Value×Nat)=>cs.setIfInBounds (off+cj.2) cj.1) cs) hf hm (fun j v x hv hx=>hp (j+1) v x (by simpa using hv) (by simpa using hx)) (by
       rw [foldl_size,hs];simp only [List.length_append,List.length_take,List.length_drop];omega) (fun j u c hu hc=>by
       rw [foldl_set off vs 0 cs j] at hu
       simp only [Nat.add_zero] at hu
       split at hu
       ·rename_i hj
        rw [List.getElem?_append_left (by simp only [List.length_append,List.length_take];omega),List.getElem?_append_right (by simp only [List.length_take];omega)] at hc
        refine hden _ u c hu ?_
        rw [←hc];congr 1;simp only [List.length_take];omega
       ·rename_i hj
        have hjs:j<cs.size:=by
         rcases Nat.lt_or_ge j cs.size with h|h
         ·exact h
         ·rw [Array.getElem?_eq_none h] at hu;cases hu
        refine hd j u c hu ?_
        by_cases hjo:j<off
        ·rw [List.getElem?_append_left (by simp only [List.length_append,List.length_take];omega),List.getElem?_append_left (by simp only [List.length_take];omega),List.getElem?_take,if_pos hjo] at hc
         exact hc
        ·rw [List.getElem?_append_right (by simp only [List.length_append,List.length_take];omega),List.getElem?_drop] at hc
         rw [←hc];congr 1;simp only [List.length_append,List.length_take];omega)
     obtain ⟨us,hus,r⟩:=ih
     refine ⟨us,?_,r⟩
     have hvz:v.cells.size=l.length:=by rw [hvs];simpa using hlen
     unfold Instr.fill
     rw [hpl]
     simp only
     rw [if_neg (by rw [hvz,←h1,hs];simp;omega),hz]
     exact hus
    ·cases hf
   ·cases hf
def placesA (P:Program):List Field->Option (List (Nat×Nat))
 | []=>some []
 | f::l=>match sizeT P f.type,placesA P l with|some z,some m=>some ((f.offset,z)::m)|_,_=>none
theorem run_places {P:Program} {w:World}:∀(l:List Field) (m:List (Nat×Nat)),placesA P l=some m->(l.mapM fun f=>(do pure (f.offset,←sizeOf f.type):Sem (Nat×Nat))).run P w= .ok m w
 | [],m,h=>by cases h;rfl
 | f::l,m,h=>by
  simp only [placesA] at h
  split at h
  ·rename_i z q hz hq
   cases h
   have:=run_places (w:=w) l q hq
   have hz':(sizeOf f.type).run P w= .ok z w:=run_sizeOf hz
   simp only [List.mapM_cons,Sem.run_bind,hz',Result.andThen_ok,Sem.run_pure,this]
  ·cases h
def partsOf (s:AS):List (Nat×Operand)->List (Nat×AV)
 | []=>[]
 | (i,x)::l=>(i,opd s x)::partsOf s l
def evBuild (P:Program) (s:AS) (t:TypeId) (parts:List (Nat×Operand)):Option (AV×List Prop) :=
 match (P.info? t).bind (·.zero),P.underlying t with
 | some z,some (.struct fields)=>(match placesA P fields.toList with
  | some places=>(match fillA (fun i=>places[i]?) (z.cells.toList.map constAV0) (partsOf s parts) with|some l=>some (.agg l,[])|none=>none)
  | none=>none)
 | some z,some (.array _ el)=>(match sizeT P el with
  | some k=>(match fillA (fun i=>some (i*k,k)) (z.cells.toList.map constAV0) (partsOf s parts) with|some l=>some (.agg l,[])|none=>none)
  | none=>none)
 | _,_=>none
section
variable {P:Program} {s:AS} {o:Oper} {h:Hint} {r:AV×List Prop}
theorem partsOf_fst (parts:List (Nat×Operand)) (f:Operand->Value):(parts.map fun p=>(p.1,f p.2)).map (·.1)=(partsOf s parts).map (·.1):=by
 induction parts with
 | nil=>rfl
 | cons p l ih=>obtain ⟨i,x⟩:=p;simp only [List.map_cons,partsOf,ih]
theorem partsOf_den {S0:Zone} {w0 w:World} {n:Nat} {O:List Nat} {a:Act} {φ:Nat->Option Nat} (hs:SimO S0 w0 n O s a w φ):∀(parts:List (Nat×Operand)) (j:Nat) (v:Nat×Value) (x:Nat×AV),(parts.map fun p=>(p.1,a.eval p.2))[j]?=some v->(partsOf s parts)[j]?=some x->Den (infoOf s.H φ) (Free S0 w φ O) w v.2 x.2
 | [],j,v,x,hv,hx=>by simp at hv
 | (i,y)::l,j,v,x,hv,hx=>by
  cases j with
  | zero=>simp [partsOf] at hv hx;subst hv;subst hx;exact hs.opd y
  | succ j=>exact partsOf_den hs l j v x (by simpa using hv) (by simpa [partsOf] using hx)
theorem run_zero {w:World} {t:TypeId} {z:Value} (h:(P.info? t).bind (·.zero)=some z):(zeroValue t).run P w= .ok z w:=by
 cases hi:P.info? t with
 | none=>rw [hi] at h;cases h
 | some i=>rw [hi] at h;simp at h;simp [zeroValue,typeInfo,hi,h]
theorem zero_cells {I:Info} {S:Nat->Prop} {w:World} (z:Value) (j:Nat) (u:Value) (c:AV) (hu:z.cells[j]?=some u) (hc:(z.cells.toList.map constAV0)[j]?=some c):Den I S w u c:=by
 rw [List.getElem?_map] at hc
 have:z.cells.toList[j]?=some u:=by simpa using hu
 rw [this] at hc
 injection hc with hc;subst hc
 exact .rep (rep_const0 u)
theorem evBuild_ok {t:TypeId} {parts:Array (Nat×Operand)} (ho:o.op= .build t parts) (hr:evBuild P s t parts.toList=some r):PlainOK P s o r.1 r.2:=by
 intro hC S0 w0 n O a w φ hs
 unfold evBuild at hr
 have hpl:(parts.map fun p=>(p.1,a.eval p.2)).toList=parts.toList.map fun p=>(p.1,a.eval p.2):=by simp
 split at hr
 ·rename_i z fields hz hu
  split at hr
  ·rename_i places hp
   split at hr
   ·rename_i l hl
    injection hr with hr;subst hr
    obtain ⟨us,hus,hlen,hden⟩:=fill_ok (I:=infoOf s.H φ) (S:=Free S0 w φ O) (w:=w) (fun i=>places[i]?) (partsOf s parts.toList) (parts.toList.map fun p=>(p.1,a.eval p.2)) _ l z.cells hl (partsOf_fst _ _) (partsOf_den hs parts.toList) (by simp) (zero_cells z)
    refine ⟨.agg us.toArray,?_,.agg us l hlen hden⟩
    have hm:(fields.mapM fun f=>(do pure (f.offset,←sizeOf f.type):Sem (Nat×Nat))).run P w= .ok places.toArray w:=by
     rw [Array.mapM_eq_mapM_toList,Sem.run_map,run_places _ _ hp];rfl
    have hfill:Instr.fill (fun i=>places.toArray[i]?) z.cells (parts.map fun p=>(p.1,a.eval p.2)).toList=some us.toArray:=by
     rw [hpl,←hus];congr 1;funext i;simp
    unfold execOp
    simp only [ho,Instr.build,Sem.run_bind,run_zero hz,Result.andThen_ok,run_underlying hu]
    rw [hm]
    simp only [Result.andThen_ok]
    rw [hfill]
    rfl
   ·cases hr
  ·cases hr
 ·rename_i z n' el hz hu
  split at hr
  ·rename_i k hk
   split at hr
   ·rename_i l hl
    injection hr with hr;subst hr
    obtain ⟨us,hus,hlen,hden⟩:=fill_ok (I:=infoOf s.H φ) (S:=Free S0 w φ O) (w:=w) (fun i=>some (i*k,k)) (partsOf s parts.toList) (parts.toList.map fun p=>(p.1,a.eval p.2)) _ l z.cells hl (partsOf_fst _ _) (partsOf_den hs parts.toList) (by simp) (zero_cells z)
    refine ⟨.agg us.toArray,?_,.agg us l hlen hden⟩
    have hk':(sizeOf el).run P w= .ok k w:=run_sizeOf hk
    unfold execOp
    simp only [ho,Instr.build,Sem.run_bind,run_zero hz,Result.andThen_ok,run_underlying hu,hk']
    rw [hpl,hus]
    rfl
   ·cases hr
  ·cases hr
 ·cases hr
def evPlain (P:Program) (s:AS) (o:Oper) (h:Hint):Option (AV×List Prop) :=
 match o.op with
 | .move x=>some (fin h (opd s x,[]))
 | .assign x=>some (fin h (opd s x,[]))
 | .binOp op t x y _=>(match opd s x,opd s y with
  | .val u,.val v=>(match evBin P op t x y u v with|some r=>some (fin h r)|none=>none)
  | .agg cs,.agg ds=>(match evEqAgg P op t cs ds with|some r=>some (fin h r)|none=>none)
  | .arr cs,.arr ds=>evEqArr P op t cs ds h
  | _,_=>none)
 | .unOp op _ x=>(match opd s x with| .val u=>(match evUn P op u with|some r=>some (fin h r)|none=>none)|_=>none)
 | .convert src dst x=>evConv P s src dst (opd s x) h
 | .load t x=>evLoad P s t (opd s x) h
 | .fieldAddr t x f=>evFieldAddr P t (opd s x) f
 | .indexAddr t x i=>(match opd s i with| .val (.int _ n)=>evIdx P s t (opd s x) n h|_=>none)
 | .index t x i=>(match opd s i with| .val (.int _ n)=>evIndex P t (opd s x) n h|_=>none)
 | .slice t x lo hi mx=>(match cutOf s lo hi mx with|some c=>evSlice P s t (opd s x) c h|none=>none)
 | .field t x f=>evField P t (opd s x) f h
 | .extract x i=>evExtract (opd s x) i
 | .nilCheck x=>evNil (opd s x)
 | .pick c x y=>(match evPick s c x y h with|some r=>some (fin h r)|none=>none)
 | .build t parts=>evBuild P s t parts.toList
 | .sliceToArrayPointer t x=>evArrAt P s t (opd s x)
 | .call ⟨.builtin .len,⟨[x]⟩,ts⟩=>evLen P s ts o.type (opd s x) h
 | .call ⟨.builtin b,xs,ts⟩=>(match valsOf s xs.toList with|some us=>(match evMM P b ts o.type us with|some r=>some (fin h r)|none=>none)|none=>none)
 | _=>none
theorem evPlain_ok (hr:evPlain P s o h=some r):PlainOK P s o r.1 r.2:=by
 unfold evPlain at hr
 split at hr
 ·rename_i x ho
  injection hr with hr;subst hr
  refine fin_ok fun _ S0 w0 n O a w φ hs=>⟨a.eval x,?_,hs.opd x⟩
  unfold execOp;simp only [ho];rfl
 ·rename_i x ho
  injection hr with hr;subst hr
  refine fin_ok fun _ S0 w0 n O a w φ hs=>⟨a.eval x,?_,hs.opd x⟩
  unfold execOp;simp only [ho];rfl
 ·rename_i op t x y t' ho
  split at hr
  ·rename_i u v hu hv
   split at hr
   ·rename_i q hq
    injection hr with hr;subst hr
    exact fin_ok (evBin_ok ho hu hv hq)
   ·cases hr
  ·rename_i cs ds hu hv
   split at hr
   ·rename_i q hq
    injection hr with hr;subst hr
    exact fin_ok (evEqAgg_ok ho hu hv hq)
   ·cases hr
  ·rename_i cs ds hu hv
   exact evEqArr_ok ho hu hv hr
  ·cases hr
 ·rename_i op t x ho
  split at hr
  ·rename_i u hu
   split at hr
   ·rename_i q hq
    injection hr with hr;subst hr
    exact fin_ok (evUn_ok ho hu hq)
   ·cases hr
  ·cases hr
 ·rename_i ho;exact evConv_ok ho hr
 ·rename_i ho;exact evLoad_ok ho hr
 ·rename_i ho;exact evFieldAddr_ok ho hr
 ·rename_i ho
  split at hr
  ·rename_i hi;exact evIdx_ok ho hi hr
  ·cases hr
 ·rename_i ho
  split at hr
  ·rename_i hi;exact evIndex_ok ho hi hr
  ·cases hr
 ·rename_i ho
  split at hr
  ·rename_i hc;exact evSlice_ok ho hc hr
  ·cases hr
 ·rename_i ho;exact evField_ok ho hr
 ·rename_i ho;exact evExtract_ok ho hr
 ·rename_i ho;exact evNil_ok ho hr
 ·rename_i ho
  split at hr
  ·rename_i q hq
   injection hr with hr;subst hr
   exact fin_ok (evPick_ok ho hq)
  ·cases hr
 ·rename_i ho;exact evBuild_ok ho hr
 ·rename_i ho;exact evArrAt_ok ho hr
 ·rename_i ho;exact evLen_ok ho hr
 ·rename_i b xs ts _ ho
  split at hr
  ·rename_i us hu
   split at hr
   ·rename_i q hq
    injection hr with hr;subst hr
    exact fin_ok (evMM_ok ho hu hq)
   ·cases hr
  ·cases hr
 ·cases hr
end
end Go.Proofs.YtejpabdmiagnnaaGreatDoor
namespace Go.Proofs.YtejpabdmiagnnaaGreatDoor
open Go.RowKit
def OpOK (P:Program) (n:Nat) (s:AS) (o:Oper) (s':AS) (C:List Prop):Prop :=
 AllP C-> ∀S0 w0 a w Q,Sim S0 w0 n s a w->o.wp P a w (fun a' w'=>Sim S0 w0 n s' a' w') Q
def putD (n:Nat) (s:AS) (d:Option Nat) (x:AV):Option AS :=
 match d with
 | none=>some s
 | some d=>(match Nat.blt d n,Nat.ble n 1000000000 with|true,true=>some (setF s d x)|_,_=>none)
theorem putD_ok {S0:Zone} {w0 w:World} {n:Nat} {O:List Nat} {s s':AS} {a:Act} {φ:Nat->Option Nat} {d:Option Nat} {v:Value} {x:AV} (h:SimO S0 w0 n O s a w φ) (hx:Den (infoOf s.H φ) (Free S0 w φ O) w v x) (hp:putD n s d x=some s'):SimO S0 w0 n O s' (a.put d v) w φ:=by
 unfold putD at hp
 split at hp
 ·injection hp with hp;subst hp
  exact ⟨h.tsz,h.dfr,h.bel,h.slots,h.rows,h.only,h.inj,h.rng,h.apart,h.new⟩
 ·split at hp
  ·rename_i d _ _ hb _
   injection hp with hp;subst hp
   have hd:d<n:=by simpa [Nat.blt_eq] using hb
   exact h.put hd hx
  ·cases hp
theorem wp_of_run {P:Program} {o:Oper} {a:Act} {w w':World} {v:Value} {next:Act->World->Prop} {Q:Exit->Act->World->Prop} (hrun:(execOp a.eval o).run P w= .ok (.value v) w') (hn:next (a.put o.dst v) w'):o.wp P a w next Q:=by
 unfold Oper.wp
 rw [hrun]
 exact hn
theorem putD_lt {n:Nat} {s s':AS} {d:Nat} {x:AV} (hp:putD n s (some d) x=some s'):d<1000000000000:=by
 unfold putD at hp
 simp only at hp
 split at hp
 ·rename_i h1 h2
  have h1:d<n:=by simpa [Nat.blt_eq] using h1
  have h2:=Nat.le_of_ble_eq_true h2
  omega
 ·cases hp
theorem plain_op {P:Program} {n:Nat} {s s':AS} {o:Oper} {x:AV} {C:List Prop} (h:PlainOK P s o x C) (hp:putD n s o.dst x=some s'):OpOK P n s o s' C:=by
 intro hC S0 w0 a w Q ⟨φ,hs⟩
 obtain ⟨v,hrun,hden⟩:=h hC S0 w0 n [] a w φ hs
 unfold Oper.wp
 rw [hrun]
 exact ⟨φ,putD_ok hs hden hp⟩
def named (h:Hint) (cells:List AV):List AV×List Prop:=match h.av with|some (.arr row)=>(row,[cells=row])|_=>(cells,[])
theorem named_ok {h:Hint} {cells:List AV} {C:List Prop} (hC:AllP ((named h cells).2++C)):(named h cells).1=cells∧AllP C:=by
 unfold named at *
 split at hC
 ·exact ⟨hC.1.symm,hC.2⟩
 ·exact ⟨rfl,hC⟩
def install (s:AS) (id:Nat) (r:Row):AS:=⟨(retire id s).F,(id,r)::(retire id s).H⟩
section
variable {S0:Zone} {w0 w w':World} {n:Nat} {s:AS} {a:Act} {φ:Nat->Option Nat}
theorem SimO.retire0 (h:SimO S0 w0 n [] s a w φ) (id:Nat):SimO S0 w0 n [] (retire id s) a w (erase φ id):=by
 cases hφ:φ id with
 | none=>exact h.retire_ id [] (by rw [hφ])
 | some g=>exact (h.retire_ id [g] (by rw [hφ])).free_
theorem look_retire_none (id:Nat):look (retire id s).H id=none:=by
 unfold retire;rw [look_mapv,look_drop,if_pos rfl];rfl
theorem SimO.fresh (h:SimO S0 w0 n [] s a w φ) (id:Nat) (r:Row) (hid:id<1000000000000) (hos:w'.os=w.os) (htape:w'.tape=w.tape) (hout:w'.output=w.output) (hsz:w.heap.size<w'.heap.size) (hb:∀b,b<w.heap.size->w'.heap[b]?=w.heap[b]?)
  {cur:Array Value} {te:TypeId} {fr:Nat×Nat} (hg:w'.heap[w.heap.size]?=some (.cells cur te fr)) (hfr:∀j,j<cur.size-> ¬(fr.1≤j∧j<fr.2)) (hl:r.cells.length≤cur.size) (hfu:r.full=true->cur.size=r.cells.length)
  (hc:∀(j:Nat) u x,cur[j]?=some u->r.cells[j]?=some x->(r.pure=true->Rep (Free S0 w φ []) w u x)∧(r.pure=false-> ∃y,x=kill0 id y∧Den (infoOf s.H φ) (Free S0 w φ []) w u y)) :
  SimO S0 w0 n [] (install s id r) a w' (bind_ (erase φ id) id w.heap.size):=by
 have h1:=h.retire0 id
 have h2:=h1.await w.heap.size (Nat.le_refl _)
 have h3:=h2.touch (w':=w') (fun g hg=>by simp at hg;rw [hg];exact .inl h.bel.size) hos htape hout (Nat.le_of_lt hsz) (fun b hb1 _=>hb b hb1)
 have hF0:∀b,Free S0 w φ [] b->Free S0 w (erase φ id) [] b:=by
  intro b ⟨h1,h2,h3,h4⟩
  refine ⟨h1,h2,fun i hi=>?_,h4⟩
  unfold erase at hi
  split at hi
  ·cases hi
  ·exact h3 i hi
 have hF:∀b,Free S0 w (erase φ id) [] b->Free S0 w' (erase φ id) [w.heap.size] b∧w'.heap[b]?=w.heap[b]?:=by
  intro b ⟨h1,h2,h3⟩
  exact ⟨⟨by omega,by simp;omega,h3⟩,hb b h1⟩
 refine h3.adopt ⟨.inl hid,.inl h.bel.size⟩ hsz (by simp) (look_retire_none id) ⟨cur,te,fr,hg,hfr,hl,hfu,fun j u x hu hx=>?_⟩
 obtain ⟨hp,hi⟩:=hc j u x hu hx
 unfold CellDen
 cases hpure:r.pure with
 | true=>exact ((hp hpure).mono fun b hb=>⟨hF0 b hb,rfl⟩).mono hF
 | false =>
  obtain ⟨y,rfl,hy⟩:=hi hpure
  have hk:=(kill0_ok id (info_retire id) hF0).all hy
  exact hk.mono (fun _ _ h=>h) hF (fun i e m g hi=>by
   obtain ⟨q,-,-,-,hg⟩:=info_some hi
   unfold cellsLen;rw [hb g (h1.rng i g hg).2])
theorem info_install (id:Nat) (r:Row) (g:Nat):infoOf (install s id r).H (bind_ (erase φ id) id g) id=some (r.e,r.cells.length,some g):=by
 rw [info_of (r:=r) (by unfold install;rw [look_cons,if_pos rfl])]
 unfold bind_;rw [if_pos rfl]
end
def boxE (P:Program) (t:TypeId):Nat:=match P.underlying t with|some (.array _ el)=>(match sizeT P el with|some k=>k|none=>1)|_=>1
theorem map_range0 {α:Type} (f:Nat->α):(Array.range 0).map f= #[]:=Array.eq_empty_of_size_eq_zero (by simp)
def evAlloc (P:Program) (n:Nat) (s:AS) (d t:Nat) (h:Hint):Option (AS×List Prop) :=
 match (P.info? t).bind (·.zero) with
 | some z=>(match h.av with
  | some (.arr row)=>(match putD n (install s d ⟨boxE P t,true,true,row⟩) (some d) (.addr d 0) with|some s'=>some (s',[z.cells.toList.map constAV0=row])|none=>none)
  | _=>(match putD n (install s d ⟨boxE P t,false,true,z.cells.toList.map constAV0⟩) (some d) (.addr d 0) with|some s'=>some (s',[])|none=>none))
 | none=>none
theorem heap_push (w:World) (o:Obj):({w with heap:=w.heap.push o}:World).heap[w.heap.size]?=some o:=by simp
theorem heap_push_lt (w:World) (o:Obj) (b:Nat) (h:b<w.heap.size):({w with heap:=w.heap.push o}:World).heap[b]?=w.heap[b]?:=by
 show (w.heap.push o)[b]?=_
 rw [Array.getElem?_push,if_neg (by omega)]
section
variable {P:Program} {n:Nat} {s:AS} {o:Oper} {h:Hint} {q:AS×List Prop}
theorem kill_const (id:Nat) (v:Value):kill0 id (constAV0 v)=constAV0 v:=by
 unfold constAV0
 split<;>rfl
theorem evAlloc_ok {t d:Nat} (ho:o.op= .alloc t) (hd:o.dst=some d) (hr:evAlloc P n s d t h=some q):OpOK P n s o q.1 q.2:=by
 intro hC S0 w0 a w Q ⟨φ,hs⟩
 unfold evAlloc at hr
 split at hr
 ·rename_i z hz
  have hrun:(execOp a.eval o).run P w= .ok (.value (.pointer (some ⟨w.heap.size,0,none⟩))) {w with heap:=w.heap.push (.cells z.cells t (0,0))}:=by
   unfold execOp
   simp [ho,Instr.alloc,run_zero hz,newVar,newRow]
  refine wp_of_run hrun ?_
  rw [hd]
  split at hr
  ·rename_i row _
   split at hr
   ·rename_i s' hs'
    injection hr with hr;subst hr
    have e:=hC.1
    have h1:=hs.fresh (w':={w with heap:=w.heap.push (.cells z.cells t (0,0))}) d ⟨boxE P t,true,true,row⟩ (putD_lt hs') rfl rfl rfl (by simp) (heap_push_lt w _) (heap_push w _) (by simp) (by simp [←e]) (by simp [←e]) (fun j u x hu hx=>⟨fun _=>by
     simp only [←e,List.getElem?_map] at hx
     have:z.cells.toList[j]?=some u:=by simpa using hu
     rw [this] at hx;injection hx with hx;subst hx;exact rep_const0 u,fun h=>by cases h⟩)
    exact ⟨_,putD_ok h1 (.addr d 0 _ _ _ (info_install d _ _)) hs'⟩
   ·cases hr
  ·split at hr
   ·rename_i s' hs'
    injection hr with hr;subst hr
    have h1:=hs.fresh (w':={w with heap:=w.heap.push (.cells z.cells t (0,0))}) d ⟨boxE P t,false,true,z.cells.toList.map constAV0⟩ (putD_lt hs') rfl rfl rfl (by simp) (heap_push_lt w _) (heap_push w _) (by simp) (by simp) (by simp) (fun j u x hu hx=>⟨fun h=>(by cases h),fun _=>by
     simp only [List.getElem?_map] at hx
     have:z.cells.toList[j]?=some u:=by simpa using hu
     rw [this] at hx;injection hx with hx;subst hx
     exact ⟨constAV0 u,(kill_const d u).symm,.rep (rep_const0 u)⟩⟩)
    exact ⟨_,putD_ok h1 (.addr d 0 _ _ _ (info_install d _ _)) hs'⟩
   ·cases hr
 ·cases hr
def evBox (P:Program) (n:Nat) (s:AS) (d t:Nat) (x:AV):Option (AS×List Prop) :=
 match x with
 | .arr row=>(match putD n (install s d ⟨boxE P t,true,true,row⟩) (some d) (.addr d 0) with|some s'=>some (s',[])|none=>none)
 | x=>(match avCells x with
  | some l=>(match putD n (install s d ⟨boxE P t,false,true,l.map (kill0 d)⟩) (some d) (.addr d 0) with|some s'=>some (s',[])|none=>none)
  | none=>none)
theorem evBox_ok {t d:Nat} {x:Operand} (ho:o.op= .box t x) (hd:o.dst=some d) (hr:evBox P n s d t (opd s x)=some q):OpOK P n s o q.1 q.2:=by
 intro hC S0 w0 a w Q ⟨φ,hs⟩
 have hx:=hs.opd x
 have hrun:(execOp a.eval o).run P w= .ok (.value (.pointer (some ⟨w.heap.size,0,none⟩))) {w with heap:=w.heap.push (.cells (a.eval x).cells t (0,0))}:=by
  unfold execOp
  simp [ho,Instr.box,newVar,newRow]
 refine wp_of_run hrun ?_
 rw [hd]
 unfold evBox at hr
 split at hr
 ·rename_i row he
  split at hr
  ·rename_i s' hs'
   injection hr with hr;subst hr
   rw [he] at hx
   obtain ⟨vs,hv,hl,hrep⟩:=den_arr hx
   have hcells:(a.eval x).cells=vs.toArray:=by rw [hv];rfl
   rw [hcells]
   have h1:=hs.fresh (w':={w with heap:=w.heap.push (.cells vs.toArray t (0,0))}) d ⟨boxE P t,true,true,row⟩ (putD_lt hs') rfl rfl rfl (by simp) (heap_push_lt w _) (heap_push w _) (by simp) (by simp [hl]) (by simp [hl]) (fun j u x hu hx=>⟨fun _=>hrep j u x (by simpa using hu) hx,fun h=>by cases h⟩)
   exact ⟨_,putD_ok h1 (.addr d 0 _ _ _ (info_install d _ _)) hs'⟩
  ·cases hr
 ·split at hr
  ·rename_i l hl
   split at hr
   ·rename_i s' hs'
    injection hr with hr;subst hr
    obtain ⟨vs,hcells,hlen,hden⟩:=den_cells hx hl
    rw [hcells]
    have h1:=hs.fresh (w':={w with heap:=w.heap.push (.cells vs.toArray t (0,0))}) d ⟨boxE P t,false,true,l.map (kill0 d)⟩ (putD_lt hs') rfl rfl rfl (by simp) (heap_push_lt w _) (heap_push w _) (by simp) (by simp [hlen]) (by simp [hlen]) (fun j u x hu hx=>⟨fun h=>(by cases h),fun _=>by
     simp only [List.getElem?_map] at hx
     cases hj:l[j]? with
     | none=>rw [hj] at hx;cases hx
     | some y=>rw [hj] at hx;injection hx with hx;subst hx;exact ⟨y,rfl,hden j u y (by simpa using hu) hj⟩⟩)
    exact ⟨_,putD_ok h1 (.addr d 0 _ _ _ (info_install d _ _)) hs'⟩
   ·cases hr
  ·cases hr
def ids0:AV->List Nat
 | .ref i=>[i]
 | .pre i _=>[i]
 | .win i _ _=>[i]
 | .addr i _=>[i]
 | _=>[]
def ids1:AV->List Nat
 | .agg cs=>cs.flatMap ids0
 | x=>ids0 x
def thawAll:AS->List Nat->Option AS
 | s,[]=>some s
 | s,i::l=>match look s.H i with
  | some r=>(match r.pure with|true=>thawAll (thaw i r s) l|false=>none)
  | none=>thawAll s l
theorem thawAll_ok {S0:Zone} {w0 w:World} {a:Act}:∀(l:List Nat) (s s':AS) (φ:Nat->Option Nat),thawAll s l=some s'->SimO S0 w0 n [] s a w φ-> ∃ φ',SimO S0 w0 n [] s' a w φ'
 | [],s,s',φ,h,hs=>by cases h;exact ⟨φ,hs⟩
 | i::l,s,s',φ,h,hs=>by
  simp only [thawAll] at h
  split at h
  ·rename_i r hr
   split at h
   ·rename_i hp
    exact thawAll_ok l _ s' _ h (hs.thaw_ hr hp)
   ·cases h
  ·exact thawAll_ok l s s' φ h hs
def plain0:AV->Bool
 | .val u=>u.oneCell'
 | .nil=>true
 | .sl _ _=>true
 | .ptr _ _=>true
 | .clo _ _=>true
 | _=>false
def plainL:List AV->Bool
 | []=>true
 | x::l=>match plain0 x with|true=>plainL l|false=>false
theorem plain0_rep {I:Info} {S:Nat->Prop} {w:World} {v:Value} {x:AV} (hd:Den I S w v x) (hp:plain0 x=true):Rep S w v x∧v.oneCell'=true:=by
 cases hd with
 | rep h=>refine ⟨h,?_⟩;cases h<;>first|exact hp|rfl|cases hp
 | _=>cases hp
theorem plainL_at:∀ {l:List AV} {j:Nat} {x:AV},plainL l=true->l[j]?=some x->plain0 x=true
 | [],j,x,_,h=>by simp at h
 | y::l,j,x,hp,h=>by
  simp only [plainL] at hp
  split at hp
  ·rename_i hy
   cases j with
   | zero=>simp at h;subst h;exact hy
   | succ j=>exact plainL_at hp (by simpa using h)
  ·cases hp
def litCells (s:AS) (z:Nat):Nat->List (Nat×Operand)->Option (List AV)
 | _,[]=>some []
 | i,(j,x)::l=>match Nat.beq i j,avCells (opd s x),litCells s z (i+1) l with
  | true,some c,some m=>(match Nat.beq c.length z with|true=>some (c++m)|false=>none)
  | _,_,_=>none
def evLit (P:Program) (n:Nat) (s:AS) (d t len:Nat) (parts:List (Nat×Operand)) (h:Hint):Option (AS×List Prop) :=
 match P.underlying t with
 | some (.slice el)=>(match sizeT P el,(P.info? el).bind (·.zero),thawAll s (parts.flatMap fun p=>ids1 (opd s p.2)) with
  | some (z+1),some zero,some s1=>(match litCells s1 (z+1) 0 parts,Nat.beq parts.length len,Nat.ble (len*(z+1)) 16777216 with
   | some cells,true,true=>(match Nat.beq zero.cells.size (z+1) with
    | true=>(match h.av with
     | some (.arr row)=>(match plainL cells,putD n (install s1 d ⟨z+1,true,true,row⟩) (some d) (.ref d) with|true,some s'=>some (s',[cells=row])|_,_=>none)
     | _=>(match plainL cells,putD n (install s1 d ⟨z+1,true,true,cells⟩) (some d) (.ref d) with|true,some s'=>some (s',[])|_,_=>none))
    | false=>none)
   | _,_,_=>none)
  | _,_,_=>none)
 | _=>none
theorem lit_ok {S0:Zone} {w0 w:World} {a:Act} {φ:Nat->Option Nat} (hs:SimO S0 w0 n [] s a w φ) (z:Nat):∀(parts:List (Nat×Operand)) (i:Nat) (cells:List AV) (cur:Array Value),litCells s z i parts=some cells->plainL cells=true->i*z+parts.length*z=cur.size ->
  cells.length=parts.length*z∧ ∃us:Array Value,Instr.fill (fun i=>some (i*z,z)) cur (parts.map fun p=>(p.1,a.eval p.2))=some us∧us.size=cur.size∧(∀j,j<i*z->us[j]?=cur[j]?)∧ ∀(j:Nat) u x,us[i*z+j]?=some u->cells[j]?=some x->Rep (Free S0 w φ []) w u x
 | [],i,cells,cur,hc,hp,hsz=>by cases hc;exact ⟨by simp,cur,rfl,rfl,fun _ _=>rfl,fun j u x _ hx=>by simp at hx⟩
 | (j,x)::l,i,cells,cur,hc,hp,hsz=>by
  simp only [litCells] at hc
  split at hc
  ·rename_i c m hij hcx hm
   split at hc
   ·rename_i hcz
    cases hc
    have hij:=Nat.eq_of_beq_eq_true hij
    have hcz:=Nat.eq_of_beq_eq_true hcz
    subst hij
    obtain ⟨vs,hv,hlen,hden⟩:=den_cells (hs.opd x) hcx
    have hpm:plainL m=true:=by
     have key:∀(c m:List AV),plainL (c++m)=true->plainL m=true:=by
      intro c
      induction c with
      | nil=>intro m h;exact h
      | cons y c ih =>
       intro m h
       simp only [List.cons_append,plainL] at h
       split at h
       ·exact ih m h
       ·cases h
     exact key c m hp
    simp only [List.length_cons] at hsz
    have hz2:(l.length+1)*z=l.length*z+z:=by rw [Nat.add_mul,Nat.one_mul]
    have hi2:(i+1)*z=i*z+z:=by rw [Nat.add_mul,Nat.one_mul]
    have hfold:((a.eval x).cells.zipIdx.foldl (fun cs (cj:Value×Nat)=>cs.setIfInBounds (i*z+cj.2) cj.1) cur)=(vs.zipIdx.foldl (fun cs (cj:Value×Nat)=>cs.setIfInBounds (i*z+cj.2) cj.1) cur):=by rw [hv];simp
    obtain ⟨hl1,us,hus,hus1,hus2,hus3⟩:=lit_ok hs z l (i+1) m (vs.zipIdx.foldl (fun cs (cj:Value×Nat)=>cs.setIfInBounds (i*z+cj.2) cj.1) cur) hm hpm (by rw [foldl_size];omega)
    rw [foldl_size] at hus1
    refine ⟨by rw [List.length_append,List.length_cons,hl1,hcz];omega,us,?_,hus1,fun j hj=>?_,fun j u y hu hy=>?_⟩
    ·rw [List.map_cons]
     unfold Instr.fill
     simp only
     have hvz:(a.eval x).cells.size=z:=by rw [hv];simp;omega
     rw [if_neg (by rw [hvz];simp;omega),hfold]
     exact hus
    ·rw [hus2 j (by omega),foldl_set,if_neg (by omega)]
    ·by_cases hj:j<z
     ·rw [hus2 _ (by omega),foldl_set,if_pos (by omega)] at hu
      rw [List.getElem?_append_left (by omega)] at hy
      have hu':vs[j]?=some u:=by rw [←hu];congr 1;omega
      exact (plain0_rep (hden j u y hu' hy) (plainL_at (l:=c++m) (j:=j) hp (by rw [List.getElem?_append_left (by omega)];exact hy))).1
     ·rw [List.getElem?_append_right (by omega)] at hy
      refine hus3 (j-z) u y ?_ (by rw [←hy,hcz])
      rw [←hu];congr 1;omega
   ·cases hc
  ·cases hc
theorem evLit_ok {t d len:Nat} {parts:Array (Nat×Operand)} (ho:o.op= .buildSlice t len parts) (hd:o.dst=some d) (hr:evLit P n s d t len parts.toList h=some q):OpOK P n s o q.1 q.2:=by
 intro hC S0 w0 a w Q ⟨φ0,hs0⟩
 unfold evLit at hr
 split at hr
 ·rename_i el hu
  split at hr
  ·rename_i z zero s1 hz hzero hthaw
   obtain ⟨φ,hs⟩:=thawAll_ok _ _ _ _ hthaw hs0
   split at hr
   ·rename_i cells hcells hlen hbig
    split at hr
    ·rename_i hzs
     have hzs:=Nat.eq_of_beq_eq_true hzs
     have hlen:=Nat.eq_of_beq_eq_true hlen
     have hbig:len*(z+1)≤16777216:=Nat.le_of_ble_eq_true hbig
     have hrun:plainL cells=true-> ∃us:Array Value,(execOp a.eval o).run P w= .ok (.value (.slice (some ⟨w.heap.size,0,none⟩) len len)) {w with heap:=w.heap.push (.cells us el (0,0))}∧us.size=cells.length∧cells.length=(z+1)*len∧ ∀(j:Nat) u x,us[j]?=some u->cells[j]?=some x->Rep (Free S0 w φ []) w u x:=by
      intro hp
      obtain ⟨h1,us,h2,h3,-,h4⟩:=lit_ok hs (z+1) parts.toList 0 cells ((Array.range (len*(z+1))).map (zero.cells[· %zero.cells.size]!)) hcells hp (by simp [←hlen])
      refine ⟨us,?_,by rw [h3,h1,hlen];simp,by rw [h1,hlen,Nat.mul_comm],fun j u x hu hx=>h4 j u x (by simpa using hu) hx⟩
      have hz':(sizeOf el).run P w= .ok (z+1) w:=run_sizeOf hz
      have hpl:(parts.map fun p=>(p.1,a.eval p.2)).toList=parts.toList.map fun p=>(p.1,a.eval p.2):=by simp
      unfold execOp
      simp only [ho,Instr.buildSlice,Sem.run_bind,run_underlying hu,Result.andThen_ok,hz',Sem.run_ite]
      rw [if_neg (by omega)]
      by_cases h0:len*(z+1)=0
      ·rw [if_pos h0]
       simp only [Sem.run_pure,Result.andThen_ok]
       have:(Array.range (len*(z+1))).map (fun x=>(#[]:Array Value)[x%(#[]:Array Value).size]!)=(Array.range (len*(z+1))).map (fun x=>zero.cells[x%zero.cells.size]!):=by rw [h0,map_range0,map_range0]
       rw [this,hpl,h2]
       rfl
      ·rw [if_neg h0]
       simp only [run_zero hzero,Result.andThen_ok,Sem.run_pure]
       rw [hpl,h2]
       rfl
     have hm:len≤maxLen:=by
      have:len≤len*(z+1):=Nat.le_mul_of_pos_right _ (by omega)
      unfold maxLen;omega
     split at hr
     ·rename_i row _
      split at hr
      ·rename_i s' hp hs'
       injection hr with hr;subst hr
       obtain ⟨us,hrun,h1,h2,h3⟩:=hrun hp
       have e:=hC.1
       subst e
       refine wp_of_run hrun ?_
       rw [hd]
       have hf:=hs.fresh (w':={w with heap:=w.heap.push (.cells us el (0,0))}) d ⟨z+1,true,true,cells⟩ (putD_lt hs') rfl rfl rfl (by simp) (heap_push_lt w _) (heap_push w _) (by simp) (by simp [h1]) (by simp [h1]) (fun j u x hu hx=>⟨fun _=>h3 j u x hu hx,fun h=>by cases h⟩)
       exact ⟨_,putD_ok hf (.ref d _ _ _ len len (info_install d _ _) h2 (Nat.le_refl _) hm (by unfold cellsLen;rw [heap_push];show us.size=_;rw [h1,h2])) hs'⟩
      ·cases hr
     ·split at hr
      ·rename_i s' hp hs'
       injection hr with hr;subst hr
       obtain ⟨us,hrun,h1,h2,h3⟩:=hrun hp
       refine wp_of_run hrun ?_
       rw [hd]
       have hf:=hs.fresh (w':={w with heap:=w.heap.push (.cells us el (0,0))}) d ⟨z+1,true,true,cells⟩ (putD_lt hs') rfl rfl rfl (by simp) (heap_push_lt w _) (heap_push w _) (by simp) (by simp [h1]) (by simp [h1]) (fun j u x hu hx=>⟨fun _=>h3 j u x hu hx,fun h=>by cases h⟩)
       exact ⟨_,putD_ok hf (.ref d _ _ _ len len (info_install d _ _) h2 (Nat.le_refl _) hm (by unfold cellsLen;rw [heap_push];show us.size=_;rw [h1,h2])) hs'⟩
      ·cases hr
    ·cases hr
   ·cases hr
  ·cases hr
 ·cases hr
def zrow (zs:List AV) (k:Nat):List AV:=match zs with| [x]=>List.replicate k x|zs=>(List.replicate k zs).flatten
theorem flat_at (zs:List AV) (e:Nat) (he:zs.length=e) (h0:0<e):∀(k j:Nat) (x:AV),((List.replicate k zs).flatten)[j]?=some x->zs[j%e]?=some x
 | 0,j,x,h=>by simp at h
 | k+1,j,x,h=>by
  rw [List.replicate_succ,List.flatten_cons] at h
  by_cases hj:j<e
  ·rw [List.getElem?_append_left (by omega)] at h
   rw [Nat.mod_eq_of_lt hj];exact h
  ·rw [List.getElem?_append_right (by omega)] at h
   have:=flat_at zs e he h0 k _ x h
   rw [he] at this
   rw [show j%e=(j-e)%e from ?_]
   ·exact this
   ·rw [Nat.mod_eq_sub_mod (by omega)]
theorem zrow_at (zs:List AV) (e:Nat) (he:zs.length=e) (h0:0<e) (k j:Nat) (x:AV) (h:(zrow zs k)[j]?=some x):zs[j%e]?=some x:=by
 unfold zrow at h
 split at h
 ·simp at he
  subst he
  rw [List.getElem?_replicate] at h
  split at h
  ·injection h with h;subst h;simp [Nat.mod_one]
  ·cases h
 ·exact flat_at zs e he h0 k j x h
theorem zrow_len (zs:List AV) (e:Nat) (he:zs.length=e) (k:Nat):(zrow zs k).length=e*k:=by
 unfold zrow
 split
 ·simp at he;subst he;simp
 ·rw [List.length_flatten];simp [he,Nat.mul_comm]
def evMake (P:Program) (n:Nat) (s:AS) (d t:Nat) (L C:Int) (h:Hint):Option (AS×List Prop) :=
 match P.underlying t with
 | some (.slice el)=>(match P.info? el with
  | some i=>(match i.zero,i.size with
   | some zero,z+1=>(match Nat.beq zero.cells.size (z+1) with
    | true=>(match putD n (install s d ⟨z+1,true,false,(named h (zrow (zero.cells.toList.map constAV0) h.k)).1⟩) (some d) (.ref d) with
     | some s'=>some (s',(named h (zrow (zero.cells.toList.map constAV0) h.k)).2++ [L=(h.k:Int),C=(h.m:Int),h.k≤h.m,i.bytes*h.m≤281474976710656,h.m≤maxLen])|none=>none)
    | false=>none)
   | _,_=>none)
  | none=>none)
 | _=>none
theorem run_make {P:Program} {o:Oper} {ev:Operand->Value} {t:Nat} {l c:Operand} {kl kc:IntKind} {L C:Int} {el:TypeId} {i:TypeInfo} {zero:Value} {z k m:Nat} (ho:o.op= .makeSlice t l c) (el':ev l= .int kl L) (ec:ev c= .int kc C) (hu:P.underlying t=some (.slice el)) (hi:P.info? el=some i) (hz:i.zero=some zero) (hsz:i.size=z+1) (hb:zero.cells.size=z+1)
  (h1:L=(k:Int)) (h2:C=(m:Int)) (h3:k≤m) (h4:i.bytes*m≤281474976710656) (h5:m≤maxLen) (w:World) :
  ∃cur:Array Value,(execOp ev o).run P w= .ok (.value (.slice (some ⟨w.heap.size,0,none⟩) k m)) {w with heap:=w.heap.push (.cells cur el (0,0))}∧cur.size=(z+1)*m∧ ∀(j:Nat) u,cur[j]?=some u->zero.cells[j%(z+1)]?=some u:=by
 have hmx:m≤9223372036854775807:=by have:=h5;unfold maxLen at this;omega
 have wl:IntKind.i64.wrap L=(k:Int):=by rw [h1,IntKind.wrap_i64];omega
 have wc:IntKind.i64.wrap C=(m:Int):=by rw [h2,IntKind.wrap_i64];omega
 have hbm:((i.bytes:Int)*(m:Int))≤281474976710656:=by
  have h4':((i.bytes*m:Nat):Int)≤281474976710656:=by omega
  rw [Int.natCast_mul] at h4';exact h4'
 have hzv:(zeroValue el).run P w= .ok zero w:=run_zero (by rw [hi];exact hz)
 have hso:(sizeOf el).run P w= .ok (z+1) w:=by simp [sizeOf,typeInfo,hi,hsz]
 have hti:(typeInfo el).run P w= .ok i w:=by simp [typeInfo,hi]
 have t1:¬((m:Int)<0):=by omega
 have t2:¬(281474976710656<(i.bytes:Int)*(m:Int)):=by omega
 have t3:¬((k:Int)<0):=by omega
 have t4:¬((m:Int)<(k:Int)):=by omega
 by_cases h0:m*(z+1)=0
 ·refine ⟨#[],?_,by rw [Nat.mul_comm];simp [h0],fun j u hu=>by simp at hu⟩
  unfold execOp
  simp [ho,el',ec,Instr.makeSlice,run_underlying hu,hti,hso,asInt,asIntOf,wl,wc,t1,t2,t3,t4,newRow]
  have:m=0:=by
   rcases Nat.eq_zero_or_pos m with h6|h6
   ·exact h6
   ·have:=Nat.mul_pos h6 (show 0<z+1 by omega);omega
  simp [this,map_range0]
 ·refine ⟨(Array.range (m*(z+1))).map (zero.cells[· %zero.cells.size]!),?_,by simp [Nat.mul_comm],fun j u hu=>?_⟩
  ·unfold execOp
   simp [ho,el',ec,Instr.makeSlice,run_underlying hu,hti,hso,asInt,asIntOf,wl,wc,t1,t2,t3,t4,newRow,hzv]
   exact fun e=>absurd e h0
  ·simp only [Array.getElem?_map] at hu
   cases hj:(Array.range (m*(z+1)))[j]? with
   | none=>rw [hj] at hu;cases hu
   | some k =>
    have hk:k=j:=by
     have:=Array.getElem?_eq_some_iff.1 hj
     obtain ⟨hlt,he⟩:=this
     rw [←he];simp
    subst hk
    rw [hj] at hu
    injection hu with hu
    rw [hb] at hu
    have hlt:k%(z+1)<zero.cells.size:=by rw [hb];exact Nat.mod_lt _ (by omega)
    simp [getElem!_pos,hlt] at hu
    simp [hlt,hu]
theorem evMake_ok {t d:Nat} {l c:Operand} {kl kc:IntKind} {L C:Int} (ho:o.op= .makeSlice t l c) (hl:opd s l= .val (.int kl L)) (hc:opd s c= .val (.int kc C)) (hd:o.dst=some d) (hr:evMake P n s d t L C h=some q):OpOK P n s o q.1 q.2:=by
 intro hC S0 w0 a w Q ⟨φ,hs⟩
 have el':a.eval l= .int kl L:=den_val (hl ▸ hs.opd l)
 have ec:a.eval c= .int kc C:=den_val (hc ▸ hs.opd c)
 unfold evMake at hr
 split at hr
 ·rename_i el hu
  split at hr
  ·rename_i i hi
   split at hr
   ·rename_i zero z hz hsz
    split at hr
    ·rename_i hb
     have hb:=Nat.eq_of_beq_eq_true hb
     split at hr
     ·rename_i s' hs'
      injection hr with hr;subst hr
      obtain ⟨hnm,hC⟩:=named_ok hC
      rw [hnm] at hs'
      obtain ⟨h1,h2,h3,h4,h5,-⟩:=hC
      have hrun:=run_make ho el' ec hu hi hz hsz hb h1 h2 h3 h4 h5 w
      obtain ⟨cur,hrun,hcs,hcell⟩:=hrun
      refine wp_of_run hrun ?_
      rw [hd]
      have hzl:(zero.cells.toList.map constAV0).length=z+1:=by simp [hb]
      have hrl:=zrow_len (zero.cells.toList.map constAV0) (z+1) hzl h.k
      have hle:(z+1)*h.k≤(z+1)*h.m:=Nat.mul_le_mul_left _ h3
      have hf:=hs.fresh (w':={w with heap:=w.heap.push (.cells cur el (0,0))}) d ⟨z+1,true,false,zrow (zero.cells.toList.map constAV0) h.k⟩ (putD_lt hs') rfl rfl rfl (by simp) (heap_push_lt w _) (heap_push w _) (by simp) (by simp only [hrl,hcs];exact hle) (fun h=>by cases h) (fun j u x hu hx=>⟨fun _=>by
       have h6:=zrow_at _ (z+1) hzl (by omega) _ _ _ hx
       have h7:=hcell j u hu
       rw [List.getElem?_map] at h6
       have h8:zero.cells.toList[j%(z+1)]?=some u:=by simpa using h7
       rw [h8] at h6;injection h6 with h6;subst h6;exact rep_const0 u,fun h=>by cases h⟩)
      exact ⟨_,putD_ok hf (.ref d _ _ _ h.k h.m (info_install d _ _) hrl h3 h5 (by unfold cellsLen;rw [heap_push];exact hcs)) hs'⟩
     ·cases hr
    ·cases hr
   ·cases hr
  ·cases hr
 ·cases hr
def evBytes (P:Program) (n:Nat) (s:AS) (d src dst:Nat) (b:ByteArray):Option (AS×List Prop) :=
 match P.underlying src,P.underlying dst with
 | some .string,some (.slice el)=>(match P.underlying el with
  | some (.int .u8)=>(match putD n (install s d ⟨1,true,false,bytesA b.data.toList⟩) (some d) (.ref d) with|some s'=>some (s',[b.size≤maxLen])|none=>none)
  | _=>none)
 | _,_=>none
theorem evBytes_ok {src dst d:Nat} {x:Operand} {b:ByteArray} (ho:o.op= .convert src dst x) (hx:opd s x= .val (.string b)) (hd:o.dst=some d) (hr:evBytes P n s d src dst b=some q):OpOK P n s o q.1 q.2:=by
 intro hC S0 w0 a w Q ⟨φ,hs⟩
 have ex:a.eval x= .string b:=den_val (hx ▸ hs.opd x)
 unfold evBytes at hr
 split at hr
 ·rename_i el h1 h2
  split at hr
  ·rename_i h3
   split at hr
   ·rename_i s' hs'
    injection hr with hr;subst hr
    have hsz:=hC.1
    have hown:=Own.of_string w b el hsz
    have hrun:(execOp a.eval o).run P w= .ok (.value (.slice (some ⟨w.heap.size,0,none⟩) b.size (grownCap w b.size 0 el))) (w.drew.alloc (.cells (bytesRow b (grownCap w b.size 0 el)) el ((bytesRow b (grownCap w b.size 0 el)).size,(bytesRow b (grownCap w b.size 0 el)).size+1))):=by
     unfold execOp
     simp [ho,ex,run_bytes_of_string w src dst el b h1 h2 h3]
    refine wp_of_run hrun ?_
    rw [hd]
    have hge:=grownCap_ge w b.size 0 el
    have hcm:grownCap w b.size 0 el≤maxLen:=grownCap_le_maxLen w _ 0 el hsz
    have hbsz:(bytesRow b (grownCap w b.size 0 el)).size=grownCap w b.size 0 el:=by
     unfold bytesRow;simp only [Array.size_append,Array.size_map,Array.size_replicate]
     show b.size+_=_
     omega
    have hbl:(bytesA b.data.toList).length=b.size:=by rw [bytesA_len];rfl
    have hnew:(w.drew.alloc (.cells (bytesRow b (grownCap w b.size 0 el)) el ((bytesRow b (grownCap w b.size 0 el)).size,(bytesRow b (grownCap w b.size 0 el)).size+1))).heap[w.heap.size]?=some (.cells (bytesRow b (grownCap w b.size 0 el)) el ((bytesRow b (grownCap w b.size 0 el)).size,(bytesRow b (grownCap w b.size 0 el)).size+1)):=heap_alloc_new w.drew _
    have hf:=hs.fresh (w':=w.drew.alloc (.cells (bytesRow b (grownCap w b.size 0 el)) el ((bytesRow b (grownCap w b.size 0 el)).size,(bytesRow b (grownCap w b.size 0 el)).size+1))) d ⟨1,true,false,bytesA b.data.toList⟩ (putD_lt hs') rfl rfl rfl (by simp) (fun k hk=>Below.heap_alloc w.drew _ k hk) hnew (fun j hj=>by simp only;omega) (by simp only [hbl,hbsz];exact hge) (fun h=>by cases h) (fun j u x hu hx=>⟨fun _=>by
     have hj:j<b.size:=by have:=(List.getElem?_eq_some_iff.1 hx).1;rw [hbl] at this;exact this
     have hj':j<b.data.toList.length:=hj
     have hj2:j<b.data.size:=hj
     have e1:(bytesRow b (grownCap w b.size 0 el))[j]?=some (.int .u8 (b.data.toList[j].toNat)):=by
      unfold bytesRow
      rw [Array.getElem?_append_left (by simpa using hj)]
      simp
      exact ⟨_,Array.getElem?_eq_getElem hj2,rfl⟩
     rw [e1] at hu;injection hu with hu;subst hu
     have e2:(bytesA b.data.toList)[j]?=some (.val (.int .u8 (bv b.data.toList[j]))):=by
      simp [bytesA]
      exact ⟨_,Array.getElem?_eq_getElem hj2,rfl⟩
     rw [e2] at hx;injection hx with hx;subst hx
     exact .val _,fun h=>by cases h⟩)
    exact ⟨_,putD_ok hf (.ref d 1 _ _ b.size (grownCap w b.size 0 el) (info_install d _ _) (by rw [Nat.one_mul];exact hbl) hge hcm (by unfold cellsLen;rw [hnew];simp only [hbsz,Nat.one_mul])) hs'⟩
   ·cases hr
  ·cases hr
 ·cases hr
end
end Go.Proofs.YtejpabdmiagnnaaGreatDoor
namespace Go.Proofs.YtejpabdmiagnnaaGreatDoor
open Go.RowKit
section
variable {S0:Zone} {w0 w w':World} {n:Nat} {s:AS} {a:Act} {φ:Nat->Option Nat}
theorem SimO.stored (h:SimO S0 w0 n [] s a w φ) {id:Nat} {r r':Row} {g:Nat} (hr:look s.H id=some r) (hφ:φ id=some g) (he:r'.e=r.e) (hlen:r'.cells.length=r.cells.length) (hfull:r'.full=r.full)
  {cur cur':Array Value} {te:TypeId} {fr:Nat×Nat} (hg:w.heap[g]?=some (.cells cur te fr)) (hg':w'.heap[g]?=some (.cells cur' te fr)) (hsz:cur'.size=cur.size)
  (hos:w'.os=w.os) (htape:w'.tape=w.tape) (hout:w'.output=w.output) (hws:w'.heap.size=w.heap.size) (hb:∀b,b≠g->w'.heap[b]?=w.heap[b]?)
  (hc:∀(j:Nat) u x,cur'[j]?=some u->r'.cells[j]?=some x->CellDen (infoOf s.H φ) (Free S0 w φ []) w r'.pure u x):SimO S0 w0 n [] ⟨s.F,(id,r')::drop_ s.H id⟩ a w' φ:=by
 have hI:∀i x,infoOf s.H φ i=some x->infoOf ((id,r')::drop_ s.H id) φ i=some x:=by
  intro i x hi
  obtain ⟨e,m,b⟩:=x
  obtain ⟨q,hl,h1,h2,h3⟩:=info_some hi
  by_cases hne:id=i
  ·subst hne
   rw [hr] at hl;injection hl with hl;subst hl
   rw [info_of (r:=r') (by rw [look_cons,if_pos rfl]),he,hlen,h1,h2,h3]
  ·rw [info_of (r:=q) (by rw [look_cons,if_neg hne,look_drop,if_neg hne,hl]),h1,h2,h3]
 have hF:∀b,Free S0 w φ [] b->Free S0 w' φ [] b∧w'.heap[b]?=w.heap[b]?:=fun b hb'=>⟨⟨by rw [hws];exact hb'.1,hb'.2⟩,hb b fun e=>hb'.2.2.1 id (by rw [hφ,e])⟩
 have hL:∀i e m g',infoOf s.H φ i=some (e,m,some g')->cellsLen w' g'=cellsLen w g':=by
  intro i e m g' _
  unfold cellsLen
  by_cases e:g'=g
  ·subst e;rw [hg,hg'];exact hsz
  ·rw [hb g' e]
 have hrow:=h.rows id r hr
 unfold RowDen at hrow
 rw [hφ] at hrow
 obtain ⟨cur0,te0,fr0,hg0,hfr,hle,hfu,-⟩:=hrow
 rw [hg] at hg0
 injection hg0 with hg0
 injection hg0 with e1 e2 e3
 subst e1;subst e2;subst e3
 refine ⟨h.tsz,h.dfr,⟨hos.trans h.bel.os,htape.trans h.bel.tape,hout.trans h.bel.output,by rw [hws];exact h.bel.size,fun k hk hx=>?_,h.bel.g0,h.bel.gx⟩,fun i av hi=>(h.slots i av hi).mono hI hF hL,fun i q hq=>?_,fun i hi=>?_,h.inj,fun i g' hg'=>by rw [hws];exact h.rng i g' hg',h.apart,h.new⟩
 ·rw [hb k (fun e=>by rcases (h.rng id g hφ).1.2 with h|h;omega;rw [e] at hx;exact hx h)]
  exact h.bel.block k hk hx
 ·rw [look_cons] at hq
  by_cases hne:id=i
  ·rw [if_pos hne] at hq;injection hq with hq;subst hq;subst hne
   rw [hφ]
   refine ⟨cur',te,fr,hg',fun j hj=>hfr j (by omega),by rw [hlen,hsz];exact hle,fun hf=>by rw [hlen,hsz];exact hfu (by rw [←hfull];exact hf),fun j u x hu hx=>?_⟩
   have:=hc j u x hu hx
   unfold CellDen at this ⊢
   cases hp:r'.pure with
   | true=>rw [hp] at this;exact this.mono hF
   | false=>rw [hp] at this;exact this.mono hI hF hL
  ·rw [if_neg hne,look_drop,if_neg hne] at hq
   have hq':=h.rows i q hq
   unfold RowDen at hq' ⊢
   cases hφi:φ i with
   | none=>rw [hφi] at hq';exact hq'
   | some g2 =>
    rw [hφi] at hq'
    obtain ⟨cur2,te2,fr2,hg2,hf2,hl2,hfu2,hc2⟩:=hq'
    have hne2:g2≠g:=fun e=>hne (h.inj id i g hφ (by rw [hφi,e]))
    refine ⟨cur2,te2,fr2,(hb g2 hne2).trans hg2,hf2,hl2,hfu2,fun j u x hu hx=>?_⟩
    have:=hc2 j u x hu hx
    unfold CellDen at this ⊢
    cases hp:q.pure with
    | true=>rw [hp] at this;exact this.mono hF
    | false=>rw [hp] at this;exact this.mono hI hF hL
 ·rw [look_cons] at hi
  by_cases hne:id=i
  ·rw [if_pos hne] at hi;cases hi
  ·rw [if_neg hne,look_drop,if_neg hne] at hi
   exact h.only i hi
end
def cellOK:AV->Bool
 | .val u=>u.oneCell'
 | .nil=>true
 | .sl _ _=>true
 | .ptr _ _=>true
 | .ref _=>true
 | .pre _ _=>true
 | .win _ _ _=>true
 | .addr _ _=>true
 | _=>false
def cellsOK:List AV->Bool
 | []=>true
 | x::l=>match cellOK x with|true=>cellsOK l|false=>false
theorem cellOK_one {I:Info} {S:Nat->Prop} {w:World} {v:Value} {x:AV} (hd:Den I S w v x) (hp:cellOK x=true):v.oneCell'=true:=by
 cases hd with
 | rep h=>cases h<;>first|exact hp|rfl|cases hp
 | agg=>cases hp
 | tup=>cases hp
 | dead=>cases hp
 | _=>rfl
theorem cellsOK_at:∀ {l:List AV} {j:Nat} {x:AV},cellsOK l=true->l[j]?=some x->cellOK x=true
 | [],j,x,_,h=>by simp at h
 | y::l,j,x,hp,h=>by
  simp only [cellsOK] at hp
  split at hp
  ·rename_i hy
   cases j with
   | zero=>simp at h;subst h;exact hy
   | succ j=>exact cellsOK_at hp (by simpa using h)
  ·cases hp
def setCells (cells:List AV) (off:Nat) (l:List AV):List AV:=match l with| [x]=>cells.set off x|l=>cells.take off++l++cells.drop (off+l.length)
theorem setCells_eq (cells:List AV) (off:Nat) (l:List AV) (h:off+l.length≤cells.length):setCells cells off l=cells.take off++l++cells.drop (off+l.length):=by
 unfold setCells
 split
 ·rename_i x
  simp only [List.length_cons,List.length_nil] at h ⊢
  rw [List.set_eq_take_append_cons_drop,if_pos (by omega)]
  simp
 ·rfl
theorem splice_at {α:Type} (l m:List α) (off j:Nat) (h:off+m.length≤l.length):(l.take off++m++l.drop (off+m.length))[j]?=if off≤j∧j<off+m.length then m[j-off]? else l[j]?:=by
 by_cases h1:j<off
 ·rw [List.getElem?_append_left (by simp only [List.length_append,List.length_take];omega),List.getElem?_append_left (by simp only [List.length_take];omega),List.getElem?_take,if_pos h1,if_neg (by omega)]
 ·by_cases h2:j<off+m.length
  ·rw [List.getElem?_append_left (by simp only [List.length_append,List.length_take];omega),List.getElem?_append_right (by simp only [List.length_take];omega),if_pos (by omega)]
   congr 1;simp only [List.length_take];omega
  ·rw [List.getElem?_append_right (by simp only [List.length_append,List.length_take];omega),List.getElem?_drop,if_neg (by omega)]
   congr 1;simp only [List.length_append,List.length_take];omega
theorem splice_len {α:Type} (l m:List α) (off:Nat) (h:off+m.length≤l.length):(l.take off++m++l.drop (off+m.length)).length=l.length:=by
 simp only [List.length_append,List.length_take,List.length_drop];omega
def setH (s:AS) (id:Nat) (r:Row):AS:=⟨s.F,(id,r)::drop_ s.H id⟩
def evStoreA (P:Program) (s:AS) (t:TypeId) (x:Operand) (cs:List AV) (h:Hint):Option (AS×List Prop) :=
 match opd s x with
 | .addr id off=>(match look s.H id,sizeT P t with
  | some r,some z=>(match r.pure with
   | true=>some (setH s id ⟨r.e,true,r.full,(named h (r.cells.take off++cs++r.cells.drop (off+cs.length))).1⟩,(named h (r.cells.take off++cs++r.cells.drop (off+cs.length))).2++ [cs.length=z,∀x∈cs,plain0 x=true,off+cs.length≤r.cells.length])
   | false=>none)
  | _,_=>none)
 | _=>none
def evStoreB (P:Program) (s:AS) (t:TypeId) (x:Operand) (y:Operand) (h:Hint):Option (AS×List Prop) :=
 match opd s x with
 | .addr id off=>(match look s.H id,sizeT P t with
  | some r,some z=>(match r.pure with
   | true=>(match thawAll s (ids1 (opd s y)) with
    | some s1=>(match look s1.H id,avCells (opd s1 y),opd s1 x with
     | some r1,some l,.addr id' off'=>(match Nat.beq id id',Nat.beq l.length z,plainL l,r1.pure with
      | true,true,true,true=>some (setH s1 id ⟨r1.e,true,r1.full,(named h (setCells r1.cells off' l)).1⟩,(named h (setCells r1.cells off' l)).2++ [off'+l.length≤r1.cells.length])
      | _,_,_,_=>none)
     | _,_,_=>none)
    | none=>none)
   | false=>(match avCells (opd s y) with
    | some l=>(match Nat.beq l.length z,cellsOK l with
     | true,true=>some (setH s id ⟨r.e,false,r.full,(named h (setCells r.cells off l)).1⟩,(named h (setCells r.cells off l)).2++ [off+l.length≤r.cells.length])
     | _,_=>none)
    | none=>none))
  | _,_=>none)
 | _=>none
def evStore (P:Program) (s:AS) (t:TypeId) (x:Operand) (y:Operand) (h:Hint):Option (AS×List Prop) :=
 match opd s y,h.k with
 | .arr cs,1=>evStoreA P s t x cs h
 | _,_=>evStoreB P s t x y h
section
variable {P:Program} {n:Nat} {s:AS} {o:Oper} {h:Hint} {q:AS×List Prop}
theorem run_storeVar_at {w:World} {t:TypeId} {g off z:Nat} {v:Value} {vs:List Value} {cur:Array Value} {te:TypeId} {fr:Nat×Nat} (hz:sizeT P t=some z) (hv:v.cells=vs.toArray) (hl:vs.length=z) (hg:w.heap[g]?=some (.cells cur te fr)) (hf:∀j,j<cur.size-> ¬(fr.1≤j∧j<fr.2)) (hfit:off+vs.length≤cur.size) (h1:∀u∈vs,u.oneCell'=true) :
  (storeVar t ⟨g,off,none⟩ v).run P w= .ok () (w.setRow g (cur.toList.take off++vs++cur.toList.drop (off+vs.length)).toArray):=by
 have hst:=run_storeCells_free P g te fr cur.size hf off vs 0 cur w hg (by omega) rfl h1
 simp only [Nat.add_zero] at hst
 unfold storeVar
 have hz':(sizeOf t).run P w= .ok z w:=run_sizeOf hz
 simp only [Sem.run_bind,hz',Result.andThen_ok,Sem.run_ite,hv]
 rw [if_neg (by simp [hl])]
 simp [hst]
theorem setRow_facts {w:World} {g:Nat} {cur cur':Array Value} {te:TypeId} {fr:Nat×Nat} (hg:w.heap[g]?=some (.cells cur te fr)):(w.setRow g cur').heap[g]?=some (.cells cur' te fr)∧(w.setRow g cur').heap.size=w.heap.size∧ ∀b,b≠g->(w.setRow g cur').heap[b]?=w.heap[b]? :=
 ⟨setRow_heap w g cur cur' te fr hg,by simp,fun b hb=>setRow_other w g b _ hb⟩
theorem SimO.written {S0:Zone} {w0 w:World} {a:Act} {φ:Nat->Option Nat} (hs:SimO S0 w0 n [] s a w φ) {id off g:Nat} {r:Row} {l cells:List AV} {vs:List Value} {cur:Array Value} {te:TypeId} {fr:Nat×Nat} (hr:look s.H id=some r) (hφ:φ id=some g) (hg:w.heap[g]?=some (.cells cur te fr)) (hle:r.cells.length≤cur.size)
  (hold:∀(j:Nat) u x,cur[j]?=some u->r.cells[j]?=some x->CellDen (infoOf s.H φ) (Free S0 w φ []) w r.pure u x) (hlen:vs.length=l.length) (hfit:off+l.length≤r.cells.length) (hcells:cells=setCells r.cells off l)
  (hnew:∀(j:Nat) u x,vs[j]?=some u->l[j]?=some x->CellDen (infoOf s.H φ) (Free S0 w φ []) w r.pure u x) :
  SimO S0 w0 n [] (setH s id ⟨r.e,r.pure,r.full,cells⟩) a (w.setRow g (cur.toList.take off++vs++cur.toList.drop (off+vs.length)).toArray) φ:=by
 obtain ⟨f1,f2,f3⟩:=setRow_facts (cur':=(cur.toList.take off++vs++cur.toList.drop (off+vs.length)).toArray) hg
 have hcl:cur.toList.length=cur.size:=rfl
 rw [setCells_eq _ _ _ hfit] at hcells
 refine hs.stored (r':=⟨r.e,r.pure,r.full,cells⟩) hr hφ rfl (by rw [hcells,splice_len _ _ _ hfit]) rfl hg f1 (by simp only [List.size_toArray];rw [splice_len _ _ _ (by omega)];rfl) rfl rfl rfl f2 f3 fun j u x hu hx=>?_
 simp only [List.getElem?_toArray] at hu
 rw [splice_at _ _ _ _ (by omega)] at hu
 simp only [hcells] at hx
 rw [splice_at _ _ _ _ hfit] at hx
 by_cases hj:off≤j∧j<off+l.length
 ·rw [if_pos hj] at hx
  rw [if_pos (by omega)] at hu
  exact hnew _ u x hu hx
 ·rw [if_neg hj] at hx
  rw [if_neg (by omega)] at hu
  exact hold j u x (by simpa using hu) hx
theorem row_at {S0:Zone} {w0 w:World} {a:Act} {φ:Nat->Option Nat} (hs:SimO S0 w0 n [] s a w φ) {id g:Nat} {r:Row} (hr:look s.H id=some r) (hφ:φ id=some g):∃cur te fr,w.heap[g]?=some (.cells cur te fr)∧(∀j,j<cur.size-> ¬(fr.1≤j∧j<fr.2))∧r.cells.length≤cur.size∧ ∀(j:Nat) u x,cur[j]?=some u->r.cells[j]?=some x->CellDen (infoOf s.H φ) (Free S0 w φ []) w r.pure u x:=by
 have hrow:=hs.rows id r hr
 unfold RowDen at hrow
 rw [hφ] at hrow
 obtain ⟨cur,te,fr,hg,hf,hl,-,hc⟩:=hrow
 exact ⟨cur,te,fr,hg,hf,hl,hc⟩
theorem store_wp {S0:Zone} {w0 w:World} {a:Act} {φ:Nat->Option Nat} {Q:Exit->Act->World->Prop} (hs:SimO S0 w0 n [] s a w φ) {t:TypeId} {x y:Operand} (ho:o.op= .store t x y) (hd:o.dst=none) {id off z:Nat} {r:Row} {l cells:List AV} (hx:opd s x= .addr id off) (hr:look s.H id=some r) (hz:sizeT P t=some z) (hl:avCells (opd s y)=some l) (hlz:l.length=z) (hfit:off+l.length≤r.cells.length) (hcells:cells=setCells r.cells off l)
  (hp:(r.pure=true∧ ∀x∈l,plain0 x=true)∨(r.pure=false∧cellsOK l=true)):o.wp P a w (fun a' w'=>Sim S0 w0 n (setH s id ⟨r.e,r.pure,r.full,cells⟩) a' w') Q:=by
 have hxd:=hs.opd x
 rw [hx] at hxd
 obtain ⟨e,m,g,hi,hv⟩:=den_addr hxd
 obtain ⟨r',hr',-,-,hφ⟩:=info_some hi
 obtain ⟨cur,te,fr,hg,hf,hle,hold⟩:=row_at hs hr hφ
 obtain ⟨vs,hvc,hvl,hden⟩:=den_cells (hs.opd y) hl
 have hone:∀u∈vs,u.oneCell'=true:=by
  intro u hu
  obtain ⟨j,hj⟩:=List.getElem?_of_mem hu
  have hjl:j<l.length:=by have:=(List.getElem?_eq_some_iff.1 hj).1;omega
  have hlj:l[j]?=some l[j]:=List.getElem?_eq_getElem hjl
  rcases hp with ⟨-,hp⟩|⟨-,hp⟩
  ·exact (plain0_rep (hden j u _ hj hlj) (hp _ (List.getElem_mem hjl))).2
  ·exact cellOK_one (hden j u _ hj hlj) (cellsOK_at hp hlj)
 have hrun:=run_storeVar_at (P:=P) (w:=w) (t:=t) (g:=g) (off:=off) hz hvc (by omega) hg hf (by omega) hone
 unfold Oper.wp
 have:(execOp a.eval o).run P w= .ok .skip (w.setRow g (cur.toList.take off++vs++cur.toList.drop (off+vs.length)).toArray):=by
  unfold execOp
  simp [ho,Instr.storeAt,Instr.sureAddr,hv,hrun]
 rw [this]
 show Sim S0 w0 n _ (a.put o.dst undef) _
 rw [hd]
 refine ⟨φ,hs.written hr hφ hg hle hold hvl hfit hcells fun j u x hu hx=>?_⟩
 unfold CellDen
 rcases hp with ⟨hpu,hp⟩|⟨hpu,hp⟩<;>rw [hpu]
 ·exact (plain0_rep (hden j u x hu hx) (hp x (List.mem_of_getElem? hx))).1
 ·exact hden j u x hu hx
theorem evStoreA_ok {t:TypeId} {x y:Operand} {cs:List AV} (ho:o.op= .store t x y) (hd:o.dst=none) (hy:opd s y= .arr cs) (hr:evStoreA P s t x cs h=some q):OpOK P n s o q.1 q.2:=by
 intro hC S0 w0 a w Q ⟨φ,hs⟩
 unfold evStoreA at hr
 split at hr
 ·rename_i id off hx
  split at hr
  ·rename_i r z hrow hz
   split at hr
   ·rename_i hpure
    injection hr with hr;subst hr
    obtain ⟨hn,hlen,hp,hfit,-⟩:=named_ok hC
    have:=store_wp (Q:=Q) hs ho hd hx hrow hz (l:=cs) (by rw [hy];rfl) hlen hfit (hn.trans (setCells_eq _ _ _ hfit).symm) (.inl ⟨hpure,hp⟩)
    rw [hpure] at this
    exact this
   ·cases hr
  ·cases hr
 ·cases hr
theorem evStoreB_ok {t:TypeId} {x y:Operand} (ho:o.op= .store t x y) (hd:o.dst=none) (hr:evStoreB P s t x y h=some q):OpOK P n s o q.1 q.2:=by
 intro hC S0 w0 a w Q ⟨φ0,hs0⟩
 unfold evStoreB at hr
 split at hr
 ·rename_i id off hx
  split at hr
  ·rename_i r z hrow hz
   split at hr
   ·rename_i hpure
    split at hr
    ·rename_i s1 hth
     obtain ⟨φ,hs⟩:=thawAll_ok _ _ _ _ hth hs0
     split at hr
     ·rename_i r1 l id' off' hr1 hl hx1
      split at hr
      ·rename_i h1 h2 h3 h4
       injection hr with hr;subst hr
       have h1:=Nat.eq_of_beq_eq_true h1
       have h2:=Nat.eq_of_beq_eq_true h2
       subst h1
       obtain ⟨hn,hfit,-⟩:=named_ok hC
       have:=store_wp (Q:=Q) hs ho hd hx1 hr1 hz hl h2 hfit hn (.inl ⟨h4,fun x hx=>by obtain ⟨j,hj⟩:=List.getElem?_of_mem hx;exact plainL_at h3 hj⟩)
       rw [h4] at this
       exact this
      ·cases hr
     ·cases hr
    ·cases hr
   ·rename_i hpure
    split at hr
    ·rename_i l hl
     split at hr
     ·rename_i h2 h3
      injection hr with hr;subst hr
      have h2:=Nat.eq_of_beq_eq_true h2
      obtain ⟨hn,hfit,-⟩:=named_ok hC
      have:=store_wp (Q:=Q) hs0 ho hd hx hrow hz hl h2 hfit hn (.inr ⟨hpure,h3⟩)
      rw [hpure] at this
      exact this
     ·cases hr
    ·cases hr
  ·cases hr
 ·cases hr
theorem evStore_ok {t:TypeId} {x y:Operand} (ho:o.op= .store t x y) (hd:o.dst=none) (hr:evStore P s t x y h=some q):OpOK P n s o q.1 q.2:=by
 unfold evStore at hr
 split at hr
 ·rename_i cs hy _;exact evStoreA_ok ho hd hy hr
 ·exact evStoreB_ok ho hd hr
def srcOf (s:AS):AV->Option (Nat×List AV)
 | .nil=>some (0,[])
 | .sl e row=>some (e,row)
 | .ref id=>(match look s.H id with|some ⟨e,true,_,cells⟩=>some (e,cells)|_=>none)
 | .pre id l=>(match look s.H id with|some ⟨e,true,_,cells⟩=>some (e,cells.take l)|_=>none)
 | .win id o l=>(match look s.H id with|some ⟨e,true,_,cells⟩=>some (e,(cells.drop o).take l)|_=>none)
 | _=>none
theorem src_ok {S0:Zone} {w0 w:World} {a:Act} {φ:Nat->Option Nat} (hs:SimO S0 w0 n [] s a w φ) {v:Value} {x:AV} (hx:Den (infoOf s.H φ) (Free S0 w φ []) w v x) {e:Nat} {row:List AV} (he:srcOf s x=some (e,row)) :
  ∃(A:Option Addr) (m c:Nat) (us:List Value),v= .slice A m c∧row.length=e*m∧us.length=row.length∧(0<row.length-> ∃ad,A=some ad∧ ∀(j:Nat) u,us[j]?=some u->w.cell? (ad.add j)=some u)∧(∀(j:Nat) u x,us[j]?=some u->row[j]?=some x->Rep (Free S0 w φ []) w u x)∧m≤maxLen:=by
 have blk:∀(id g:Nat) (r:Row),look s.H id=some r->r.pure=true->φ id=some g-> ∃us:List Value,r.cells.length≤us.length∧(∀(j:Nat) u,us[j]?=some u->w.cell? ⟨g,j,none⟩=some u)∧ ∀(j:Nat) u x,us[j]?=some u->r.cells[j]?=some x->Rep (Free S0 w φ []) w u x:=by
  intro id g r hr hp hg
  obtain ⟨cur,te,fr,hg',hf,hl,hc⟩:=row_pure hs hr hp hg
  exact ⟨cur.toList,hl,fun j u hu=>by rw [cell_of_row w g _ cur te fr hg'];simpa using hu,fun j u x hu hx=>hc j u x (by simpa using hu) hx⟩
 cases hx with
 | rep h =>
  cases h with
  | nil=>injection he with he;injection he with h1 h2;subst h1;subst h2;exact ⟨none,0,0,[],rfl,rfl,rfl,fun h=>(by simp at h),fun j u x hu=>(by simp at hu),by simp⟩
  | sl A n c e' us row' hl hn hc hm ha h =>
   injection he with he;injection he with h1 h2;subst h1;subst h2
   exact ⟨A,n,c,us,rfl,hn,hl,fun h0=>by obtain ⟨ad,e1,_,e2⟩:=ha h0;exact ⟨ad,e1,e2⟩,h,by omega⟩
  | _=>cases he
 | agg=>cases he
 | tup=>cases he
 | dead=>cases he
 | addr=>cases he
 | ref id e' m g l c hi hm hc hx hs' =>
  obtain ⟨r,hr,h1,h2,hφ⟩:=info_some hi
  obtain ⟨re,rp,rf,rc⟩:=r
  simp only [srcOf,hr] at he
  split at he
  ·rename_i heq
   injection heq with heq;cases heq
   injection he with he;injection he with h3 h4;subst h3;subst h4
   obtain ⟨us,hu1,hu2,hu3⟩:=blk id g _ hr rfl hφ
   simp only at h1 h2 hu1 hu3
   exact ⟨_,l,c,us.take rc.length,rfl,by rw [h2,hm,h1],by rw [List.length_take];omega,fun _=>⟨_,rfl,fun j u hu=>by rw [addr0_add];exact hu2 j u (take_get _ _ _ _ hu)⟩,fun j u x hu hx=>hu3 j u x (take_get _ _ _ _ hu) hx,by omega⟩
  ·cases he
 | refnil id e' hi =>
  obtain ⟨r,hr,h1,h2,hφ⟩:=info_some hi
  obtain ⟨re,rp,rf,rc⟩:=r
  simp only [srcOf,hr] at he
  split at he
  ·rename_i heq
   injection heq with heq;cases heq
   injection he with he;injection he with h3 h4;subst h3;subst h4
   simp only at h2
   have:rc= []:=List.length_eq_zero_iff.1 h2
   subst this
   exact ⟨none,0,0,[],rfl,rfl,rfl,fun h=>(by simp at h),fun j u x hu=>(by simp at hu),by simp⟩
  ·cases he
 | pre id k e' m g l c hi hn hm hc hx hs' =>
  obtain ⟨r,hr,h1,h2,hφ⟩:=info_some hi
  obtain ⟨re,rp,rf,rc⟩:=r
  simp only [srcOf,hr] at he
  split at he
  ·rename_i heq
   injection heq with heq;cases heq
   injection he with he;injection he with h3 h4;subst h3;subst h4
   obtain ⟨us,hu1,hu2,hu3⟩:=blk id g _ hr rfl hφ
   simp only at h1 h2 hu1 hu3
   have hlk:(rc.take k).length=k:=by rw [List.length_take];omega
   exact ⟨_,l,c,us.take k,rfl,by rw [hlk,hn,h1],by rw [hlk,List.length_take];omega,fun _=>⟨_,rfl,fun j u hu=>by rw [addr0_add];exact hu2 j u (take_get _ _ _ _ hu)⟩,fun j u x hu hx=>hu3 j u x (take_get _ _ _ _ hu) (take_get _ _ _ _ hx),by omega⟩
  ·cases he
 | prenil id e' hi =>
  obtain ⟨r,hr,h1,h2,hφ⟩:=info_some hi
  obtain ⟨re,rp,rf,rc⟩:=r
  simp only [srcOf,hr] at he
  split at he
  ·rename_i heq
   injection heq with heq;cases heq
   injection he with he;injection he with h3 h4;subst h3;subst h4
   simp only [List.take_zero]
   exact ⟨none,0,0,[],rfl,rfl,rfl,fun h=>(by simp at h),fun j u x hu=>(by simp at hu),by simp⟩
  ·cases he
 | win id off k e' m l c g A hi hn hm hc hx ha =>
  obtain ⟨r,hr,h1,h2,hφ⟩:=info_some hi
  obtain ⟨re,rp,rf,rc⟩:=r
  simp only [srcOf,hr] at he
  split at he
  ·rename_i heq
   injection heq with heq;cases heq
   injection he with he;injection he with h3 h4;subst h3;subst h4
   simp only at h1 h2
   have hlk:((rc.drop off).take k).length=k:=by rw [List.length_take,List.length_drop];omega
   by_cases hk:0<k
   ·obtain ⟨b,hb,hA⟩:=ha hk
    rw [hb] at hφ
    obtain ⟨us,hu1,hu2,hu3⟩:=blk id b _ hr rfl hφ
    simp only at hu1 hu3
    exact ⟨A,l,c,(us.drop off).take k,rfl,by rw [hlk,hn,h1],by rw [hlk,List.length_take,List.length_drop];omega,fun _=>⟨_,hA,fun j u hu=>by rw [addr_add];exact hu2 _ u (drop_take_get _ _ _ _ _ hu)⟩,fun j u x hu hx=>hu3 _ u x (drop_take_get _ _ _ _ _ hu) (drop_take_get _ _ _ _ _ hx),by omega⟩
   ·have:(rc.drop off).take k= []:=List.length_eq_zero_iff.1 (by omega)
    rw [this]
    exact ⟨A,l,c,[],rfl,by rw [h1];simp;omega,rfl,fun h=>(by simp at h),fun j u x hu=>(by simp at hu),by omega⟩
  ·cases he
end
end Go.Proofs.YtejpabdmiagnnaaGreatDoor
namespace Go.Proofs.YtejpabdmiagnnaaGreatDoor
open Go.RowKit
section
variable {P:Program} {w:World}
structure SrcRun (P:Program) (w:World) (xt:TypeId) (e:Nat) (xv:Value) (m:Nat) (news:List Value):Prop where
 ty:(∃e2,P.underlying xt=some (.slice e2))∨P.underlying xt=some .string
 len:∀w',(Builtin.lenOf xv).run P w'= .ok m w'
 part:∀(w':World) (k:Nat),w'.heap=w.heap->k≤m->(Builtin.firstCells e k xv).run P w'= .ok (news.take (k*e)).toArray w'
 hl:news.length=m*e
 one:∀u∈news,u.oneCell'=true
theorem SrcRun.cells {xt:TypeId} {e m:Nat} {xv:Value} {news:List Value} (h:SrcRun P w xt e xv m news) (w':World) (hw:w'.heap=w.heap):(Builtin.firstCells e m xv).run P w'= .ok news.toArray w':=by
 have:=h.part w' m hw (Nat.le_refl _)
 rw [List.take_of_length_le (by rw [h.hl];exact Nat.le_refl _)] at this
 exact this
theorem srcRun_slice {xt e2:TypeId} (ht:P.underlying xt=some (.slice e2)) {A:Option Addr} {m c e:Nat} {news:List Value} (hl:news.length=m*e) (hc:0<news.length-> ∃ad,A=some ad∧ ∀(j:Nat) u,news[j]?=some u->w.cell? (ad.add j)=some u) (h1:∀u∈news,u.oneCell'=true) :
  SrcRun P w xt e (.slice A m c) m news:=by
 refine ⟨.inl ⟨e2,ht⟩,fun w'=>rfl,fun w' k hw hk=>?_,hl,h1⟩
 have hcell:∀p:Addr,w'.cell? p=w.cell? p:=fun p=>cell_same (by rw [hw])
 have hkl:(news.take (k*e)).length=k*e:=by
  have:=Nat.mul_le_mul_right e hk
  rw [List.length_take];omega
 by_cases h0:0<news.length
 ·obtain ⟨ad,rfl,hcells⟩:=hc h0
  exact run_firstCells_some w' e k ad m c _ hkl (fun j u hu=>(hcell _).trans (hcells j u (take_get _ _ _ _ hu)))
 ·have hn:news= []:=List.length_eq_zero_iff.1 (by omega)
  subst hn
  cases A with
  | none=>rw [run_firstCells_none];simp
  | some ad=>exact run_firstCells_some w' e k ad m c _ hkl (fun j u hu=>by simp at hu)
theorem srcRun_string {xt:TypeId} (ht:P.underlying xt=some .string) (b:ByteArray):SrcRun P w xt 1 (.string b) b.size (bvs b.data.toList):=by
 refine ⟨.inr ht,fun w'=>rfl,fun w' k _ hk=>?_,by rw [bvs_len,Nat.mul_one];rfl,bvs_one _⟩
 simp only [Builtin.firstCells,Sem.run_pure,Nat.mul_one]
 congr 1
 apply Array.ext'
 simp [bvs,bv,←List.map_take]
structure Appd (w w':World) (v':Value) (g0:Option Nat) (e N:Nat) (cells:List Value) (g':Nat):Prop where
 slice:∃c',v'= .slice (some ⟨g',0,none⟩) N c'∧N≤c'∧c'≤maxLen∧cellsLen w' g'=e*c'
 blk:∃cur te fr,w'.heap[g']?=some (.cells cur te fr)∧(∀j,j<cur.size-> ¬(fr.1≤j∧j<fr.2))∧cells.length≤cur.size∧cur.toList.take cells.length=cells
 len:cells.length=e*N
 os:w'.os=w.os
 tape:w'.tape=w.tape
 output:w'.output=w.output
 size:w.heap.size≤w'.heap.size
 other:∀b,b<w.heap.size->some b≠g0->w'.heap[b]?=w.heap[b]?
 place:(g0=some g'∧g'<w.heap.size)∨(g'=w.heap.size∧w.heap.size<w'.heap.size)
theorem zeroCells_size (z:Value) (e k:Nat) (hz:z.cells.size=e):(Builtin.zeroCells z.cells k).size=k*e:=by unfold Builtin.zeroCells;simp [hz]
theorem appd_grow {el:TypeId} {z:Value} {e l m old:Nat} {olds news:List Value} (g0:Option Nat) (hz:z.cells.size=e) (hlo:olds.length=l*e) (hln:news.length=m*e) (hm:l+m≤maxLen) :
  Appd w (w.drew.alloc (.cells (olds.toArray++news.toArray++Builtin.zeroCells z.cells (grownCap w (l+m) old el-(l+m))) el)) (.slice (some ⟨w.heap.size,0,none⟩) (l+m) (grownCap w (l+m) old el)) g0 e (l+m) (olds++news) w.heap.size:=by
 have hge:=grownCap_ge w (l+m) old el
 have hcm:grownCap w (l+m) old el≤maxLen:=grownCap_le_maxLen w _ old el hm
 have hnew:(w.drew.alloc (.cells (olds.toArray++news.toArray++Builtin.zeroCells z.cells (grownCap w (l+m) old el-(l+m))) el)).heap[w.heap.size]?=some (.cells (olds.toArray++news.toArray++Builtin.zeroCells z.cells (grownCap w (l+m) old el-(l+m))) el (0,0)):=heap_alloc_new w.drew _
 have hsz:(olds.toArray++news.toArray++Builtin.zeroCells z.cells (grownCap w (l+m) old el-(l+m))).size=e*grownCap w (l+m) old el:=by
  simp only [Array.size_append,List.size_toArray,zeroCells_size z e _ hz,hlo,hln]
  rw [←Nat.add_mul,←Nat.add_mul,Nat.mul_comm]
  congr 1;omega
 have hlen:(olds++news).length=e*(l+m):=by rw [List.length_append,hlo,hln,←Nat.add_mul,Nat.mul_comm]
 refine ⟨⟨_,rfl,hge,hcm,by unfold cellsLen;rw [hnew];exact hsz⟩,⟨_,_,_,hnew,by simp,by rw [hsz,hlen];exact Nat.mul_le_mul_left _ hge,?_⟩,hlen,rfl,rfl,rfl,by simp,fun b hb _=>Below.heap_alloc w.drew _ b hb,.inr ⟨rfl,by simp⟩⟩
 simp only [Array.toList_append,List.append_assoc]
 rw [←List.append_assoc]
 exact List.take_left
theorem arr_app3 (A B:List Value) (C:Array Value):A.toArray++(B.toArray++C)=(A++B).toArray++C:=by
 apply Array.ext'
 simp
theorem need_ok {e l m bytes q:Nat} (he:0<e) (hq:q=e*(l+m)) (hb:q*bytes≤e*140737488355328):(l+m)*bytes≤140737488355328:=by
 rw [hq,Nat.mul_assoc] at hb
 exact Nat.le_of_mul_le_mul_left hb he
theorem need_max {l m bytes:Nat} (hby:0<bytes) (hb:(l+m)*bytes≤140737488355328):l+m≤maxLen∧((l+m:Nat):Int)≤9223372036854775807:=by
 have:l+m≤(l+m)*bytes:=Nat.le_mul_of_pos_right _ hby
 unfold maxLen;omega
theorem run_appN {t xt ty el:TypeId} {i:TypeInfo} {z xv:Value} {m:Nat} {news:List Value} (ht:P.underlying t=some (.slice el)) (hi:P.info? el=some i) (hz:i.zero=some z) (hzs:z.cells.size=i.size) (hby:0<i.bytes)
  (hsrc:SrcRun P w xt i.size xv m news) (hb:m*i.bytes≤140737488355328) :
  (m=0∧(Builtin.append_ #[t,xt] ty #[.slice none 0 0,xv]).run P w= .ok (.slice none 0 0) w)∨ ∃v' w',(Builtin.append_ #[t,xt] ty #[.slice none 0 0,xv]).run P w= .ok v' w'∧Appd w w' v' none i.size m news w.heap.size:=by
 have hf:=hsrc.cells w.drew rfl
 by_cases h0:m=0
 ·left
  refine ⟨h0,?_⟩
  have hf0:=hsrc.cells w rfl
  have hn:news= []:=List.length_eq_zero_iff.1 (by rw [hsrc.hl,h0];simp)
  subst h0;subst hn
  rcases hsrc.ty with ⟨e2,hu⟩|hu<;>simp [Builtin.append_,run_underlying ht,run_underlying hu,sizeOf,typeInfo,hi,hsrc.len,hf0]
 ·right
  obtain ⟨hm1,hm2⟩:=need_max (l:=0) hby (by rw [Nat.zero_add];exact hb)
  rw [Nat.zero_add] at hm1
  have h48:¬(281474976710656<Builtin.nextslicecap m 0*i.bytes):=by rw [nextslicecap_zero (by omega)];omega
  have h63:¬(9223372036854775807<(m:Int)):=by simp at hm2;omega
  have hA:=appd_grow (w:=w) (el:=el) (old:=0) (olds:=[]) (news:=news) (l:=0) none hzs (by simp) hsrc.hl (by rw [Nat.zero_add];exact hm1)
  simp only [Nat.zero_add,List.nil_append] at hA
  refine ⟨_,_,?_,hA⟩
  rcases hsrc.ty with ⟨e2,hu⟩|hu<;>simp [Builtin.append_,run_underlying ht,run_underlying hu,sizeOf,typeInfo,zeroValue,hi,hz,hsrc.len,hf,h0,h48,h63,Question.forced,run_firstCells_none,newRow,grownCap]
theorem run_appO {t xt ty el:TypeId} {i:TypeInfo} {z xv:Value} {m:Nat} {news:List Value} (ht:P.underlying t=some (.slice el)) (hi:P.info? el=some i) (hz:i.zero=some z) (hzs:z.cells.size=i.size) (hby:0<i.bytes)
  (hsrc:SrcRun P w xt i.size xv m news) {g l c:Nat} {cur:Array Value} {te:TypeId} {fr:Nat×Nat} (hg:w.heap[g]?=some (.cells cur te fr)) (hfr:∀j,j<cur.size-> ¬(fr.1≤j∧j<fr.2)) (hsz:cur.size=i.size*c) (hlc:l≤c) (hcm:c≤maxLen) (hb:(l+m)*i.bytes≤140737488355328) :
  ∃v' w' g',(Builtin.append_ #[t,xt] ty #[.slice (some ⟨g,0,none⟩) l c,xv]).run P w= .ok v' w'∧Appd w w' v' (some g) i.size (l+m) (cur.toList.take (l*i.size)++news) g':=by
 have hgl:g<w.heap.size:=(Array.getElem?_eq_some_iff.1 hg).1
 have hcl:cur.toList.length=cur.size:=rfl
 have hle:l*i.size≤cur.size:=by rw [hsz,Nat.mul_comm];exact Nat.mul_le_mul_left _ hlc
 have holen:(cur.toList.take (l*i.size)).length=l*i.size:=by rw [List.length_take];omega
 by_cases hroom:l+m≤c
 ·have hf0:=hsrc.cells w rfl
  have hfit:l*i.size+news.length≤cur.size:=by rw [hsrc.hl,←Nat.add_mul,hsz,Nat.mul_comm];exact Nat.mul_le_mul_left _ hroom
  have hst:=run_storeCells_free P g te fr cur.size hfr (l*i.size) news 0 cur w hg (by omega) rfl hsrc.one
  simp only [Nat.add_zero] at hst
  obtain ⟨f1,f2,f3⟩:=setRow_facts (cur':=(cur.toList.take (l*i.size)++news++cur.toList.drop (l*i.size+news.length)).toArray) hg
  have hsz2:(cur.toList.take (l*i.size)++news++cur.toList.drop (l*i.size+news.length)).toArray.size=cur.size:=by
   simp only [List.size_toArray];rw [splice_len _ _ _ (by omega)];rfl
  have hlen:(cur.toList.take (l*i.size)++news).length=i.size*(l+m):=by rw [List.length_append,holen,hsrc.hl,←Nat.add_mul,Nat.mul_comm]
  refine ⟨.slice (some ⟨g,0,none⟩) (l+m) c,_,g,?_,⟨c,rfl,hroom,hcm,by unfold cellsLen;rw [f1];simp only;rw [hsz2,hsz]⟩,⟨_,te,fr,f1,fun j hj=>hfr j (by omega),by rw [hsz2,hlen,hsz];exact Nat.mul_le_mul_left _ hroom,by simp only;exact List.take_left⟩,hlen,rfl,rfl,rfl,by rw [f2];exact Nat.le_refl _,fun b hb hne=>f3 b fun e=>hne (by rw [e]),.inl ⟨rfl,hgl⟩⟩
  rcases hsrc.ty with ⟨e2,hu⟩|hu<;>simp [Builtin.append_,run_underlying ht,run_underlying hu,sizeOf,typeInfo,hi,hsrc.len,hroom,hf0,addr0_add,hst]
 ·obtain ⟨hm1,hm2⟩:=need_max hby hb
  have h48:¬(281474976710656<Builtin.nextslicecap (l+m) c*i.bytes):=by have:=growslice_fits (need:=l+m) (old:=c) (by omega) hb;omega
  have h63:¬(9223372036854775807<((l:Int)+(m:Int))):=by omega
  have hA:=appd_grow (w:=w) (el:=el) (old:=c) (some g) hzs holen hsrc.hl hm1
  have hf:=hsrc.cells w.drew rfl
  have hfo:=run_firstCells_some (P:=P) w.drew i.size l ⟨g,0,none⟩ l c (cur.toList.take (l*i.size)) holen (fun j u hu=>by
   rw [addr0_add]
   have:w.drew.cell? ⟨g,j,none⟩=w.cell? ⟨g,j,none⟩:=cell_same rfl
   rw [this,cell_of_row w g _ cur te fr hg]
   have:=take_get _ _ _ _ hu
   simpa using this)
  refine ⟨_,_,w.heap.size,?_,hA⟩
  rcases hsrc.ty with ⟨e2,hu⟩|hu<;>simp [Builtin.append_,run_underlying ht,run_underlying hu,sizeOf,typeInfo,zeroValue,hi,hz,hsrc.len,hroom,hf,hfo,h48,h63,Question.forced,newRow,grownCap]<;>rw [arr_app3]
end
section
variable {S0:Zone} {w0 w w':World} {n:Nat} {s:AS} {a:Act} {φ:Nat->Option Nat}
theorem look_retire_other (id d:Nat) (h:look s.H d=none):look (retire id s).H d=none:=by
 unfold retire
 rw [look_mapv,look_drop]
 split
 ·rfl
 ·rw [h];rfl
theorem SimO.appended {O:List Nat} {g0:Option Nat} (h:SimO S0 w0 n O s a w φ) (hO:O=match g0 with|some g=>[g]|none=>[]) (hO0:∀g∈O,w0.heap.size≤g∨S0.X g) (hOlt:∀g∈O,g<w.heap.size) {d e N g':Nat} {v':Value} {cells:List Value} (hdlt:d<1000000000000) (hd:look s.H d=none) (hA:Appd w w' v' g0 e N cells g') {row:List AV} (hl:row.length=cells.length)
  (hc:∀(j:Nat) u x,cells[j]?=some u->row[j]?=some x->Rep (Free S0 w φ O) w u x) :
  ∃ φ',SimO S0 w0 n [] ⟨s.F,(d,⟨e,true,false,row⟩)::s.H⟩ a w' φ'∧Den (infoOf ((d,⟨e,true,false,row⟩)::s.H) φ') (Free S0 w' φ' []) w' v' (.ref d):=by
 obtain ⟨c',hv,hN,hcm,hcl⟩:=hA.slice
 obtain ⟨cur,te,fr,hg,hf,hle,htk⟩:=hA.blk
 have hb:∀b,b<w.heap.size->b ∉ O->w'.heap[b]?=w.heap[b]?:=fun b hb hn=>hA.other b hb fun e=>hn (by rw [hO,←e];simp)
 have hF:∀b,Free S0 w φ O b->w'.heap[b]?=w.heap[b]?:=fun b h=>hb b h.1 h.2.1
 have rd:∀(S:Nat->Prop),(∀b,Free S0 w φ O b->S b)-> ∀(j:Nat) u x,cur[j]?=some u->row[j]?=some x->Rep S w' u x:=by
  intro S hS j u x hu hx
  have hj:j<cells.length:=by have:=(List.getElem?_eq_some_iff.1 hx).1;omega
  have:cells[j]?=some u:=by
   rw [←htk,List.getElem?_take,if_pos hj];simpa using hu
  exact (hc j u x this hx).mono fun b hb=>⟨hS b hb,hF b hb⟩
 have fin:∀ φ',φ' d=some g'->Den (infoOf ((d,⟨e,true,false,row⟩)::s.H) φ') (Free S0 w' φ' []) w' v' (.ref d):=by
  intro φ' hφ
  rw [hv]
  exact .ref d e row.length g' N c' (by rw [info_of (r:=⟨e,true,false,row⟩) (by rw [look_cons,if_pos rfl]),hφ]) (by rw [hl];exact hA.len) hN hcm hcl
 rcases hA.place with ⟨hg0,hlt⟩|⟨rfl,hlt⟩
 ·rw [hg0] at hO
  subst hO
  have h2:=h.touch hO0 hA.os hA.tape hA.output hA.size hb
  have h3:=h2.adopt (id:=d) (r:=⟨e,true,false,row⟩) ⟨.inl hdlt,hO0 g' (by simp)⟩ (by have:=hA.size;omega) (by simp) hd ⟨cur,te,fr,hg,hf,by simp only [hl];exact hle,fun h=>(by cases h),fun j u x hu hx=>by
   show Rep _ _ _ _
   exact rd _ (fun b hb=>⟨by have:=hb.1;have:=hA.size;omega,hb.2⟩) j u x hu hx⟩
  exact ⟨_,h3,fin _ (by unfold bind_;rw [if_pos rfl])⟩
 ·have h1:=h.await w.heap.size (Nat.le_refl _)
  have h2:=h1.touch (fun g hg=>by rcases List.mem_cons.1 hg with rfl|hg;exact .inl h.bel.size;exact hO0 g hg) hA.os hA.tape hA.output hA.size (fun b hb1 hn=>hb b hb1 fun hm=>hn (by simp [hm]))
  have hwO:w.heap.size ∉ O:=fun hm=>Nat.lt_irrefl _ (hOlt _ hm)
  have h3:=h2.adopt (id:=d) (r:=⟨e,true,false,row⟩) ⟨.inl hdlt,.inl h.bel.size⟩ hlt hwO hd ⟨cur,te,fr,hg,hf,by simp only [hl];exact hle,fun h=>(by cases h),fun j u x hu hx=>by
   show Rep _ _ _ _
   exact rd _ (fun b hb=>⟨by have:=hb.1;omega,by simp only [List.mem_cons,not_or];exact ⟨by have:=hb.1;omega,hb.2.1⟩,hb.2.2⟩) j u x hu hx⟩
  cases hg0:g0 with
  | none =>
   rw [hg0] at hO;subst hO
   exact ⟨_,h3,fin _ (by unfold bind_;rw [if_pos rfl])⟩
  | some g =>
   rw [hg0] at hO;subst hO
   exact ⟨_,h3.free_,fin _ (by unfold bind_;rw [if_pos rfl])⟩
end
end Go.Proofs.YtejpabdmiagnnaaGreatDoor
namespace Go.Proofs.YtejpabdmiagnnaaGreatDoor
open Go.RowKit
def plainR (row:List AV):Prop:=∀x∈row,plain0 x=true
theorem plainR_bytes (l:List UInt8):plainR (bytesA l):=by
 intro x hx;simp only [bytesA,List.mem_map] at hx;obtain ⟨c,_,rfl⟩:=hx;rfl
theorem plainR_of:∀ {l:List AV},plainL l=true->plainR l
 | [],_=>by intro x hx;simp at hx
 | y::l,h=>by
  simp only [plainL] at h
  split at h
  ·rename_i hy
   intro x hx
   rcases List.mem_cons.1 hx with rfl|hx
   ·exact hy
   ·exact plainR_of h x hx
  ·cases h
def plainC (h:Hint) (row:List AV):Option (List Prop):=match h.b with|true=>(match plainL row with|true=>some []|false=>none)|false=>some [plainR row]
theorem plainC_ok {h:Hint} {row:List AV} {C D:List Prop} (hp:plainC h row=some C) (hC:AllP (C++D)):plainR row∧AllP D:=by
 unfold plainC at hp
 split at hp
 ·split at hp
  ·rename_i h1;cases hp;exact ⟨plainR_of h1,hC⟩
  ·cases hp
 ·cases hp;exact hC
def srcAny (P:Program) (s:AS) (xt:TypeId) (z:Nat) (x:AV):Option (List AV) :=
 match P.underlying xt with
 | some (.slice _)=>(match srcOf s x with|some (e,row)=>(match Nat.beq e z with|true=>some row|false=>(match x with| .nil=>some []|_=>none))|none=>none)
 | some .string=>(match x,z with| .val (.string b),1=>some (bytesA b.data.toList)|_,_=>none)
 | _=>none
def dstOf (s:AS) (e:Nat):AV->Option (List AV×AS)
 | .nil=>some ([],s)
 | .ref id=>(match look s.H id with|some ⟨e',true,_,cells⟩=>(match Nat.beq e e' with|true=>some (cells,retire id s)|false=>none)|_=>none)
 | .pre id l=>(match look s.H id with|some ⟨e',true,_,cells⟩=>(match Nat.beq e e' with|true=>some (cells.take l,retire id s)|false=>none)|_=>none)
 | _=>none
def evAppend (P:Program) (n:Nat) (s:AS) (d t xt:Nat) (x y:AV) (h:Hint):Option (AS×List Prop) :=
 match P.underlying t with
 | some (.slice el)=>(match P.info? el with
  | some i=>(match i.zero,i.size,i.bytes with
   | some zero,z+1,b+1=>(match Nat.beq zero.cells.size (z+1),dstOf s (z+1) x,srcAny P s xt (z+1) y with
    | true,some (cells,s1),some row=>(match plainC h row,putD n ⟨(retire d s1).F,(d,⟨z+1,true,false,(named h (cells++row)).1⟩)::(retire d s1).H⟩ (some d) (.ref d) with
     | some C,some s'=>some (s',(named h (cells++row)).2++(C++ [(cells.length+row.length)*(b+1)≤(z+1)*140737488355328]))
     | _,_=>none)
    | _,_,_=>none)
   | _,_,_=>none)
  | none=>none)
 | _=>none
section
variable {P:Program} {n:Nat} {s:AS} {o:Oper} {h:Hint} {q:AS×List Prop}
theorem rep_one {S:Nat->Prop} {w:World} {v:Value} {x:AV} (h:Rep S w v x) (hp:plain0 x=true):v.oneCell'=true:=(plain0_rep (I:=fun _=>none) (.rep h) hp).2
theorem srcAny_ok {S0:Zone} {w0 w:World} {a:Act} {φ:Nat->Option Nat} (hs:SimO S0 w0 n [] s a w φ) {xt:TypeId} {v:Value} {x:AV} (hx:Den (infoOf s.H φ) (Free S0 w φ []) w v x) {z:Nat} {row:List AV} (he:srcAny P s xt z x=some row) (hone:plainR row) :
  ∃m us,SrcRun P w xt z v m us∧us.length=row.length∧ ∀(j:Nat) u x,us[j]?=some u->row[j]?=some x->Rep (Free S0 w φ []) w u x:=by
 unfold srcAny at he
 split at he
 ·rename_i e2 hu
  split at he
  ·rename_i e row' hsrc
   split at he
   ·rename_i hb
    have hb:=Nat.eq_of_beq_eq_true hb
    cases he
    subst hb
    obtain ⟨A,m,c,us,rfl,h1,h2,h3,h4,h5⟩:=src_ok hs hx hsrc
    have ho:∀u∈us,u.oneCell'=true:=by
     intro u hu
     obtain ⟨j,hj⟩:=List.getElem?_of_mem hu
     have hjl:j<row.length:=by have:=(List.getElem?_eq_some_iff.1 hj).1;omega
     exact rep_one (h4 j u _ hj (List.getElem?_eq_getElem hjl)) (hone _ (List.getElem_mem hjl))
    exact ⟨m,us,srcRun_slice hu (by rw [h2,h1,Nat.mul_comm]) (fun h0=>h3 (by omega)) ho,h2,h4⟩
   ·split at he
    ·cases he
     cases hx with|rep hx=>cases hx with|nil=>exact ⟨0,[],srcRun_slice hu (by simp) (fun h=>by simp at h) (by simp),rfl,fun j u x hu=>by simp at hu⟩
    ·cases he
  ·cases he
 ·rename_i hu
  split at he
  ·rename_i b
   cases he
   have hv:=den_val hx
   subst hv
   refine ⟨b.size,bvs b.data.toList,srcRun_string hu b,by rw [bvs_len,bytesA_len],fun j u x hu hx=>?_⟩
   have hj:j<b.data.toList.length:=by have:=(List.getElem?_eq_some_iff.1 hu).1;rw [bvs_len] at this;exact this
   rw [bvs_at _ _ hj] at hu
   injection hu with hu;subst hu
   have e2:(bytesA b.data.toList)[j]?=some (.val (.int .u8 (bv (b.data.toList.getD j 0)))):=by
    simp only [bytesA,List.getElem?_map,List.getElem?_eq_getElem hj,Option.map_some,List.getD_eq_getElem?_getD,Option.getD_some]
   rw [e2] at hx
   injection hx with hx;subst hx
   exact .val _
  ·cases he
 ·cases he
theorem dstOf_ok {S0:Zone} {w0 w:World} {a:Act} {φ:Nat->Option Nat} (hs:SimO S0 w0 n [] s a w φ) {v:Value} {x:AV} (hx:Den (infoOf s.H φ) (Free S0 w φ []) w v x) {e:Nat} {cells:List AV} {s1:AS} (he:dstOf s e x=some (cells,s1)) :
  (v= .slice none 0 0∧cells= []∧ ∃ φ1,SimO S0 w0 n [] s1 a w φ1∧ ∀b,Free S0 w φ [] b->Free S0 w φ1 [] b) ∨
  ∃(g l c:Nat) (φ1:Nat->Option Nat),v= .slice (some ⟨g,0,none⟩) l c∧SimO S0 w0 n [g] s1 a w φ1∧(∀b,Free S0 w φ [] b->Free S0 w φ1 [g] b)∧l≤c∧c≤maxLen∧cells.length=e*l∧(w0.heap.size≤g∨S0.X g)∧g<w.heap.size ∧
   ∃cur te fr,w.heap[g]?=some (.cells cur te fr)∧(∀j,j<cur.size-> ¬(fr.1≤j∧j<fr.2))∧cur.size=e*c∧ ∀(j:Nat) u x,cur[j]?=some u->cells[j]?=some x->Rep (Free S0 w φ []) w u x:=by
 have own:∀(id g l c m:Nat) (e':Nat) (fu:Bool) (rc:List AV),look s.H id=some ⟨e',true,fu,rc⟩->infoOf s.H φ id=some (e',m,some g)->e=e'->l≤c->c≤maxLen->cellsLen w g=e'*c->cells.length=e*l->(∀(j:Nat) x,cells[j]?=some x->rc[j]?=some x)->s1=retire id s->v= .slice (some ⟨g,0,none⟩) l c ->
   ∃(g l c:Nat) (φ1:Nat->Option Nat),v= .slice (some ⟨g,0,none⟩) l c∧SimO S0 w0 n [g] s1 a w φ1∧(∀b,Free S0 w φ [] b->Free S0 w φ1 [g] b)∧l≤c∧c≤maxLen∧cells.length=e*l∧(w0.heap.size≤g∨S0.X g)∧g<w.heap.size ∧
   ∃cur te fr,w.heap[g]?=some (.cells cur te fr)∧(∀j,j<cur.size-> ¬(fr.1≤j∧j<fr.2))∧cur.size=e*c∧ ∀(j:Nat) u x,cur[j]?=some u->cells[j]?=some x->Rep (Free S0 w φ []) w u x:=by
  intro id g l c m e' fu rc hr hi hee hlc hcm hcl hlen hsub hs1 hv
  subst hs1;subst hee
  obtain ⟨r',hr',-,-,hφ⟩:=info_some hi
  obtain ⟨cur,te,fr,hg,hf,hle,hc⟩:=row_pure hs hr rfl hφ
  refine ⟨g,l,c,erase φ id,hv,hs.retire_ id [g] (by rw [hφ]),fun b hb=>⟨hb.1,by simp;exact fun e=>hb.2.2.1 id (by rw [hφ,e]),fun i hi=>?_,hb.2.2.2⟩,hlc,hcm,hlen,(hs.rng id g hφ).1.2,(hs.rng id g hφ).2,cur,te,fr,hg,hf,?_,fun j u x hu hx=>hc j u x hu (hsub j x hx)⟩
  ·unfold erase at hi
   split at hi
   ·cases hi
   ·exact hb.2.2.1 i hi
  ·unfold cellsLen at hcl;rw [hg] at hcl;exact hcl
 have none_:∀id,φ id=none->s1=retire id s->v= .slice none 0 0->cells= []->v= .slice none 0 0∧cells= []∧ ∃ φ1,SimO S0 w0 n [] s1 a w φ1∧ ∀b,Free S0 w φ [] b->Free S0 w φ1 [] b:=by
  intro id hφ hs1 hv hc
  subst hs1
  refine ⟨hv,hc,erase φ id,hs.retire_ id [] (by rw [hφ]),fun b hb=>⟨hb.1,by simp,fun i hi=>?_,hb.2.2.2⟩⟩
  unfold erase at hi
  split at hi
  ·cases hi
  ·exact hb.2.2.1 i hi
 cases hx with
 | rep hx =>
  cases hx with
  | nil=>cases he;exact .inl ⟨rfl,rfl,φ,hs,fun _ h=>h⟩
  | _=>cases he
 | agg=>cases he
 | tup=>cases he
 | dead=>cases he
 | addr=>cases he
 | win=>cases he
 | ref id e' m g l c hi hm hc hx hs' =>
  obtain ⟨r,hr,h1,h2,hφ⟩:=info_some hi
  obtain ⟨re,rp,rf,rc⟩:=r
  simp only [dstOf,hr] at he
  split at he
  ·rename_i heq
   injection heq with heq;cases heq
   split at he
   ·rename_i hb
    have hb:=Nat.eq_of_beq_eq_true hb
    cases he
    simp only at h1 h2
    subst h1
    exact .inr (own id g l c m _ _ _ hr hi hb hc hx hs' (by rw [h2,hm,hb]) (fun _ _ h=>h) rfl rfl)
   ·cases he
  ·cases he
 | refnil id e' hi =>
  obtain ⟨r,hr,h1,h2,hφ⟩:=info_some hi
  obtain ⟨re,rp,rf,rc⟩:=r
  simp only [dstOf,hr] at he
  split at he
  ·rename_i heq
   injection heq with heq;cases heq
   split at he
   ·cases he
    simp only at h2
    exact .inl (none_ id hφ rfl rfl (List.length_eq_zero_iff.1 h2))
   ·cases he
  ·cases he
 | pre id k e' m g l c hi hn hm hc hx hs' =>
  obtain ⟨r,hr,h1,h2,hφ⟩:=info_some hi
  obtain ⟨re,rp,rf,rc⟩:=r
  simp only [dstOf,hr] at he
  split at he
  ·rename_i heq
   injection heq with heq;cases heq
   split at he
   ·rename_i hb
    have hb:=Nat.eq_of_beq_eq_true hb
    cases he
    simp only at h1 h2
    subst h1
    exact .inr (own id g l c m _ _ _ hr hi hb hc hx hs' (by rw [List.length_take,h2,hb,←hn];omega) (fun j x h=>take_get _ _ _ _ h) rfl rfl)
   ·cases he
  ·cases he
 | prenil id e' hi =>
  obtain ⟨r,hr,h1,h2,hφ⟩:=info_some hi
  obtain ⟨re,rp,rf,rc⟩:=r
  simp only [dstOf,hr] at he
  split at he
  ·rename_i heq
   injection heq with heq;cases heq
   split at he
   ·cases he
    exact .inl (none_ id hφ rfl rfl (by simp))
   ·cases he
  ·cases he
theorem evAppend_ok {t xt d:Nat} {x y:Operand} (ho:o.op= .call ⟨.builtin .append,⟨[x,y]⟩,⟨[t,xt]⟩⟩) (hd:o.dst=some d) (hr:evAppend P n s d t xt (opd s x) (opd s y) h=some q):OpOK P n s o q.1 q.2:=by
 intro hC S0 w0 a w Q ⟨φ,hs⟩
 unfold evAppend at hr
 split at hr
 ·rename_i el hu
  split at hr
  ·rename_i i hi
   split at hr
   ·rename_i zero z b hz hsz hby
    split at hr
    ·rename_i cells s1 row hzs hdst hsrc
     split at hr
     ·rename_i C s' hpl hput
      injection hr with hr;subst hr
      obtain ⟨hn,hC2⟩:=named_ok hC
      obtain ⟨hpr,hbd,-⟩:=plainC_ok hpl hC2
      have hzs:=Nat.eq_of_beq_eq_true hzs
      replace hsz:i.size=z+1:=hsz
      replace hby:i.bytes=b+1:=hby
      obtain ⟨m,us,hsr,hul,hrep⟩:=srcAny_ok (P:=P) hs (hs.opd y) hsrc hpr
      have hrow:row.length=(z+1)*m:=by rw [←hul,hsr.hl,Nat.mul_comm]
      rw [hn] at hput
      have wp:∀v' w',(Builtin.append_ #[t,xt] o.type #[a.eval x,a.eval y]).run P w= .ok v' w'->Sim S0 w0 n s' (a.put o.dst v') w'->o.wp P a w (fun a' w'=>Sim S0 w0 n s' a' w') Q:=by
       intro v' w' hrun hsim
       refine wp_of_run (v:=v') (w':=w') ?_ hsim
       unfold execOp
       simp [ho,resolve,invoke,builtin,hrun]
      have rlook:∀s1:AS,look (retire d s1).H d=none:=fun s1=>look_retire_none d
      rcases dstOf_ok hs (hs.opd x) hdst with ⟨hv,hce,φ1,hs1,hF⟩|⟨g,l,c,φ1,hv,hs1,hF,hlc,hcm,hcl,hg0,hg1,cur,te,fr,hg,hf,hcs,hold⟩
      ·subst hce
       simp only [List.nil_append,List.length_nil,Nat.zero_add] at hput hbd
       have hnb:m*i.bytes≤140737488355328:=by
        have:=need_ok (l:=0) (m:=m) (by omega) (by rw [Nat.zero_add];exact hrow) hbd
        rw [Nat.zero_add] at this;rw [hby];exact this
       have hs2:=hs1.retire0 d
       rcases run_appN (ty:=o.type) hu hi hz (by rw [hzs,hsz]) (by omega) (by rw [hsz];exact hsr) hnb with ⟨hm,hrun⟩|⟨v',w',hrun,hA⟩
       ·have hre:row= []:=List.length_eq_zero_iff.1 (by rw [hrow,hm];simp)
        subst hre
        refine wp (.slice none 0 0) w (by rw [hv];exact hrun) ⟨erase φ1 d,?_⟩
        rw [hd]
        exact putD_ok (hs2.adopt_nil (id:=d) (r:=⟨z+1,true,false,[]⟩) (rlook s1) rfl) (.refnil d (z+1) (by rw [info_of (r:=⟨z+1,true,false,[]⟩) (by rw [look_cons,if_pos rfl]),hs2.only d (rlook s1)];rfl)) hput
       ·rw [hsz] at hA
        obtain ⟨φ2,h3,h4⟩:=hs2.appended (g0:=none) rfl (by simp) (by simp) (putD_lt hput) (rlook s1) hA (row:=row) hul.symm (fun j u x hu hx=>(hrep j u x hu hx).mono fun b hb=>⟨⟨hb.1,by simp,fun i hi=>by
         unfold erase at hi
         split at hi
         ·cases hi
         ·exact (hF b hb).2.2.1 i hi,hb.2.2.2⟩,rfl⟩)
        refine wp _ _ (by rw [hv];exact hrun) ⟨φ2,?_⟩
        rw [hd]
        exact putD_ok h3 h4 hput
      ·have htk:(cur.toList.take (l*(z+1))).length=cells.length:=by
        have hcl2:cur.toList.length=cur.size:=rfl
        rw [List.length_take,hcl,hcl2,hcs,Nat.mul_comm]
        exact Nat.min_eq_left (Nat.mul_le_mul_left _ hlc)
       have hnb:(l+m)*i.bytes≤140737488355328:=by
        rw [hby];exact need_ok (by omega) (by rw [hcl,hrow,←Nat.mul_add]) hbd
       have hs2:SimO S0 w0 n [g] (retire d s1) a w (erase φ1 d):=by
        cases hφd:φ1 d with
        | none=>exact hs1.retire_ d [g] (by rw [hφd])
        | some gd=>exact (hs1.retire_ d [gd,g] (by rw [hφd])).free_
       obtain ⟨v',w',g',hrun,hA⟩:=run_appO (ty:=o.type) hu hi hz (by rw [hzs,hsz]) (by omega) (by rw [hsz];exact hsr) hg hf (by rw [hsz];exact hcs) hlc hcm hnb
       rw [hsz] at hA
       have hFr:∀b,Free S0 w φ [] b->Free S0 w (erase φ1 d) [g] b:=fun b hb=>⟨hb.1,(hF b hb).2.1,fun i hi=>by
        unfold erase at hi
        split at hi
        ·cases hi
        ·exact (hF b hb).2.2.1 i hi,hb.2.2.2⟩
       obtain ⟨φ2,h3,h4⟩:=hs2.appended (g0:=some g) rfl (by simpa using hg0) (by simpa using hg1) (putD_lt hput) (rlook s1) hA (row:=cells++row) (by rw [List.length_append,List.length_append,htk,hul]) (fun j u x hu hx=>by
        refine Rep.mono (fun b hb=>⟨hFr b hb,rfl⟩) (?_:Rep (Free S0 w φ []) w u x)
        by_cases hj:j<cells.length
        ·rw [List.getElem?_append_left (by omega)] at hu
         rw [List.getElem?_append_left hj] at hx
         have:=take_get _ _ _ _ hu
         exact hold j u x (by simpa using this) hx
        ·rw [List.getElem?_append_right (by omega)] at hu
         rw [List.getElem?_append_right (by omega)] at hx
         rw [htk] at hu
         exact hrep _ u x hu hx)
       refine wp _ _ (by rw [hv];exact hrun) ⟨φ2,?_⟩
       rw [hd]
       exact putD_ok h3 h4 hput
     ·cases hr
    ·cases hr
   ·cases hr
  ·cases hr
 ·cases hr
def copyTo (s:AS):AV->Option (Nat×Nat×Nat)
 | .ref id=>(match look s.H id with|some r=>some (id,0,r.cells.length)|none=>none)
 | .pre id l=>some (id,0,l)
 | .win id o l=>some (id,o,l)
 | _=>none
def evCopy (P:Program) (n:Nat) (s:AS) (d:Option Nat) (t xt:Nat) (x y:AV) (h:Hint):Option (AS×List Prop) :=
 match P.underlying t with
 | some (.slice el)=>(match sizeT P el,copyTo s x with
  | some (z+1),some (id,off,l)=>(match look s.H id,srcAny P s xt (z+1) y with
   | some ⟨e,true,fu,cells⟩,some row=>(match Nat.beq e (z+1),plainC h row,putD n (setH s id ⟨e,true,fu,(named h (setCells cells off (row.take (mul1 h.k (z+1))))).1⟩) d (.val (.int .i64 h.k)) with
    | true,some C,some s'=>some (s',(named h (setCells cells off (row.take (mul1 h.k (z+1))))).2++(C++ [min row.length l=mul1 h.k (z+1),0<l]))
    | _,_,_=>none)
   | _,_=>none)
  | _,_=>none)
 | _=>none
theorem evCopy_ok {t xt:Nat} {x y:Operand} (ho:o.op= .call ⟨.builtin .copy,⟨[x,y]⟩,⟨[t,xt]⟩⟩) (hr:evCopy P n s o.dst t xt (opd s x) (opd s y) h=some q):OpOK P n s o q.1 q.2:=by
 intro hC S0 w0 a w Q ⟨φ,hs⟩
 unfold evCopy at hr
 split at hr
 ·rename_i el hu
  split at hr
  ·rename_i z id off l hsz hto
   split at hr
   ·rename_i e fu cells row hrow hsrc
    split at hr
    ·rename_i C s' he hpl hput
     injection hr with hr;subst hr
     have he:=Nat.eq_of_beq_eq_true he
     obtain ⟨hn,hC2⟩:=named_ok hC
     obtain ⟨hpr,hmin,hl0,-⟩:=plainC_ok hpl hC2
     obtain ⟨m,us,hsr,hul,hrep⟩:=srcAny_ok (P:=P) hs (hs.opd y) hsrc hpr
     rw [mul1_eq] at hmin
     have hrl:row.length=(z+1)*m:=by rw [←hul,hsr.hl,Nat.mul_comm]
     have hI:=info_of (φ:=φ) hrow
     have hx:=hs.opd x
     have hdst:∃(g dl c:Nat),a.eval x= .slice (some ⟨g,off,none⟩) dl c∧φ id=some g∧l=(z+1)*dl∧off+l≤cells.length:=by
      generalize a.eval x=V at hx
      unfold copyTo at hto
      split at hto
      ·rename_i id' hxe
       rw [hxe] at hx
       split at hto
       ·rename_i r' hr'
        cases hto
        rw [hrow] at hr';injection hr' with hr';subst hr'
        cases hx with
        | rep h=>cases h
        | ref _ e' m' g l' c hi hm hc hx hs' =>
         rw [hI] at hi;injection hi with hi;injection hi with h1 hi;injection hi with h2 h3
         simp only at h1 h2 ⊢
         exact ⟨g,l',c,rfl,h3,by rw [h2,hm,←h1,he],by omega⟩
        | refnil _ e' hi =>
         rw [hI] at hi;injection hi with hi;injection hi with h1 hi;injection hi with h2 h3
         simp only at h2 hl0;omega
       ·cases hto
      ·rename_i id' l' hxe
       rw [hxe] at hx
       cases hto
       cases hx with
       | rep h=>cases h
       | pre _ _ e' m' g l' c hi hn' hm hc hx hs' =>
        rw [hI] at hi;injection hi with hi;injection hi with h1 hi;injection hi with h2 h3
        simp only at h1 h2 ⊢
        exact ⟨g,l',c,rfl,h3,by rw [hn',←h1,he],by omega⟩
       | prenil _ e' hi=>omega
      ·rename_i id' o' l' hxe
       rw [hxe] at hx
       cases hto
       cases hx with
       | rep h=>cases h
       | win _ _ _ e' m' l' c g A hi hn' hm hc hx ha =>
        rw [hI] at hi;injection hi with hi;injection hi with h1 hi;injection hi with h2 h3
        obtain ⟨b,hb,rfl⟩:=ha hl0
        simp only at h1 h2 ⊢
        exact ⟨b,l',c,rfl,by rw [h3,hb],by rw [hn',←h1,he],by omega⟩
      ·cases hto
     obtain ⟨g,dl,c,hv,hφ,hl,hfit⟩:=hdst
     obtain ⟨cur,te,fr,hg,hf,hle,hold⟩:=row_at hs hrow hφ
     have hle':cells.length≤cur.size:=hle
     have hkm:min m dl=h.k:=by
      rw [hrl,hl,Nat.mul_comm h.k,Nat.mul_min_mul_left] at hmin
      exact Nat.eq_of_mul_eq_mul_left (by omega) hmin
     have hkl:h.k*(z+1)≤l:=by omega
     have hkr:h.k*(z+1)≤row.length:=by omega
     have htl:(row.take (mul1 h.k (z+1))).length=h.k*(z+1):=by rw [mul1_eq,List.length_take];omega
     have hut:(us.take (h.k*(z+1))).length=h.k*(z+1):=by rw [List.length_take];omega
     have hcells:(Builtin.firstCells (z+1) h.k (a.eval y)).run P w= .ok (us.take (h.k*(z+1))).toArray w:=hsr.part w h.k rfl (by omega)
     have hone:∀u∈us.take (h.k*(z+1)),u.oneCell'=true:=fun u hu=>hsr.one u (List.mem_of_mem_take hu)
     have hst:=run_storeCells_free P g te fr cur.size hf off (us.take (h.k*(z+1))) 0 cur w hg (by rw [hut];omega) rfl hone
     simp only [Nat.add_zero] at hst
     have hsim:=hs.written (off:=off) (l:=row.take (mul1 h.k (z+1))) (vs:=us.take (h.k*(z+1))) hrow hφ hg hle hold (by rw [htl,hut]) (by rw [htl];simp only;omega) hn (fun j u x hu hx=>by
      show Rep _ _ _ _
      exact hrep j u x (take_get _ _ _ _ hu) (take_get _ _ _ _ hx))
     have hsz':(sizeOf el).run P w= .ok (z+1) w:=run_sizeOf hsz
     refine wp_of_run (v:=.int .i64 h.k) (w':=w.setRow g (cur.toList.take off++us.take (h.k*(z+1))++cur.toList.drop (off+(us.take (h.k*(z+1))).length)).toArray) ?_ ⟨φ,putD_ok hsim (.rep (.val _)) hput⟩
     have hnm:Nat.min m dl=h.k:=hkm
     unfold execOp
     simp [ho,resolve,invoke,builtin,Builtin.copy_,run_underlying hu,hv,hsr.len,hnm,hsz',hcells,hst,goInt]
    ·cases hr
   ·cases hr
  ·cases hr
 ·cases hr
end
end Go.Proofs.YtejpabdmiagnnaaGreatDoor
namespace Go.Proofs.YtejpabdmiagnnaaGreatDoor
open Go.RowKit
inductive Giv0 (S:Nat->Prop) (w:World):Value->AV->List Nat->Prop
 | rep {v:Value} {x:AV} (h:Rep S w v x):Giv0 S w v x []
 | nil (e:Nat):Giv0 S w (.slice none 0 0) (.own e []) []
 | own (g l c e:Nat) (row:List AV) (cur:Array Value) (te:TypeId) (fr:Nat×Nat) (hg:w.heap[g]?=some (.cells cur te fr)) (hf:∀j,j<cur.size-> ¬(fr.1≤j∧j<fr.2)) (hl:row.length=e*l) (hc:l≤c) (hm:c≤maxLen) (hs:cur.size=e*c)
   (h:∀(j:Nat) u x,cur[j]?=some u->row[j]?=some x->Rep S w u x):Giv0 S w (.slice (some ⟨g,0,none⟩) l c) (.own e row) [g]
 | box (g:Nat) (row:List AV) (cur:Array Value) (te:TypeId) (fr:Nat×Nat) (hg:w.heap[g]?=some (.cells cur te fr)) (hf:∀j,j<cur.size-> ¬(fr.1≤j∧j<fr.2)) (hs:cur.size=row.length)
   (h:∀(j:Nat) u x,cur[j]?=some u->row[j]?=some x->Rep S w u x):Giv0 S w (.pointer (some ⟨g,0,none⟩)) (.box row) [g]
inductive GivL (R:Value->AV->List Nat->Prop):List Value->List AV->List Nat->Prop
 | nil:GivL R [] [] []
 | cons {v:Value} {x:AV} {vs:List Value} {xs:List AV} {O1 O2:List Nat} (h:R v x O1) (t:GivL R vs xs O2):GivL R (v::vs) (x::xs) (O1++O2)
def Giv1 (S:Nat->Prop) (w:World) (v:Value) (x:AV) (O:List Nat):Prop:=Giv0 S w v x O∨ ∃vs cs,v= .agg (List.toArray vs)∧x= .agg cs∧GivL (Giv0 S w) vs cs O
def Giv (S:Nat->Prop) (w:World) (v:Value) (x:AV) (O:List Nat):Prop:=Giv1 S w v x O∨ ∃vs cs,v= .tuple (List.toArray vs)∧x= .tup cs∧GivL (Giv1 S w) vs cs O
theorem GivL.imp {R R':Value->AV->List Nat->Prop} (hR:∀v x O,R v x O->R' v x O) {vs:List Value} {xs:List AV} {O:List Nat} (h:GivL R vs xs O):GivL R' vs xs O:=by
 induction h with
 | nil=>exact .nil
 | cons h _ ih=>exact .cons (hR _ _ _ h) ih
section
variable {S S':Nat->Prop} {w:World}
theorem Giv0.mono (hS:∀b,S b->S' b) {v:Value} {x:AV} {O:List Nat} (h:Giv0 S w v x O):Giv0 S' w v x O:=by
 cases h with
 | rep h=>exact .rep (h.mono fun b hb=>⟨hS b hb,rfl⟩)
 | nil e=>exact .nil e
 | own g l c e row cur te fr hg hf hl hc hm hs h=>exact .own g l c e row cur te fr hg hf hl hc hm hs fun j u x hu hx=>(h j u x hu hx).mono fun b hb=>⟨hS b hb,rfl⟩
 | box g row cur te fr hg hf hs h=>exact .box g row cur te fr hg hf hs fun j u x hu hx=>(h j u x hu hx).mono fun b hb=>⟨hS b hb,rfl⟩
theorem Giv1.mono (hS:∀b,S b->S' b) {v:Value} {x:AV} {O:List Nat} (h:Giv1 S w v x O):Giv1 S' w v x O:=by
 rcases h with h|⟨vs,cs,h1,h2,h3⟩
 ·exact .inl (h.mono hS)
 ·exact .inr ⟨vs,cs,h1,h2,h3.imp fun _ _ _ h=>h.mono hS⟩
theorem Giv.mono (hS:∀b,S b->S' b) {v:Value} {x:AV} {O:List Nat} (h:Giv S w v x O):Giv S' w v x O:=by
 rcases h with h|⟨vs,cs,h1,h2,h3⟩
 ·exact .inl (h.mono hS)
 ·exact .inr ⟨vs,cs,h1,h2,h3.imp fun _ _ _ h=>h.mono hS⟩
end
def Ret (P:Program) (f:FuncId) (args:List AV) (r:AV):Prop :=
 ∀(w:World) (S:Nat->Prop) (vs:List Value),Good w->(∀b,S b->b<w.heap.size)->vs.length=args.length->(∀(j:Nat) v x,vs[j]?=some v->args[j]?=some x->Rep S w v x) ->
  Calls P f vs.toArray w fun e w'=>∃v O,e= .returned v∧Below w.heap.size w w'∧O.Nodup∧(∀g∈O,w.heap.size≤g∧g<w'.heap.size)∧Giv (fun b=>S b∨(w.heap.size≤b∧b<w'.heap.size∧b ∉ O)) w' v r O
def valR (row:List AV):Prop:=∀x∈row,∃v,x= .val v
theorem valR_bytes (l:List UInt8):valR (bytesA l):=by
 intro x hx;simp only [bytesA,List.mem_map] at hx;obtain ⟨c,_,rfl⟩:=hx;exact ⟨_,rfl⟩
def flat0:AV->Option (List Prop)
 | .val _=>some []
 | .nil=>some []
 | .own _ row=>some [valR row]
 | .box row=>some [valR row]
 | _=>none
def flatL (f:AV->Option (List Prop)):List AV->Option (List Prop)
 | []=>some []
 | x::l=>match f x,flatL f l with|some a,some b=>some (a++b)|_,_=>none
def flat1:AV->Option (List Prop)
 | .agg cs=>flatL flat0 cs
 | x=>flat0 x
def flat:AV->Option (List Prop)
 | .tup cs=>flatL flat1 cs
 | x=>flat1 x
theorem allP_app {C D:List Prop}:AllP (C++D)↔AllP C∧AllP D:=by
 induction C with
 | nil=>simp [AllP]
 | cons p C ih=>simp only [List.cons_append,AllP,ih,and_assoc]
section
variable {S S':Nat->Prop} {w:World}
theorem flat0_ok {v:Value} {x:AV} {O:List Nat} {C:List Prop} (hf:flat0 x=some C) (hC:AllP C) (h:Giv0 S w v x O):Giv0 S' w v x O:=by
 cases h with
 | rep h=>cases h with
  | val v=>exact .rep (.val v)
  | nil=>exact .rep .nil
  | _=>cases hf
 | nil e=>exact .nil e
 | own g l c e row cur te fr hg hfr hl hc hm hs h =>
  refine .own g l c e row cur te fr hg hfr hl hc hm hs fun j u x hu hx=>?_
  have hv:valR row:=by injection hf with hf;subst hf;exact hC.1
  obtain ⟨v',rfl⟩:=hv x (List.mem_of_getElem? hx)
  have:=h j u _ hu hx
  cases this
  exact .val _
 | box g row cur te fr hg hfr hs h =>
  refine .box g row cur te fr hg hfr hs fun j u x hu hx=>?_
  have hv:valR row:=by injection hf with hf;subst hf;exact hC.1
  obtain ⟨v',rfl⟩:=hv x (List.mem_of_getElem? hx)
  have:=h j u _ hu hx
  cases this
  exact .val _
theorem flatL_ok {R R':Value->AV->List Nat->Prop} {f:AV->Option (List Prop)} (hR:∀v x O C,f x=some C->AllP C->R v x O->R' v x O) {vs:List Value} {xs:List AV} {O:List Nat} (h:GivL R vs xs O):∀C,flatL f xs=some C->AllP C->GivL R' vs xs O:=by
 induction h with
 | nil=>intro _ _ _;exact .nil
 | cons h _ ih =>
  intro C hf hC
  simp only [flatL] at hf
  split at hf
  ·rename_i a b ha hb
   cases hf
   obtain ⟨h1,h2⟩:=allP_app.1 hC
   exact .cons (hR _ _ _ _ ha h1 h) (ih b hb h2)
  ·cases hf
theorem flat1_ok {v:Value} {x:AV} {O:List Nat} {C:List Prop} (hf:flat1 x=some C) (hC:AllP C) (h:Giv1 S w v x O):Giv1 S' w v x O:=by
 rcases h with h|⟨vs,cs,h1,rfl,h3⟩
 ·by_cases hx:∃cs,x= .agg cs
  ·obtain ⟨cs,rfl⟩:=hx
   cases h with
   | rep h=>cases h with
    | agg vs _ hl h =>
     right
     refine ⟨vs,cs,rfl,rfl,?_⟩
     have key:∀(vs:List Value) (cs:List AV) (C:List Prop),vs.length=cs.length->(∀(j:Nat) v c,vs[j]?=some v->cs[j]?=some c->Rep S w v c)->flatL flat0 cs=some C->AllP C->GivL (Giv0 S' w) vs cs []:=by
      intro vs cs
      induction cs generalizing vs with
      | nil=>intro C hl _ _ _;cases vs with|nil=>exact .nil|cons=>simp at hl
      | cons c cs ih =>
       intro C hl hr hf hC
       cases vs with
       | nil=>simp at hl
       | cons v vs =>
        simp only [flatL] at hf
        split at hf
        ·rename_i a b ha hb
         cases hf
         obtain ⟨h1,h2⟩:=allP_app.1 hC
         exact GivL.cons (O1:=[]) (O2:=[]) (flat0_ok ha h1 (.rep (hr 0 v c rfl rfl))) (ih vs b (by simpa using hl) (fun j v c hv hc=>hr (j+1) v c (by simpa using hv) (by simpa using hc)) hb h2)
        ·cases hf
     exact key vs cs C hl h hf hC
  ·have:flat1 x=flat0 x:=by
    cases x with
    | agg cs=>exact absurd ⟨cs,rfl⟩ hx
    | _=>rfl
   rw [this] at hf
   exact .inl (flat0_ok hf hC h)
 ·exact .inr ⟨vs,cs,h1,rfl,flatL_ok (f:=flat0) (R':=Giv0 S' w) (fun _ _ _ _ a b c=>flat0_ok a b c) h3 C hf hC⟩
theorem flat_ok {v:Value} {x:AV} {O:List Nat} {C:List Prop} (hf:flat x=some C) (hC:AllP C) (h:Giv S w v x O):Giv S' w v x O:=by
 rcases h with h|⟨vs,cs,h1,rfl,h3⟩
 ·by_cases hx:∃cs,x= .tup cs
  ·obtain ⟨cs,rfl⟩:=hx
   rcases h with h|⟨vs,cs',h1,h2,h3⟩
   ·cases h with
    | rep h=>cases h with
     | tup vs _ hl h =>
      right
      refine ⟨vs,cs,rfl,rfl,?_⟩
      have key:∀(vs:List Value) (cs:List AV) (C:List Prop),vs.length=cs.length->(∀(j:Nat) v c,vs[j]?=some v->cs[j]?=some c->Rep S w v c)->flatL flat1 cs=some C->AllP C->GivL (Giv1 S' w) vs cs []:=by
       intro vs cs
       induction cs generalizing vs with
       | nil=>intro C hl _ _ _;cases vs with|nil=>exact .nil|cons=>simp at hl
       | cons c cs ih =>
        intro C hl hr hf hC
        cases vs with
        | nil=>simp at hl
        | cons v vs =>
         simp only [flatL] at hf
         split at hf
         ·rename_i a b ha hb
          cases hf
          obtain ⟨h1,h2⟩:=allP_app.1 hC
          exact GivL.cons (O1:=[]) (O2:=[]) (flat1_ok ha h1 (.inl (.rep (hr 0 v c rfl rfl)))) (ih vs b (by simpa using hl) (fun j v c hv hc=>hr (j+1) v c (by simpa using hv) (by simpa using hc)) hb h2)
         ·cases hf
      exact key vs cs C hl h hf hC
   ·cases h2
  ·have:flat x=flat1 x:=by
    cases x with
    | tup cs=>exact absurd ⟨cs,rfl⟩ hx
    | _=>rfl
   rw [this] at hf
   exact .inl (flat1_ok hf hC h)
 ·exact .inr ⟨vs,cs,h1,rfl,flatL_ok (f:=flat1) (R':=Giv1 S' w) (fun _ _ _ _ a b c=>flat1_ok a b c) h3 C hf hC⟩
end
def adLeaf (id:Nat):AV->AV×List (Nat×Row)
 | .own e row=>(.ref id,[(id,⟨e,true,false,row⟩)])
 | .box row=>(.addr id 0,[(id,⟨1,false,true,row⟩)])
 | x=>(x,[])
def adList (f:Nat->AV->AV×List (Nat×Row)) (step:Nat):Nat->List AV->List AV×List (Nat×Row)
 | _,[]=>([],[])
 | id,x::l=>((f id x).1::(adList f step (id+step) l).1,(adList f step (id+step) l).2++(f id x).2)
def adAgg (id:Nat):AV->AV×List (Nat×Row)
 | .agg cs=>(.agg (adList adLeaf 100000 (id+100000) cs).1,(adList adLeaf 100000 (id+100000) cs).2)
 | x=>adLeaf id x
def adTop (d:Nat):AV->AV×List (Nat×Row)
 | .tup cs=>(.tup (adList adAgg 1000 (d+1000) cs).1,(adList adAgg 1000 (d+1000) cs).2)
 | x=>adAgg d x
section
variable {S0:Zone} {w0 w:World} {n:Nat} {a:Act}
def Ext (S0:Zone) (w:World) (s s':AS) (φ φ':Nat->Option Nat) (O O':List Nat):Prop :=
 (∀i y,infoOf s.H φ i=some y->infoOf s'.H φ' i=some y)∧(∀b,Free S0 w φ O b->Free S0 w φ' O' b)
theorem Ext.den {s s':AS} {φ φ':Nat->Option Nat} {O O':List Nat} (h:Ext S0 w s s' φ φ' O O') {v:Value} {x:AV} (hd:Den (infoOf s.H φ) (Free S0 w φ O) w v x):Den (infoOf s'.H φ') (Free S0 w φ' O') w v x :=
 hd.mono h.1 (fun b hb=>⟨h.2 b hb,rfl⟩) (fun _ _ _ _ _=>rfl)
theorem Ext.trans {s s1 s2:AS} {φ φ1 φ2:Nat->Option Nat} {O O1 O2:List Nat} (h:Ext S0 w s s1 φ φ1 O O1) (k:Ext S0 w s1 s2 φ1 φ2 O1 O2):Ext S0 w s s2 φ φ2 O O2 :=
 ⟨fun i y hi=>k.1 i y (h.1 i y hi),fun b hb=>k.2 b (h.2 b hb)⟩
def Takes (S0:Zone) (w0 w:World) (n:Nat) (a:Act) (R:(Nat->Prop)->Value->AV->List Nat->Prop) (f:Nat->AV->AV×List (Nat×Row)):Prop :=
 ∀(s:AS) (φ:Nat->Option Nat) (O1 O:List Nat) (v:Value) (x:AV) (id:Nat),SimO S0 w0 n (O1++O) s a w φ->R (Free S0 w φ (O1++O)) v x O1->(O1++O).Nodup->(∀g∈O1,(w0.heap.size≤g∨S0.X g)∧g<w.heap.size)->(∀i∈(f id x).2.map (·.1),look s.H i=none∧i<1000000000000)->((f id x).2.map (·.1)).Nodup ->
  ∃ φ',SimO S0 w0 n O ⟨s.F,(f id x).2++s.H⟩ a w φ'∧Den (infoOf ((f id x).2++s.H) φ') (Free S0 w φ' O) w v (f id x).1∧Ext S0 w s ⟨s.F,(f id x).2++s.H⟩ φ φ' (O1++O) O
theorem takes_leaf:Takes S0 w0 w n a (fun S=>Giv0 S w) adLeaf:=by
 intro s φ O1 O v x id h hg hnd hrg hfr _
 cases hg with
 | rep hrep =>
  have hx:adLeaf id x=(x,[]):=by
   cases hrep<;>rfl
  rw [hx]
  exact ⟨φ,h,.rep hrep,fun _ _ h=>h,fun _ h=>h⟩
 | nil e =>
  have hid:look s.H id=none:=(hfr id (by simp [adLeaf])).1
  have h1:=h.adopt_nil (id:=id) (r:=⟨e,true,false,[]⟩) hid rfl
  refine ⟨φ,h1,.refnil id e ?_,fun i y hi=>?_,fun _ h=>h⟩
  ·show infoOf ((id,⟨e,true,false,[]⟩)::s.H) φ id=_
   rw [info_of (r:=⟨e,true,false,[]⟩) (by rw [look_cons,if_pos rfl]),h.only id hid];rfl
  ·obtain ⟨e',m,b⟩:=y
   obtain ⟨q,hl,h1,h2,h3⟩:=info_some hi
   show infoOf ((id,_)::s.H) φ i=_
   have hne:id≠i:=fun e=>by subst e;rw [hid] at hl;cases hl
   rw [info_of (r:=q) (by rw [look_cons,if_neg hne,hl]),h1,h2,h3]
 | own g l c e row cur te fr hg hf hl hc hm hs hrep =>
  have hid:look s.H id=none:=(hfr id (by simp [adLeaf])).1
  have hgO:g ∉ O:=by
   have:=hnd
   simp only [List.cons_append,List.nil_append,List.nodup_cons] at this
   exact this.1
  have h1:=SimO.adopt (g:=g) (id:=id) (r:=⟨e,true,false,row⟩) h ⟨.inl (hfr id (by simp [adLeaf])).2,(hrg g (by simp)).1⟩ (hrg g (by simp)).2 hgO hid ⟨cur,te,fr,hg,hf,by simp only [hl,hs];exact Nat.mul_le_mul_left _ hc,fun h=>(by cases h),fun j u x hu hx=>by show Rep _ _ _ _;exact hrep j u x hu hx⟩
  refine ⟨_,h1,.ref id e row.length g l c ?_ hl hc hm (by unfold cellsLen;rw [hg];exact hs),fun i y hi=>?_,fun b hb=>(free_bind (h.only id hid) b).1 hb⟩
  ·show infoOf ((id,⟨e,true,false,row⟩)::s.H) _ id=_
   rw [info_of (r:=⟨e,true,false,row⟩) (by rw [look_cons,if_pos rfl])]
   unfold bind_;rw [if_pos rfl]
  ·obtain ⟨e',m,b⟩:=y
   obtain ⟨q,hl,h1,h2,h3⟩:=info_some hi
   show infoOf ((id,_)::s.H) _ i=_
   have hne:id≠i:=fun e=>by subst e;rw [hid] at hl;cases hl
   rw [info_of (r:=q) (by rw [look_cons,if_neg hne,hl]),h1,h2]
   unfold bind_;rw [if_neg (Ne.symm hne),h3]
 | box g row cur te fr hg hf hs hrep =>
  have hid:look s.H id=none:=(hfr id (by simp [adLeaf])).1
  have hgO:g ∉ O:=by
   have:=hnd
   simp only [List.cons_append,List.nil_append,List.nodup_cons] at this
   exact this.1
  have h1:=SimO.adopt (g:=g) (id:=id) (r:=⟨1,false,true,row⟩) h ⟨.inl (hfr id (by simp [adLeaf])).2,(hrg g (by simp)).1⟩ (hrg g (by simp)).2 hgO hid ⟨cur,te,fr,hg,hf,by simp only [hs];exact Nat.le_refl _,fun _=>hs,fun j u x hu hx=>by show Den _ _ _ _ _;exact .rep (hrep j u x hu hx)⟩
  refine ⟨_,h1,.addr id 0 1 row.length g ?_,fun i y hi=>?_,fun b hb=>(free_bind (h.only id hid) b).1 hb⟩
  ·show infoOf ((id,⟨1,false,true,row⟩)::s.H) _ id=_
   rw [info_of (r:=⟨1,false,true,row⟩) (by rw [look_cons,if_pos rfl])]
   unfold bind_;rw [if_pos rfl]
  ·obtain ⟨e',m,b⟩:=y
   obtain ⟨q,hl,h1,h2,h3⟩:=info_some hi
   show infoOf ((id,_)::s.H) _ i=_
   have hne:id≠i:=fun e=>by subst e;rw [hid] at hl;cases hl
   rw [info_of (r:=q) (by rw [look_cons,if_neg hne,hl]),h1,h2]
   unfold bind_;rw [if_neg (Ne.symm hne),h3]
theorem takes_list {R:(Nat->Prop)->Value->AV->List Nat->Prop} (hRm:∀S S' v x O,(∀b,S b->S' b)->R S v x O->R S' v x O) {f:Nat->AV->AV×List (Nat×Row)} (hf:Takes S0 w0 w n a R f) (step:Nat):∀(xs:List AV) (vs:List Value) (s:AS) (φ:Nat->Option Nat) (O1 O:List Nat) (id:Nat),SimO S0 w0 n (O1++O) s a w φ->GivL (R (Free S0 w φ (O1++O))) vs xs O1->(O1++O).Nodup->(∀g∈O1,(w0.heap.size≤g∨S0.X g)∧g<w.heap.size)->(∀i∈(adList f step id xs).2.map (·.1),look s.H i=none∧i<1000000000000)->((adList f step id xs).2.map (·.1)).Nodup ->
  ∃ φ',SimO S0 w0 n O ⟨s.F,(adList f step id xs).2++s.H⟩ a w φ'∧vs.length=(adList f step id xs).1.length∧(∀(j:Nat) v c,vs[j]?=some v->(adList f step id xs).1[j]?=some c->Den (infoOf ((adList f step id xs).2++s.H) φ') (Free S0 w φ' O) w v c)∧Ext S0 w s ⟨s.F,(adList f step id xs).2++s.H⟩ φ φ' (O1++O) O
 | [],vs,s,φ,O1,O,id,h,hg,hnd,hrg,hfr,hn=>by
  cases hg
  exact ⟨φ,h,rfl,fun j v c hv=>by simp at hv,fun _ _ h=>h,fun _ h=>h⟩
 | x::xs,vs,s,φ,O1,O,id,h,hg,hnd,hrg,hfr,hn=>by
  cases hg with
  | cons hx ht =>
   rename_i v vs Oa Ob
   rw [List.append_assoc] at h hnd hx ht
   simp only [adList,List.map_append] at hfr hn ⊢
   obtain ⟨φ1,h1,hd1,he1⟩:=hf s φ Oa (Ob++O) v x id h hx hnd (fun g hg=>hrg g (by simp [hg])) (fun i hi=>hfr i (by simp [hi])) (List.nodup_append.1 hn).2.1
   have hnd2:(Ob++O).Nodup:=(List.nodup_append.1 hnd).2.1
   obtain ⟨φ2,h2,hl2,hd2,he2⟩:=takes_list hRm hf step xs vs ⟨s.F,(f id x).2++s.H⟩ φ1 Ob O (id+step) h1 (ht.imp fun v x O hR=>hRm _ _ v x O (fun b hb=>he1.2 b hb) hR) hnd2 (fun g hg=>hrg g (by simp [hg])) (fun i hi=>⟨by
    rw [look_append]
    have h3:look (f id x).2 i=none:=by
     have hno:i ∉ (f id x).2.map (·.1):=fun hm=>(List.nodup_append.1 hn).2.2 i hi i hm rfl
     have key:∀(l:List (Nat×Row)),i ∉ l.map (·.1)->look l i=none:=by
      intro l
      induction l with
      | nil=>intro _;rfl
      | cons p l ih =>
       intro hm
       obtain ⟨k,r⟩:=p
       simp only [List.map_cons,List.mem_cons,not_or] at hm
       rw [look_cons,if_neg (Ne.symm hm.1),ih hm.2]
     exact key _ hno
    rw [h3,(hfr i (by simp [hi])).1];rfl,(hfr i (by simp [hi])).2⟩) (List.nodup_append.1 hn).1
   have e1:(adList f step (id+step) xs).2++((f id x).2++s.H)=((adList f step (id+step) xs).2++(f id x).2)++s.H:=by rw [List.append_assoc]
   rw [e1] at h2 hd2 he2
   rw [List.append_assoc Oa Ob O]
   refine ⟨φ2,h2,by simp [hl2],fun j v' c hv hc=>?_,he1.trans he2⟩
   cases j with
   | zero=>simp at hv hc;subst hv;subst hc;exact he2.den hd1
   | succ j=>exact hd2 j v' c (by simpa using hv) (by simpa using hc)
theorem takes_agg:Takes S0 w0 w n a (fun S=>Giv1 S w) adAgg:=by
 intro s φ O1 O v x id h hg hnd hrg hfr hn
 rcases hg with hg|⟨vs,cs,rfl,rfl,hL⟩
 ·by_cases hx:∃cs,x= .agg cs
  ·obtain ⟨cs,rfl⟩:=hx
   cases hg with
   | rep hrep=>cases hrep with
    | agg vs _ hl hrep =>
     have hL:GivL (Giv0 (Free S0 w φ ([]++O)) w) vs cs []:=by
      have key:∀(vs:List Value) (cs:List AV),vs.length=cs.length->(∀(j:Nat) v c,vs[j]?=some v->cs[j]?=some c->Rep (Free S0 w φ ([]++O)) w v c)->GivL (Giv0 (Free S0 w φ ([]++O)) w) vs cs []:=by
       intro vs cs
       induction cs generalizing vs with
       | nil=>intro hl _;cases vs with|nil=>exact .nil|cons=>simp at hl
       | cons c cs ih =>
        intro hl hr
        cases vs with
        | nil=>simp at hl
        | cons v vs=>exact GivL.cons (O1:=[]) (O2:=[]) (.rep (hr 0 v c rfl rfl)) (ih vs (by simpa using hl) fun j v c hv hc=>hr (j+1) v c (by simpa using hv) (by simpa using hc))
      exact key vs cs hl hrep
     obtain ⟨φ',h1,h2,h3,h4⟩:=takes_list (R:=fun S=>Giv0 S w) (fun S S' v x O hS h=>h.mono hS) takes_leaf 100000 cs vs s φ [] O (id+100000) h hL hnd hrg hfr hn
     exact ⟨φ',h1,.agg vs _ h2 h3,h4⟩
  ·have:adAgg id x=adLeaf id x:=by
    cases x with
    | agg cs=>exact absurd ⟨cs,rfl⟩ hx
    | _=>rfl
   rw [this] at hfr hn ⊢
   exact takes_leaf s φ O1 O v x id h hg hnd hrg hfr hn
 ·obtain ⟨φ',h1,h2,h3,h4⟩:=takes_list (R:=fun S=>Giv0 S w) (fun S S' v x O hS h=>h.mono hS) takes_leaf 100000 cs vs s φ O1 O (id+100000) h hL hnd hrg hfr hn
  exact ⟨φ',h1,.agg vs _ h2 h3,h4⟩
theorem takes_top:Takes S0 w0 w n a (fun S=>Giv S w) adTop:=by
 intro s φ O1 O v x id h hg hnd hrg hfr hn
 rcases hg with hg|⟨vs,cs,rfl,rfl,hL⟩
 ·by_cases hx:∃cs,x= .tup cs
  ·obtain ⟨cs,rfl⟩:=hx
   rcases hg with hg|⟨vs,cs',h1,h2,h3⟩
   ·cases hg with
    | rep hrep=>cases hrep with
     | tup vs _ hl hrep =>
      have hL:GivL (Giv1 (Free S0 w φ ([]++O)) w) vs cs []:=by
       have key:∀(vs:List Value) (cs:List AV),vs.length=cs.length->(∀(j:Nat) v c,vs[j]?=some v->cs[j]?=some c->Rep (Free S0 w φ ([]++O)) w v c)->GivL (Giv1 (Free S0 w φ ([]++O)) w) vs cs []:=by
        intro vs cs
        induction cs generalizing vs with
        | nil=>intro hl _;cases vs with|nil=>exact .nil|cons=>simp at hl
        | cons c cs ih =>
         intro hl hr
         cases vs with
         | nil=>simp at hl
         | cons v vs=>exact GivL.cons (O1:=[]) (O2:=[]) (.inl (.rep (hr 0 v c rfl rfl))) (ih vs (by simpa using hl) fun j v c hv hc=>hr (j+1) v c (by simpa using hv) (by simpa using hc))
       exact key vs cs hl hrep
      obtain ⟨φ',h1,h2,h3,h4⟩:=takes_list (R:=fun S=>Giv1 S w) (fun S S' v x O hS h=>h.mono hS) takes_agg 1000 cs vs s φ [] O (id+1000) h hL hnd hrg hfr hn
      exact ⟨φ',h1,.tup vs _ h2 h3,h4⟩
   ·cases h2
  ·have:adTop id x=adAgg id x:=by
    cases x with
    | tup cs=>exact absurd ⟨cs,rfl⟩ hx
    | _=>rfl
   rw [this] at hfr hn ⊢
   exact takes_agg s φ O1 O v x id h hg hnd hrg hfr hn
 ·obtain ⟨φ',h1,h2,h3,h4⟩:=takes_list (R:=fun S=>Giv1 S w) (fun S S' v x O hS h=>h.mono hS) takes_agg 1000 cs vs s φ O1 O (id+1000) h hL hnd hrg hfr hn
  exact ⟨φ',h1,.tup vs _ h2 h3,h4⟩
def retireAll:AS->List Nat->AS
 | s,[]=>s
 | s,i::l=>retireAll (retire i s) l
theorem retireAll_ok:∀(l:List Nat) (s:AS) (φ:Nat->Option Nat) (O:List Nat),SimO S0 w0 n O s a w φ-> ∃ φ',SimO S0 w0 n O (retireAll s l) a w φ'∧(∀b,Free S0 w φ O b->Free S0 w φ' O b)∧(∀i,look s.H i=none∨i∈l->look (retireAll s l).H i=none)
 | [],s,φ,O,h=>⟨φ,h,fun _ h=>h,fun i hi=>hi.resolve_right (by simp)⟩
 | i::l,s,φ,O,h=>by
  have h1:SimO S0 w0 n O (retire i s) a w (erase φ i):=by
   cases hφ:φ i with
   | none=>exact h.retire_ i O (by rw [hφ])
   | some g=>exact (h.retire_ i (g::O) (by rw [hφ])).free_
  obtain ⟨φ',h2,h3,h4⟩:=retireAll_ok l _ _ _ h1
  refine ⟨φ',h2,fun b hb=>h3 b ⟨hb.1,hb.2.1,fun j hj=>?_,hb.2.2.2⟩,fun j hj=>h4 j ?_⟩
  ·unfold erase at hj
   split at hj
   ·cases hj
   ·exact hb.2.2.1 j hj
  ·by_cases e:j=i
   ·subst e;exact .inl (look_retire_none j)
   ·rcases hj with hj|hj
    ·exact .inl (look_retire_other i j hj)
    ·rcases List.mem_cons.1 hj with h|h
     ·exact absurd h e
     ·exact .inr h
theorem awaitAll_ok:∀(O' O:List Nat) (s:AS) (φ:Nat->Option Nat),SimO S0 w0 n O s a w φ->(∀g∈O',w.heap.size≤g)->SimO S0 w0 n (O'++O) s a w φ
 | [],O,s,φ,h,_=>h
 | g::O',O,s,φ,h,hg=>(awaitAll_ok O' O s φ h fun g hm=>hg g (by simp [hm])).await g (hg g (by simp))
end
def nodupB:List Nat->Bool
 | []=>true
 | i::l=>match l.any (Nat.beq i),Nat.ble i 999999999999 with|false,true=>nodupB l|_,_=>false
theorem nodupB_ok:∀ {l:List Nat},nodupB l=true->l.Nodup
 | [],_=>List.nodup_nil
 | i::l,h=>by
  simp only [nodupB] at h
  split at h
  ·rename_i hn _
   rw [List.nodup_cons]
   refine ⟨fun hm=>?_,nodupB_ok h⟩
   have:l.any (Nat.beq i)=true:=List.any_eq_true.2 ⟨i,hm,Nat.beq_refl i⟩
   rw [hn] at this;cases this
  ·cases h
theorem nodupB_lt:∀ {l:List Nat},nodupB l=true-> ∀i∈l,i<1000000000000
 | [],_,i,h=>by cases h
 | j::l,h,i,hi=>by
  simp only [nodupB] at h
  split at h
  ·rename_i _ hb
   rcases List.mem_cons.1 hi with rfl|hi
   ·have:=Nat.le_of_ble_eq_true hb;omega
   ·exact nodupB_lt h i hi
  ·cases h
def viewsL (s:AS):List AV->Option (List AV)
 | []=>some []
 | x::l=>match view s x,viewsL s l with|some y,some m=>some (y::m)|_,_=>none
def readyA:AV->Bool
 | .agg cs=>plainL cs
 | .arr _=>true
 | x=>plain0 x
def readyL:List AV->Bool
 | []=>true
 | x::l=>match readyA x with|true=>readyL l|false=>false
def isEnter (P : Program) (f : FuncId) : Bool := match P.funcs[f]? with | some fn => fn.body.isSome && !(fn.name == "runtime.NumGoroutine") | none => false
theorem isEnter_ok {P:Program} {f:FuncId} (h:isEnter P f=true) (args:Array Value) (w:World):(callFunc f args).run P w= .ok (.enter f args) w:=by
 unfold isEnter at h
 split at h
 ·rename_i fn hf
  simp only [Bool.and_eq_true,Bool.not_eq_true',Option.isSome_iff_exists] at h
  obtain ⟨⟨c,hc⟩,hn⟩:=h
  have hn' : ¬ fn.name = "runtime.NumGoroutine" := by simpa using hn
  simp [callFunc,hf,hc,hn']
 ·cases h
def callee (s:AS):Callee->Option FuncId
 | .value (.func f)=>some f
 | .value x=>(match opd s x with| .val (.func (.func f) ⟨[]⟩ ⟨[]⟩)=>some f|_=>none)
 | _=>none
def evCall (P:Program) (n:Nat) (s:AS) (d:Option Nat) (c:Callee) (args:List Operand) (h:Hint):Option (AS×List Prop) :=
 match callee s c,h.av with
 | some f,some r=>(match isEnter P f with
  | true=>(match h.b with
   | true=>(match viewsL s (args.map (opd s)),flat r,d with
    | some vs,some C,some d=>(match nodupB ((adTop d r).2.map (·.1)),putD n ⟨(retireAll s ((adTop d r).2.map (·.1))).F,(adTop d r).2++(retireAll s ((adTop d r).2.map (·.1))).H⟩ (some d) (adTop d r).1 with
     | true,some s'=>some (s',Ret P f vs r::C)
     | _,_=>none)
    | some vs,some C,none=>some (s,Ret P f vs r::C)
    | _,_,_=>none)
   | false=>(match thawAll s ((args.map (opd s)).flatMap ids1) with
    | some s1=>(match readyL (args.map (opd s1)),d with
     | true,some d=>(match nodupB ((adTop d r).2.map (·.1)),putD n ⟨(retireAll s1 ((adTop d r).2.map (·.1))).F,(adTop d r).2++(retireAll s1 ((adTop d r).2.map (·.1))).H⟩ (some d) (adTop d r).1 with
      | true,some s'=>some (s',[Ret P f (args.map (opd s1)) r])
      | _,_=>none)
     | true,none=>some (s1,[Ret P f (args.map (opd s1)) r])
     | _,_=>none)
    | none=>none))
  | false=>none)
 | _,_=>none
section
variable {P:Program} {n:Nat} {s:AS} {o:Oper} {h:Hint} {q:AS×List Prop}
theorem viewsL_ok {S0:Zone} {w0 w:World} {O:List Nat} {a:Act} {φ:Nat->Option Nat} (hs:SimO S0 w0 n O s a w φ):∀(xs:List Operand) (ys:List AV),viewsL s (xs.map (opd s))=some ys->ys.length=xs.length∧ ∀(j:Nat) v y,(xs.map a.eval)[j]?=some v->ys[j]?=some y->Rep (fun b=>b<w.heap.size) w v y
 | [],ys,h=>by cases h;exact ⟨rfl,fun j v y hv=>by simp at hv⟩
 | x::xs,ys,h=>by
  simp only [List.map_cons,viewsL] at h
  split at h
  ·rename_i y m hy hm
   cases h
   obtain ⟨h1,h2⟩:=viewsL_ok hs xs m hm
   refine ⟨by simp [h1],fun j v y' hv hy'=>?_⟩
   cases j with
   | zero=>simp at hv hy';subst hv;subst hy';exact view_ok hs (hs.opd x) hy
   | succ j=>exact h2 j v y' (by simpa using hv) (by simpa using hy')
  ·cases h
theorem readyA_ok {I:Info} {S:Nat->Prop} {w:World} {v:Value} {x:AV} (hd:Den I S w v x) (hr:readyA x=true):Rep S w v x:=by
 by_cases hc:∃cs,x= .agg cs
 ·obtain ⟨cs,rfl⟩:=hc
  obtain ⟨vs,rfl,hl,hd⟩:=den_agg hd
  exact .agg vs cs hl fun j v c hv hc=>(plain0_rep (hd j v c hv hc) (plainL_at hr hc)).1
 ·by_cases ha:∃cs,x= .arr cs
  ·obtain ⟨cs,rfl⟩:=ha
   obtain ⟨vs,rfl,hl,hd⟩:=den_arr hd
   exact .arr vs cs hl hd
  ·have:readyA x=plain0 x:=by
    cases x with
    | agg cs=>exact absurd ⟨cs,rfl⟩ hc
    | arr cs=>exact absurd ⟨cs,rfl⟩ ha
    | _=>rfl
   rw [this] at hr
   exact (plain0_rep hd hr).1
theorem readyL_at:∀ {l:List AV} {j:Nat} {x:AV},readyL l=true->l[j]?=some x->readyA x=true
 | [],j,x,_,h=>by simp at h
 | y::l,j,x,hp,h=>by
  simp only [readyL] at hp
  split at hp
  ·rename_i hy
   cases j with
   | zero=>simp at h;subst h;exact hy
   | succ j=>exact readyL_at hp (by simpa using h)
  ·cases hp
theorem callee_ok {S0:Zone} {w0 w:World} {O:List Nat} {a:Act} {φ:Nat->Option Nat} (hs:SimO S0 w0 n O s a w φ) {c:Callee} {f:FuncId} (hc:callee s c=some f) {xs:Array Operand} {ts:Array TypeId} (ho:o.op= .call ⟨c,xs,ts⟩) (hE:isEnter P f=true) :
  (execOp a.eval o).run P w= .ok (.enter f (xs.map a.eval)) w:=by
 have key:∃x,c= .value x∧a.eval x= .func (.func f) #[] #[]:=by
  unfold callee at hc
  split at hc
  ·cases hc;exact ⟨_,rfl,rfl⟩
  ·rename_i x _
   split at hc
   ·rename_i f' he
    cases hc
    exact ⟨x,rfl,den_val (he ▸ hs.opd x)⟩
   ·cases hc
  ·cases hc
 obtain ⟨x,rfl,hx⟩:=key
 unfold execOp
 simp [ho,resolve,hx,Deferred.ofValue,invoke,isEnter_ok hE]
theorem call_wpL {S0:Zone} {w0 w:World} {a:Act} {φ:Nat->Option Nat} {Q:Exit->Act->World->Prop} (hs:SimO S0 w0 n [] s a w φ) {f:FuncId} {us:List Value} (hrun:(execOp a.eval o).run P w= .ok (.enter f us.toArray) w) {S:Nat->Prop} {args:List AV} {r:AV} (hret:Ret P f args r) (hS:∀b,S b->b<w.heap.size) (hl:us.length=args.length) (hargs:∀(j:Nat) v x,us[j]?=some v->args[j]?=some x->Rep S w v x)
  (hG:∀w' v O,Below w.heap.size w w'->(∀g∈O,w.heap.size≤g∧g<w'.heap.size)->Giv (fun b=>S b∨(w.heap.size≤b∧b<w'.heap.size∧b ∉ O)) w' v r O->Giv (Free S0 w' φ O) w' v r O) {s':AS}
  (hd:(∃d,o.dst=some d∧nodupB ((adTop d r).2.map (·.1))=true∧putD n ⟨(retireAll s ((adTop d r).2.map (·.1))).F,(adTop d r).2++(retireAll s ((adTop d r).2.map (·.1))).H⟩ (some d) (adTop d r).1=some s')∨(o.dst=none∧s'=s)) :
  o.wp P a w (fun a' w'=>Sim S0 w0 n s' a' w') Q:=by
 unfold Oper.wp
 rw [hrun]
 have hcall:=hret w S us hs.bel.good hS hl hargs
 refine hcall.mono ?_
 rintro en w' ⟨v,O,rfl,hb,hnd,hrg,hgiv⟩
 show Sim S0 w0 n s' (a.put o.dst v) w'
 have hgiv:=hG w' v O hb hrg hgiv
 have h1:=awaitAll_ok O [] s φ hs (fun g hg=>(hrg g hg).1)
 rw [List.append_nil] at h1
 have h2:=h1.touch (fun g hg=>.inl (Nat.le_trans hs.bel.size (hrg g hg).1)) hb.os hb.tape hb.output hb.size (fun b hb1 _=>hb.block b hb1)
 rcases hd with ⟨d,hd,hnb,hput⟩|⟨hd,rfl⟩
 ·obtain ⟨φ2,h3,hF,hnone⟩:=retireAll_ok ((adTop d r).2.map (·.1)) s φ O h2
  have h3':SimO S0 w0 n (O++ []) (retireAll s ((adTop d r).2.map (·.1))) a w' φ2:=by rw [List.append_nil];exact h3
  obtain ⟨φ3,h4,h5,h6⟩:=takes_top (retireAll s ((adTop d r).2.map (·.1))) φ2 O [] v r d h3' (by rw [List.append_nil];exact hgiv.mono hF) (by rw [List.append_nil];exact hnd) (fun g hg=>⟨.inl (Nat.le_trans hs.bel.size (hrg g hg).1),(hrg g hg).2⟩) (fun i hi=>⟨hnone i (.inr hi),nodupB_lt hnb i hi⟩) (nodupB_ok hnb)
  rw [hd]
  exact ⟨φ3,putD_ok h4 h5 hput⟩
 ·rw [hd]
  have key:∀(O:List Nat),SimO S0 w0 n O s' a w' φ->SimO S0 w0 n [] s' a w' φ:=by
   intro O
   induction O with
   | nil=>exact fun h=>h
   | cons g O ih=>exact fun h=>ih h.free_
  have h3:=key O h2
  exact ⟨φ,⟨h3.tsz,h3.dfr,h3.bel,h3.slots,h3.rows,h3.only,h3.inj,h3.rng,h3.apart,h3.new⟩⟩
theorem call_wp {S0:Zone} {w0 w:World} {a:Act} {φ:Nat->Option Nat} {Q:Exit->Act->World->Prop} (hs:SimO S0 w0 n [] s a w φ) {f:FuncId} {xs:Array Operand} (hrun:(execOp a.eval o).run P w= .ok (.enter f (xs.map a.eval)) w) {S:Nat->Prop} {args:List AV} {r:AV} (hret:Ret P f args r) (hS:∀b,S b->b<w.heap.size) (hl:args.length=xs.toList.length) (hargs:∀(j:Nat) v x,(xs.toList.map a.eval)[j]?=some v->args[j]?=some x->Rep S w v x)
  (hG:∀w' v O,Below w.heap.size w w'->(∀g∈O,w.heap.size≤g∧g<w'.heap.size)->Giv (fun b=>S b∨(w.heap.size≤b∧b<w'.heap.size∧b ∉ O)) w' v r O->Giv (Free S0 w' φ O) w' v r O) {s':AS}
  (hd:(∃d,o.dst=some d∧nodupB ((adTop d r).2.map (·.1))=true∧putD n ⟨(retireAll s ((adTop d r).2.map (·.1))).F,(adTop d r).2++(retireAll s ((adTop d r).2.map (·.1))).H⟩ (some d) (adTop d r).1=some s')∨(o.dst=none∧s'=s)) :
  o.wp P a w (fun a' w'=>Sim S0 w0 n s' a' w') Q:=by
 have e:(xs.toList.map a.eval).toArray=xs.map a.eval:=by apply Array.ext';simp
 exact call_wpL hs (us:=xs.toList.map a.eval) (by rw [e];exact hrun) hret hS (by simp [hl]) hargs hG hd
theorem evCall_ok {c:Callee} {xs:Array Operand} {ts:Array TypeId} (ho:o.op= .call ⟨c,xs,ts⟩) (hr:evCall P n s o.dst c xs.toList h=some q):OpOK P n s o q.1 q.2:=by
 intro hC S0 w0 a w Q ⟨φ,hs⟩
 unfold evCall at hr
 split at hr
 ·rename_i f r hc _
  split at hr
  ·rename_i hE
   split at hr
   ·
    split at hr
    ·rename_i vs C d hv hfl hd
     split at hr
     ·rename_i s' hn hp
      cases hr
      obtain ⟨hret,hC⟩:=hC
      obtain ⟨hl,hrep⟩:=viewsL_ok hs _ _ hv
      exact call_wp hs (callee_ok hs hc ho hE) hret (S:=fun b=>b<w.heap.size) (fun _ h=>h) hl hrep (fun w' v O _ _ hg=>flat_ok hfl hC hg) (.inl ⟨d,hd,hn,hp⟩)
     ·cases hr
    ·rename_i vs C hv hfl hd
     cases hr
     obtain ⟨hret,hC⟩:=hC
     obtain ⟨hl,hrep⟩:=viewsL_ok hs _ _ hv
     exact call_wp hs (callee_ok hs hc ho hE) hret (S:=fun b=>b<w.heap.size) (fun _ h=>h) hl hrep (fun w' v O _ _ hg=>flat_ok hfl hC hg) (.inr ⟨hd,rfl⟩)
    ·cases hr
   ·split at hr
    ·rename_i s1 hth
     obtain ⟨φ1,hs1⟩:=thawAll_ok _ _ _ _ hth hs
     have rdy:readyL (xs.toList.map (opd s1))=true-> ∀(j:Nat) v x,(xs.toList.map a.eval)[j]?=some v->(xs.toList.map (opd s1))[j]?=some x->Rep (Free S0 w φ1 []) w v x:=by
      intro hrd j v x hv hx
      have hrx:=readyL_at hrd hx
      rw [List.getElem?_map] at hv hx
      cases hj:xs.toList[j]? with
      | none=>rw [hj] at hv;cases hv
      | some y =>
       rw [hj] at hv hx
       injection hv with hv;injection hx with hx;subst hv;subst hx
       exact readyA_ok (hs1.opd y) hrx
     have hG:∀w' v O,Below w.heap.size w w'->(∀g∈O,w.heap.size≤g∧g<w'.heap.size)->Giv (fun b=>Free S0 w φ1 [] b∨(w.heap.size≤b∧b<w'.heap.size∧b ∉ O)) w' v r O->Giv (Free S0 w' φ1 O) w' v r O:=by
      intro w' v O hb hrg hg
      refine hg.mono fun b hb'=>?_
      rcases hb' with hb'|⟨h1,h2,h3⟩
      ·exact ⟨by have:=hb'.1;have:=hb.size;omega,fun hm=>by have:=(hrg b hm).1;have:=hb'.1;omega,hb'.2.2⟩
      ·exact ⟨h2,h3,fun i hi=>by have:=(hs1.rng i b hi).2;omega,hs1.new b (.inl (by have:=hs1.bel.size;omega))⟩
     split at hr
     ·rename_i d hrd hd
      split at hr
      ·rename_i s' hn hp
       cases hr
       obtain ⟨hret,-⟩:=hC
       exact call_wp hs1 (callee_ok hs hc ho hE) hret (fun b hb=>hb.1) (by simp) (rdy hrd) hG (.inl ⟨d,hd,hn,hp⟩)
      ·cases hr
     ·rename_i hrd hd
      cases hr
      obtain ⟨hret,-⟩:=hC
      exact call_wp hs1 (callee_ok hs hc ho hE) hret (fun b hb=>hb.1) (by simp) (rdy hrd) hG (.inr ⟨hd,rfl⟩)
     ·cases hr
    ·cases hr
  ·cases hr
 ·cases hr
def purify (s:AS) (id:Nat):AS :=
 match look s.H id with
 | some ⟨e,false,f,cs⟩=>(match plainL cs with|true=>⟨s.F,(id,⟨e,true,f,cs⟩)::drop_ s.H id⟩|false=>s)
 | _=>s
theorem purify_ok {S0:Zone} {w0 w:World} {O:List Nat} {a:Act} {φ:Nat->Option Nat} (id:Nat) (hs:SimO S0 w0 n O s a w φ):SimO S0 w0 n O (purify s id) a w φ:=by
 unfold purify
 split
 ·rename_i e f cs hr
  split
  ·rename_i hp
   have hlk:∀i,look ((id,(⟨e,true,f,cs⟩:Row))::drop_ s.H id) i=if id=i then some ⟨e,true,f,cs⟩ else look s.H i:=by
    intro i
    rw [look_cons,look_drop]
    by_cases e:id=i<;>simp [e]
   have hI:infoOf ((id,(⟨e,true,f,cs⟩:Row))::drop_ s.H id) φ=infoOf s.H φ:=by
    funext i
    unfold infoOf
    rw [hlk]
    by_cases e:id=i
    ·subst e;rw [if_pos rfl,hr];rfl
    ·rw [if_neg e]
   refine ⟨hs.tsz,hs.dfr,hs.bel,fun i av hi=>?_,fun i q hq=>?_,fun i hi=>?_,hs.inj,hs.rng,hs.apart,hs.new⟩
   ·simp only [hI];exact hs.slots i av hi
   ·simp only [hI]
    simp only [hlk] at hq
    by_cases e:id=i
    ·subst e
     rw [if_pos rfl] at hq;injection hq with hq;subst hq
     have hrow:=hs.rows id _ hr
     unfold RowDen at hrow ⊢
     cases hφ:φ id with
     | none=>rw [hφ] at hrow;exact hrow
     | some g =>
      rw [hφ] at hrow
      obtain ⟨cur,te,fr,hg,hf,hl,hfu,hc⟩:=hrow
      exact ⟨cur,te,fr,hg,hf,hl,hfu,fun j u x hu hx=>(plain0_rep (hc j u x hu hx) (plainL_at hp hx)).1⟩
    ·rw [if_neg e] at hq;exact hs.rows i q hq
   ·simp only [hlk] at hi
    by_cases e:id=i
    ·rw [if_pos e] at hi;cases hi
    ·rw [if_neg e] at hi;exact hs.only i hi
  ·exact hs
 ·exact hs
def purifyAll:AS->List Nat->AS
 | s,[]=>s
 | s,i::l=>purifyAll (purify s i) l
theorem purifyAll_ok {S0:Zone} {w0 w:World} {O:List Nat} {a:Act} {φ:Nat->Option Nat}:∀(l:List Nat) (s:AS),SimO S0 w0 n O s a w φ->SimO S0 w0 n O (purifyAll s l) a w φ
 | [],_,h=>h
 | i::l,_,h=>purifyAll_ok l _ (purify_ok i h)
def evFunc (n:Nat) (s:AS) (d f:Nat) (xs:List Operand):Option (AS×List Prop) :=
 match thawAll (purifyAll s ((xs.map (opd s)).flatMap ids1)) ((xs.map (opd s)).flatMap ids1) with
 | some s1=>(match readyL (xs.map (opd s1)),putD n s1 (some d) (.clo f (xs.map (opd s1))) with|true,some s'=>some (s',[])|_,_=>none)
 | none=>none
theorem readyL_rep {S0:Zone} {w0 w:World} {O:List Nat} {a:Act} {φ:Nat->Option Nat} (hs:SimO S0 w0 n O s a w φ) {xs:List Operand} (h:readyL (xs.map (opd s))=true) (j:Nat) (v:Value) (x:AV) (hv:(xs.map a.eval)[j]?=some v) (hx:(xs.map (opd s))[j]?=some x):Rep (Free S0 w φ O) w v x:=by
 have hrx:=readyL_at h hx
 rw [List.getElem?_map] at hv hx
 cases hj:xs[j]? with
 | none=>rw [hj] at hv;cases hv
 | some y =>
  rw [hj] at hv hx
  injection hv with hv;injection hx with hx;subst hv;subst hx
  exact readyA_ok (hs.opd y) hrx
theorem evFunc_ok {d f:Nat} {xs:List Operand} (ho:o.op= .makeFunc (.func f) ⟨[]⟩ ⟨xs⟩) (hd:o.dst=some d) (hr:evFunc n s d f xs=some q):OpOK P n s o q.1 q.2:=by
 intro hC S0 w0 a w Q ⟨φ,hs⟩
 unfold evFunc at hr
 split at hr
 ·rename_i s1 hth
  obtain ⟨φ1,hs1⟩:=thawAll_ok _ _ _ _ hth (purifyAll_ok _ _ hs)
  split at hr
  ·rename_i s' hrd hp
   cases hr
   have hrun:(execOp a.eval o).run P w= .ok (.value (.func (.func f) #[] (xs.map a.eval).toArray)) w:=by
    unfold execOp;simp [ho,Instr.makeFunc]
   refine wp_of_run hrun ⟨φ1,?_⟩
   rw [hd]
   exact putD_ok hs1 (.rep (.clo f _ _ (by simp) (readyL_rep hs1 hrd))) hp
  ·cases hr
 ·cases hr
def evCallC (P:Program) (n:Nat) (s:AS) (d:Option Nat) (c:Callee) (args:List Operand) (h:Hint):Option (AS×List Prop) :=
 match c,h.av,thawAll s ((args.map (opd s)).flatMap ids1) with
 | .value x,some r,some s1=>(match opd s1 x with
  | .clo f caps=>(match isEnter P f,readyL (args.map (opd s1)),d with
   | true,true,some d=>(match nodupB ((adTop d r).2.map (·.1)),putD n ⟨(retireAll s1 ((adTop d r).2.map (·.1))).F,(adTop d r).2++(retireAll s1 ((adTop d r).2.map (·.1))).H⟩ (some d) (adTop d r).1 with
    | true,some s'=>some (s',[Ret P f (args.map (opd s1)++caps) r])
    | _,_=>none)
   | true,true,none=>some (s1,[Ret P f (args.map (opd s1)++caps) r])
   | _,_,_=>none)
  | _=>none)
 | _,_,_=>none
theorem rep_clo {S:Nat->Prop} {I:Info} {w:World} {v:Value} {f:Nat} {cs:List AV} (h:Den I S w v (.clo f cs)):∃vs:List Value,v= .func (.func f) #[] vs.toArray∧vs.length=cs.length∧ ∀(j:Nat) v c,vs[j]?=some v->cs[j]?=some c->Rep S w v c:=by
 cases h with|rep h=>cases h with|clo f vs cs hl h=>exact ⟨vs,rfl,hl,h⟩
theorem rep_append {S:Nat->Prop} {w:World} {vs us:List Value} {xs ys:List AV} (hl:vs.length=xs.length) (h1:∀(j:Nat) v x,vs[j]?=some v->xs[j]?=some x->Rep S w v x) (h2:∀(j:Nat) v x,us[j]?=some v->ys[j]?=some x->Rep S w v x) (j:Nat) (v:Value) (x:AV) (hv:(vs++us)[j]?=some v) (hx:(xs++ys)[j]?=some x):Rep S w v x:=by
 rcases Nat.lt_or_ge j vs.length with h|h
 ·rw [List.getElem?_append_left h] at hv
  rw [List.getElem?_append_left (by omega)] at hx
  exact h1 j v x hv hx
 ·rw [List.getElem?_append_right h] at hv
  rw [List.getElem?_append_right (by omega),←hl] at hx
  exact h2 _ v x hv hx
theorem evCallC_ok {c:Callee} {xs:Array Operand} {ts:Array TypeId} (ho:o.op= .call ⟨c,xs,ts⟩) (hr:evCallC P n s o.dst c xs.toList h=some q):OpOK P n s o q.1 q.2:=by
 intro hC S0 w0 a w Q ⟨φ,hs⟩
 unfold evCallC at hr
 split at hr
 ·rename_i x r s1 _ hth
  obtain ⟨φ1,hs1⟩:=thawAll_ok _ _ _ _ hth hs
  split at hr
  ·rename_i f caps hcl
   have dx:=hs1.opd x
   rw [hcl] at dx
   obtain ⟨cv,hv,hcl1,hcl2⟩:=rep_clo dx
   have hrun:isEnter P f=true->(execOp a.eval o).run P w= .ok (.enter f (xs.toList.map a.eval++cv).toArray) w:=by
    intro hE
    have e:(xs.toList.map a.eval++cv).toArray= #[]++xs.map a.eval++cv.toArray:=by apply Array.ext';simp
    rw [e]
    unfold execOp
    simp [ho,resolve,hv,Deferred.ofValue,invoke,isEnter_ok hE]
   have hG:∀w' v O,Below w.heap.size w w'->(∀g∈O,w.heap.size≤g∧g<w'.heap.size)->Giv (fun b=>Free S0 w φ1 [] b∨(w.heap.size≤b∧b<w'.heap.size∧b ∉ O)) w' v r O->Giv (Free S0 w' φ1 O) w' v r O:=by
    intro w' v O hb hrg hg
    refine hg.mono fun b hb'=>?_
    rcases hb' with hb'|⟨h1,h2,h3⟩
    ·exact ⟨by have:=hb'.1;have:=hb.size;omega,fun hm=>by have:=(hrg b hm).1;have:=hb'.1;omega,hb'.2.2⟩
    ·exact ⟨h2,h3,fun i hi=>by have:=(hs1.rng i b hi).2;omega,hs1.new b (.inl (by have:=hs1.bel.size;omega))⟩
   have hlen:(xs.toList.map a.eval++cv).length=(xs.toList.map (opd s1)++caps).length:=by simp [hcl1]
   split at hr
   ·rename_i d hE hrd hd
    split at hr
    ·rename_i s' hn hp
     cases hr
     exact call_wpL hs1 (hrun hE) hC.1 (fun b hb=>hb.1) hlen (rep_append (by simp) (readyL_rep hs1 hrd) hcl2) hG (.inl ⟨d,hd,hn,hp⟩)
    ·cases hr
   ·rename_i hE hrd hd
    cases hr
    exact call_wpL hs1 (hrun hE) hC.1 (fun b hb=>hb.1) hlen (rep_append (by simp) (readyL_rep hs1 hrd) hcl2) hG (.inr ⟨hd,rfl⟩)
   ·cases hr
  ·cases hr
 ·cases hr
end
end Go.Proofs.YtejpabdmiagnnaaGreatDoor
