import Derived.Test.YtjgbhhnghedgdaaGreatDoorZbRA
import Derived.Laws.StructEq
import Derived.ChangeKeysEq
set_option linter.all false
namespace Go.Proofs.YtjgbhhnghedgdaaGreatDoor
open Go.RowKit
def I9 (P:Program) (eq:TypeId->List AV->List AV->Option Bool) (cs ds:List AV):List Field->Option Bool
 | []=>some true
 | f :: fs => match f.name == "_", eC P f.type, I9 P eq cs ds fs with
  | false,some z,some b=>(match eq f.type ((cs.drop f.offset).take z) ((ds.drop f.offset).take z) with|some a=>some (a && b)|none=>none)
  | _,_,_=>none
def Nv (P:Program):Nat->TypeId->List AV->List AV->Option Bool
 | 0,_,_,_=>none
 | d+1,t,cs,ds=>match P.underlying t with
  | some .bool=>(match cs,ds with| [.val (.bool a)],[.val (.bool b)]=>some (a == b)|_,_=>none)
  | some (.int _)=>(match cs,ds with| [.val (.int k a)],[.val (.int k' b)]=>if k=k' then some (a == b) else none|_,_=>none)
  | some .string=>(match cs,ds with| [.val (.string a)],[.val (.string b)]=>some (a.toList == b.toList)|_,_=>none)
  | some (.struct fs)=>(match P.stoodInHeld t with|true=>none|false=>I9 P (Nv P d) cs ds fs.toList)
  | _=>none
def lV (P:Program) (t:TypeId) (vs:List Value) (x:Value):Prop:=match cJ P t with|true=>x= .agg vs.toArray|false=>vs= [x]
theorem l9 {I:Info} {S:Nat->Prop} {w:World} {vs:List Value} {u:Value} (hl:vs.length=1) (hd:∀(j:Nat) v c,vs[j]?=some v-> [AV.val u][j]?=some c->Den I S w v c):vs= [u]:=by
 match vs,hl with
 | [v],_=>rw [bK (hd 0 v _ rfl rfl)]
section
variable {P:Program} {I:Info} {S:Nat->Prop} {w:World}
theorem ua {t:TypeId} {z:Nat} {cs:List AV} {vs:List Value} {off:Nat} (hz:eC P t=some z) (hu:∃d,P.underlying t=some d) (hl:vs.length=cs.length) (hs:cJ P t=false-> ∃x,(cs.drop off).take z= [x]) :
  ∃v,(part t vs.toArray off).run P w= .ok v w∧lV P t ((vs.drop off).take z) v:=by
 cases ha:cJ P t with
 | true =>
  refine ⟨.agg (vs.toArray.extract off (off+z)),?_,?_⟩
  ·simp [part,ix hu,ha,run_sizeOf hz]
  ·unfold lV;rw [ha];simp [List.extract_eq_take_drop]
 | false =>
  obtain ⟨x,hx⟩:=hs ha
  have hlen:=congrArg List.length hx
  rw [List.length_take,List.length_drop] at hlen
  simp at hlen
  have dj:off<vs.length:=aj
  refine ⟨vs[off],?_,?_⟩
  ·simp [part,ix hu,ha,dj]
  ·unfold lV;rw [ha]
   show (vs.drop off).take z= [vs[off]]
   rw [List.drop_eq_getElem_cons dj]
   obtain ⟨z',rfl⟩:∃z',z=z'+1:=⟨z-1,aj⟩
   rw [List.take_succ_cons]
   congr 1
   apply List.eq_nil_of_length_eq_zero
   rw [List.length_take,List.length_drop];omega
theorem EF {eq:TypeId->List AV->List AV->Option Bool} {D:Nat} (heq:∀t cs ds b vs us x y,eq t cs ds=some b->vs.length=cs.length->us.length=ds.length->(∀(j:Nat) v c,vs[j]?=some v->cs[j]?=some c->Den I S w v c)->(∀(j:Nat) v c,us[j]?=some v->ds[j]?=some c->Den I S w v c)->lV P t vs x->lV P t us y->(Op.equalIn D t x y).run P w= .ok b w)
  (uD:∀t cs ds b,eq t cs ds=some b->(∃d,P.underlying t=some d)∧(cJ P t=false->(∃x,cs= [x])∧ ∃x,ds= [x])) {cs ds:List AV} {vs us:List Value} (hl:vs.length=cs.length) (rh:us.length=ds.length) (hd:∀(j:Nat) v c,vs[j]?=some v->cs[j]?=some c->Den I S w v c) (FF:∀(j:Nat) v c,us[j]?=some v->ds[j]?=some c->Den I S w v c) :
  ∀(fs:List Field) (b:Bool),I9 P eq cs ds fs=some b->(Op.eqFields D vs.toArray us.toArray fs).run P w= .ok b w
 | [],b,h=>by simp [I9] at h;subst h;simp [Op.eqFields]
 | f::fs,b,h=>by
  rw [I9] at h
  split at h
  ·rename_i z b' hn hz kO
   split at h
   ·rename_i a ha
    injection h with h;subst h
    obtain ⟨hu,ho⟩:=uD _ _ _ _ ha
    obtain ⟨x,hx,px⟩:=ua (w:=w) (off:=f.offset) hz hu hl (fun h0=>(ho h0).1)
    obtain ⟨y,hy,py⟩:=ua (w:=w) (off:=f.offset) hz hu rh (fun h0=>(ho h0).2)
    have he:=heq _ _ _ _ _ _ x y ha (by rw [List.length_take,List.length_drop,List.length_take,List.length_drop,hl]) (by rw [List.length_take,List.length_drop,List.length_take,List.length_drop,rh]) (fun j v c hv hc=>hd (f.offset+j) v c (bT _ _ _ _ _ hv) (bT _ _ _ _ _ hc)) (fun j v c hv hc=>FF (f.offset+j) v c (bT _ _ _ _ _ hv) (bT _ _ _ _ _ hc)) px py
    have sE : f.name ≠ "_" := by simpa using hn
    simp only [Op.eqFields,if_pos sE,Sem.run_bind,hx,hy,he,Result.andThen_ok]
    cases a with
    | false=>simp
    | true =>
     have:=EF heq uD hl rh hd FF fs b' kO
     simpa using this
   ·cases h
  ·cases h
theorem Lb:∀(d:Nat) (t:TypeId) (cs ds:List AV) (b:Bool),Nv P d t cs ds=some b->(∃d,P.underlying t=some d)∧(cJ P t=false->(∃x,cs= [x])∧ ∃x,ds= [x]):=by
 intro d t cs ds b h
 cases d with
 | zero=>cases h
 | succ d =>
  unfold Nv at h
  split at h
  ·rename_i hu;refine ⟨⟨_,hu⟩,fun _=>?_⟩
   split at h
   ·exact ⟨⟨_,rfl⟩,_,rfl⟩
   ·cases h
  ·rename_i hu;refine ⟨⟨_,hu⟩,fun _=>?_⟩
   split at h
   ·exact ⟨⟨_,rfl⟩,_,rfl⟩
   ·cases h
  ·rename_i hu;refine ⟨⟨_,hu⟩,fun _=>?_⟩
   split at h
   ·exact ⟨⟨_,rfl⟩,_,rfl⟩
   ·cases h
  ·rename_i hu;refine ⟨⟨_,hu⟩,fun ha=>?_⟩
   unfold cJ at ha;rw [hu] at ha;cases ha
  ·cases h
theorem Nu (D:Nat):∀(d:Nat) (t:TypeId) (cs ds:List AV) (b:Bool) (vs us:List Value) (x y:Value),Nv P d t cs ds=some b->vs.length=cs.length->us.length=ds.length->(∀(j:Nat) v c,vs[j]?=some v->cs[j]?=some c->Den I S w v c)->(∀(j:Nat) v c,us[j]?=some v->ds[j]?=some c->Den I S w v c)->lV P t vs x->lV P t us y->(Op.equalIn (D+d) t x y).run P w= .ok b w:=by
 intro d
 induction d with
 | zero=>intro t cs ds b vs us x y h;cases h
 | succ d ih =>
  intro t cs ds b vs us x y h hl rh hd FF px py
  unfold Nv at h
  split at h
  ·rename_i hu
   have ha:cJ P t=false:=by unfold cJ;rw [hu]
   unfold lV at px py;rw [ha] at px py
   split at h
   ·have h1:=l9 hl hd
    have h2:=l9 rh FF
    rw [h1] at px;rw [h2] at py
    injection px with px;injection py with py
    injection h with h
    subst px py h
    exact run_equalIn_bool' w (D+d) t _ _ hu
   ·cases h
  ·rename_i hu
   have ha:cJ P t=false:=by unfold cJ;rw [hu]
   unfold lV at px py;rw [ha] at px py
   split at h
   ·have h1:=l9 hl hd
    have h2:=l9 rh FF
    rw [h1] at px;rw [h2] at py
    injection px with px;injection py with py
    split at h
    ·rename_i hk
     injection h with h
     subst px py h hk
     exact run_equalIn_int w (D+d) t _ _ _ _ hu
    ·cases h
   ·cases h
  ·rename_i hu
   have ha:cJ P t=false:=by unfold cJ;rw [hu]
   unfold lV at px py;rw [ha] at px py
   split at h
   ·have h1:=l9 hl hd
    have h2:=l9 rh FF
    rw [h1] at px;rw [h2] at py
    injection px with px;injection py with py
    injection h with h
    subst px py h
    exact run_equalIn_string w (D+d) t _ _ hu
   ·cases h
  ·rename_i fs hu
   have ha:cJ P t=true:=by unfold cJ;rw [hu]
   unfold lV at px py;rw [ha] at px py
   split at h
   ·cases h
   ·rename_i hp
    have hf:P.fieldsOf t=fs:=by simp [Program.fieldsOf,hu]
    simp only at px py
    subst px py
    rw [show D+(d+1)=(D+d)+1 from rfl,run_equalIn_struct w (D+d) t _ _ (by rw [hf];exact hu) hp,hf]
    exact EF (fun t cs ds b vs us x y h1 h2 h3 h4 h5 h6 h7=>ih t cs ds b vs us x y h1 h2 h3 h4 h5 h6 h7) (Lb d) hl rh hd FF fs.toList b h
  ·cases h
end
def yh (P:Program) (op:BinOp) (t:TypeId) (cs ds:List AV):Option (AV×List Prop) :=
 match op,P.eqGuardType P.depth t,cJ P t,Nv P 12 t cs ds with
 | .eql,false,true,some b=>some (.val (.bool b),[])
 | .neq,false,true,some b=>some (.val (.bool (!b)),[])
 | _,_,_,_=>none
section
variable {P:Program} {s:AS} {o:Oper} {h:Hint} {r:AV×List Prop}
theorem CR {op:BinOp} {t t':TypeId} {x y:Operand} {cs ds:List AV} (ho:o.op= .binOp op t x y t') (hx:bq s x= .agg cs) (hy:bq s y= .agg ds) (hr:yh P op t cs ds=some r):dc P s o r.1 r.2:=by
 intro _ S0 w0 n O a w φ hs
 have dx:=hs.bq x
 have dy:=hs.bq y
 rw [hx] at dx;rw [hy] at dy
 obtain ⟨vs,ex,hl,hd⟩:=kj dx
 obtain ⟨us,ey,rh,FF⟩:=kj dy
 have main:∀b,P.eqGuardType P.depth t=false->cJ P t=true->Nv P 12 t cs ds=some b->(∀op,(eqGuard op t x y (a.eval x) (a.eval y)).run P w= .ok () w)∧(Op.equalIn 10000 t (.agg vs.toArray) (.agg us.toArray)).run P w= .ok b w:=by
  intro b hg ha he
  refine ⟨fun op=>by rw [ex,ey];exact run_eqGuard_agg w op t x y _ _ hg,?_⟩
  exact Nu 9988 12 t cs ds b vs us _ _ he hl rh hd FF (by unfold lV;rw [ha]) (by unfold lV;rw [ha])
 unfold yh at hr
 split at hr
 ·rename_i hg ha he
  injection hr with hr;subst hr
  obtain ⟨h1,h2⟩:=main _ hg ha he
  refine ⟨.bool _,?_,.rep (.val _)⟩
  unfold execOp;simp only [ho,Sem.run_bind,h1,Result.andThen_ok]
  rw [ex,ey,run_eql_struct,h2];rfl
 ·rename_i hg ha he
  injection hr with hr;subst hr
  obtain ⟨h1,h2⟩:=main _ hg ha he
  refine ⟨.bool _,?_,.rep (.val _)⟩
  unfold execOp;simp only [ho,Sem.run_bind,h1,Result.andThen_ok]
  rw [ex,ey,run_neq_struct,h2];rfl
 ·cases hr
end
def JJ (k:IntKind) (n:Nat) (cs ds:List AV) (b:Bool):Prop:=∃l m:List Int,cs=l.map (fun x=>.val (.int k x))∧ds=m.map (fun x=>.val (.int k x))∧l.length=n∧m.length=n∧b=(l == m)
def yf (P:Program) (op:BinOp) (t:TypeId) (cs ds:List AV) (h:Hint):Option (AV×List Prop) :=
 match P.underlying t,P.eqGuardType P.depth t,h.av with
 | some (.array n e),false,some (.val (.bool b))=>(match P.underlying e,eC P e,op with
  | some (.int k),some 1,.eql=>some (.val (.bool b),[JJ k n cs ds b])
  | some (.int k),some 1,.neq=>some (.val (.bool b),[JJ k n cs ds (!b)])
  | _,_,_=>none)
 | _,_,_=>none
section
variable {P:Program} {w:World}
theorem qj (d:Nat) {e:TypeId} {k k':IntKind} (he:P.underlying e=some (.int k')) {n:Nat} {l m:List Int} (hl:l.length=n) (hm:m.length=n):∀(is:List Nat),(∀i∈is,i<n) ->
  (Op.eqItems (d+1) e 1 (l.map (Value.int k)).toArray (m.map (Value.int k)).toArray is).run P w= .ok (is.all fun i=>l.getD i 0 == m.getD i 0) w
 | [],_=>by simp [Op.eqItems]
 | i::is,hi=>by
  have h1:i<n:=hi i (by simp)
  have ha:cJ P e=false:=by unfold cJ;rw [he]
  have p1:(part e (l.map (Value.int k)).toArray (i*1)).run P w= .ok (.int k (l.getD i 0)) w:=by
   simp [part,ix ⟨_,he⟩,ha,hl,h1]
  have p2:(part e (m.map (Value.int k)).toArray (i*1)).run P w= .ok (.int k (m.getD i 0)) w:=by
   simp [part,ix ⟨_,he⟩,ha,hm,h1]
  simp only [Op.eqItems,Sem.run_bind,p1,p2,run_equalIn_int w d e k k' _ _ he,Result.andThen_ok,List.all_cons]
  have ih:=qj d (k:=k) he hl hm is (fun j hj=>hi j (by simp [hj]))
  cases hb:l.getD i 0 == m.getD i 0 with
  | false=>simp
  | true=>simpa using ih
theorem Bq {l m:List Int} {n:Nat} (hl:l.length=n) (hm:m.length=n):((List.range n).all fun i=>l.getD i 0 == m.getD i 0)=(l == m):=by
 rw [Bool.eq_iff_iff,List.all_eq_true,beq_iff_eq]
 constructor
 ·intro h
  apply List.ext_getElem aj
  intro i h1 h2
  have:=h i (List.mem_range.2 aj)
  simpa [h1,h2] using this
 ·rintro rfl i _;simp
theorem zz {S:Nat->Prop} {k:IntKind} {l:List Int} {vs:List Value} (hl:vs.length=(l.map (fun x=>AV.val (.int k x))).length) (hd:∀(j:Nat) v c,vs[j]?=some v->(l.map (fun x=>AV.val (.int k x)))[j]?=some c->cB S w v c):vs=l.map (Value.int k):=by
 apply List.ext_getElem (by simpa using hl)
 intro i h1 h2
 have h3:i<l.length:=by simpa using h2
 have:=hd i vs[i] (.val (.int k l[i])) (List.getElem?_eq_getElem h1) (by simp [h3])
 generalize vs[i]=q at this
 cases this
 simp
end
section
variable {P:Program} {s:AS} {o:Oper} {h:Hint} {r:AV×List Prop}
theorem CQ {op:BinOp} {t t':TypeId} {x y:Operand} {cs ds:List AV} (ho:o.op= .binOp op t x y t') (hx:bq s x= .arr cs) (hy:bq s y= .arr ds) (hr:yf P op t cs ds h=some r):dc P s o r.1 r.2:=by
 intro hC S0 w0 n O a w φ hs
 have dx:=hs.bq x
 have dy:=hs.bq y
 rw [hx] at dx;rw [hy] at dy
 obtain ⟨vs,ex,hl,hd⟩:=qp dx
 obtain ⟨us,ey,rh,FF⟩:=qp dy
 have main:∀k N e b,P.underlying t=some (.array N e)->P.underlying e=some (.int k)->eC P e=some 1->P.eqGuardType P.depth t=false->JJ k N cs ds b->(∀op,(eqGuard op t x y (a.eval x) (a.eval y)).run P w= .ok () w)∧(Op.equalIn 10000 t (.agg vs.toArray) (.agg us.toArray)).run P w= .ok b w:=by
  intro k N e b hu he hz hg ⟨l,m,e1,e2,h1,h2,h3⟩
  refine ⟨fun op=>by rw [ex,ey];exact run_eqGuard_agg w op t x y _ _ hg,?_⟩
  subst e1 e2
  rw [zz hl hd,zz rh FF]
  obtain ⟨i,hi,QG⟩:∃i,P.info? e=some i∧i.size=1:=by
   unfold eC at hz
   cases hp:P.info? e with
   | none=>rw [hp] at hz;cases hz
   | some i=>rw [hp] at hz;exact ⟨i,rfl,by simpa using hz⟩
  rw [show 10000=9999+1 from rfl,run_equalIn_array w 9999 _ _ hu hi]
  have hc:P.cellsOf e=1:=by unfold Program.cellsOf;rw [hi];exact QG
  rw [hc,show 9999=9998+1 from rfl,qj 9998 he h1 h2 _ (fun i hi=>List.mem_range.1 hi),Bq h1 h2,h3]
 unfold yf at hr
 split at hr
 ·rename_i N e b hu hg _
  split at hr
  ·rename_i k he hz
   injection hr with hr;subst hr
   obtain ⟨h1,h2⟩:=main k N e _ hu he hz hg hC.1
   refine ⟨.bool _,?_,.rep (.val _)⟩
   unfold execOp;simp only [ho,Sem.run_bind,h1,Result.andThen_ok]
   rw [ex,ey,run_eql_struct,h2];rfl
  ·rename_i k he hz
   injection hr with hr;subst hr
   obtain ⟨h1,h2⟩:=main k N e _ hu he hz hg hC.1
   refine ⟨.bool _,?_,.rep (.val _)⟩
   unfold execOp;simp only [ho,Sem.run_bind,h1,Result.andThen_ok]
   rw [ex,ey,run_neq_struct,h2];simp
  ·cases hr
 ·cases hr
def yp (P:Program) (s:AS) (t:TypeId) (x:AV):Option (AV×List Prop) :=
 match P.underlying t,x with
 | some (.array (n+1) _),.sl (z+1) row=>some (.ptr row 0,[cW (n+1) (z+1)≤row.length])
 | some (.array (n+1) _),.ref id=>(match look s.H id with
  | some ⟨z+1,_,_,cells⟩=>some (.addr id 0,[cW (n+1) (z+1)≤cells.length])
  | _=>none)
 | _,_=>none
theorem run_arrayAt {P:Program} {w:World} {t:TypeId} {n:Nat} {e:TypeId} (hu:P.underlying t=some (.array n e)) (A:Option Addr) (l c:Nat) (h:n≤l):(Instr.arrayAt t (.slice A l c)).run P w= .ok (.pointer A) w:=by
 have:¬l<n:=aj
 simp [Instr.arrayAt,run_underlying hu,this]
theorem C5 {t:TypeId} {x:Operand} (ho:o.op= .sliceToArrayPointer t x) (hr:yp P s t (bq s x)=some r):dc P s o r.1 r.2:=by
 intro hC S0 w0 n O a w φ hs
 have dx:=hs.bq x
 unfold yp at hr
 split at hr
 ·rename_i N e z row hu hx
  injection hr with hr;subst hr
  rw [hx] at dx
  have b7:=pj dx
  generalize hv:a.eval x=v at b7
  cases b7 with
  | sl A l c e' us E4 hlen hn hc hm ha il =>
   have iJ:=hC.1
   rw [bx] at iJ
   rw [hn,Nat.mul_comm (z+1)] at iJ
   have Sg:N+1≤l:=Nat.le_of_mul_le_mul_right iJ aj
   obtain ⟨ad,rfl,hS,bw⟩:=ha (by rw [hn];exact Nat.mul_pos aj aj)
   refine ⟨.pointer (some ad),?_,?_⟩
   ·unfold execOp;simp only [ho,hv,Sem.run_bind,run_arrayAt hu (some ad) l c Sg,Result.andThen_ok];rfl
   ·have:=cB.ptr (S:=aM S0 w φ O) (w:=w) ad us row 0 hlen hS bw il
    rw [dD] at this
    exact .rep this
 ·rename_i N e id hu hx
  rw [hx] at dx
  split at hr
  ·rename_i z p f cells lD
   injection hr with hr;subst hr
   have iJ:=hC.1
   rw [bx] at iJ
   generalize hv:a.eval x=v at dx
   cases dx with
   | rep b7=>cases b7
   | ref _ e' m g l c hi hm hc JM bY =>
    have nF:=bu (φ:=φ) lD
    rw [hi] at nF
    simp at nF
    obtain ⟨h1,h2,h3⟩:=nF
    subst h1 h2
    rw [hm,Nat.mul_comm (z+1)] at iJ
    have Sg:N+1≤l:=Nat.le_of_mul_le_mul_right iJ aj
    refine ⟨.pointer (some ⟨g,0,none⟩),?_,.addr id 0 _ _ g hi⟩
    unfold execOp;simp only [ho,hv,Sem.run_bind,run_arrayAt hu _ l c Sg,Result.andThen_ok];rfl
   | cH _ e' hi =>
    have nF:=bu (φ:=φ) lD
    rw [hi] at nF
    simp at nF
    rw [←nF.2.1] at iJ
    simp at iJ
  ·cases hr
 ·cases hr
end
def lj:AV->Option (List AV)
 | .val u=>(match u.oneCell' with|true=>some [.val u]|false=>none)
 | .agg cs=>some cs
 | .arr cs=>some cs
 | .bt _=>none
 | .dead=>none
 | .own _ _=>none
 | .box _=>none
 | x=>some [x]
theorem Fk {v:Value} (h:v.oneCell'=true):v.cells= [v].toArray:=by
 cases v<;>first|rfl|cases h
theorem l_ {I:Info} {S:Nat->Prop} {w:World} {v:Value} {x:AV} {l:List AV} (hd:Den I S w v x) (hl:lj x=some l) :
  ∃vs:List Value,v.cells=vs.toArray∧vs.length=l.length∧ ∀(j:Nat) u c,vs[j]?=some u->l[j]?=some c->Den I S w u c:=by
 have single:∀y,Den I S w v y->v.oneCell'=true->l= [y]-> ∃vs:List Value,v.cells=vs.toArray∧vs.length=l.length∧ ∀(j:Nat) u c,vs[j]?=some u->l[j]?=some c->Den I S w u c:=by
  intro y hy ho hl
  subst hl
  refine ⟨[v],Fk ho,rfl,fun j u c hu hc=>?_⟩
  cases j with
  | zero=>simp at hu hc;subst hu;subst hc;exact hy
  | succ j=>simp at hu
 have Bx:=hd
 cases hd with
 | rep h=>cases h with
  | val v =>
   unfold lj at hl
   simp only at hl
   split at hl
   ·rename_i ho;injection hl with hl;exact single _ Bx ho hl.symm
   ·cases hl
  | nil=>injection hl with hl;exact single _ Bx rfl hl.symm
  | agg vs cs hlen h=>injection hl with hl;subst hl;exact ⟨vs,rfl,hlen,fun j u c hu hc=>.rep (h j u c hu hc)⟩
  | bt vs cs hlen h=>cases hl
  | arr vs cs hlen h=>injection hl with hl;subst hl;exact ⟨vs,rfl,hlen,fun j u c hu hc=>.rep (h j u c hu hc)⟩
  | sl=>injection hl with hl;exact single _ Bx rfl hl.symm
  | pf=>injection hl with hl;exact single _ Bx rfl hl.symm
  | ptr=>injection hl with hl;exact single _ Bx rfl hl.symm
  | lK=>injection hl with hl;exact single _ Bx rfl hl.symm
 | agg vs cs hlen h=>injection hl with hl;subst hl;exact ⟨vs,rfl,hlen,h⟩
 | bt=>cases hl
 | dead=>cases hl
 | ref=>injection hl with hl;exact single _ Bx rfl hl.symm
 | cH=>injection hl with hl;exact single _ Bx rfl hl.symm
 | pre=>injection hl with hl;exact single _ Bx rfl hl.symm
 | dF=>injection hl with hl;exact single _ Bx rfl hl.symm
 | jr=>injection hl with hl;exact single _ Bx rfl hl.symm
 | addr=>injection hl with hl;exact single _ Bx rfl hl.symm
def A6 (place:Nat->Option (Nat×Nat)) (cells:List AV):List (Nat×AV)->Option (List AV)
 | []=>some cells
 | (i,x)::rest=>match place i,lj x with
  | some (off,size),some l=>(match Nat.beq l.length size,Nat.ble (off+l.length) cells.length with
   | true,true=>A6 place (cells.take off++l++cells.drop (off+l.length)) rest
   | _,_=>none)
  | _,_=>none
theorem ks (off:Nat):∀(vs:List Value) (k:Nat) (cells:Array Value) (p:Nat),((vs.zipIdx k).foldl (fun cs (cj:Value×Nat)=>cs.setIfInBounds (off+cj.2) cj.1) cells)[p]?=if off+k≤p∧p<off+k+vs.length∧p<cells.size then vs[p-(off+k)]? else cells[p]?
 | [],k,cells,p=>by simp;omega
 | v::vs,k,cells,p=>by
  simp only [List.zipIdx_cons,List.foldl_cons]
  rw [ks off vs (k+1)]
  simp only [Array.size_setIfInBounds,List.length_cons]
  by_cases h1:off+(k+1)≤p∧p<off+(k+1)+vs.length∧p<cells.size
  ·rw [if_pos h1,if_pos aj]
   rw [show p-(off+k)=(p-(off+(k+1)))+1 by omega,List.getElem?_cons_succ]
  ·rw [if_neg h1]
   by_cases h2:off+k=p
   ·subst h2
    by_cases h3:off+k<cells.size
    ·rw [Array.getElem?_setIfInBounds_self_of_lt h3,if_pos aj];simp
    ·rw [if_neg aj,Array.getElem?_eq_none (by simp;omega),Array.getElem?_eq_none aj]
   ·rw [Array.getElem?_setIfInBounds_ne h2,if_neg aj]
theorem jm (off:Nat):∀(vs:List (Value×Nat)) (cells:Array Value),(vs.foldl (fun cs (cj:Value×Nat)=>cs.setIfInBounds (off+cj.2) cj.1) cells).size=cells.size
 | [],_=>rfl
 | v::vs,cells=>by rw [List.foldl_cons,jm off vs];simp
theorem x6 {I:Info} {S:Nat->Prop} {w:World} (place:Nat->Option (Nat×Nat)):∀(parts:List (Nat×AV)) (mg:List (Nat×Value)) (cells out:List AV) (cs:Array Value),A6 place cells parts=some out->mg.map (·.1)=parts.map (·.1) ->
  (∀(j:Nat) v x,mg[j]?=some v->parts[j]?=some x->Den I S w v.2 x.2)->cs.size=cells.length->(∀(j:Nat) u c,cs[j]?=some u->cells[j]?=some c->Den I S w u c) ->
  ∃us:List Value,Instr.fill place cs mg=some us.toArray∧us.length=out.length∧ ∀(j:Nat) u c,us[j]?=some u->out[j]?=some c->Den I S w u c
 | [],mg,cells,out,cs,hf,hm,hp,hs,hd=>by
  have:mg= []:=by simpa using hm
  subst this
  injection hf with hf;subst hf
  exact ⟨cs.toList,by simp [Instr.fill],by simpa using hs,fun j u c hu hc=>hd j u c (by simpa using hu) hc⟩
 | (i,x)::parts,mg,cells,out,cs,hf,hm,hp,hs,hd=>by
  cases mg with
  | nil=>simp at hm
  | cons p mg =>
   obtain ⟨i',v⟩:=p
   simp only [List.map_cons,List.cons.injEq] at hm
   obtain ⟨hi,hm⟩:=hm
   subst hi
   have hv:=hp 0 (i',v) (i',x) rfl rfl
   simp only [A6] at hf
   split at hf
   ·rename_i off size l oO hl
    split at hf
    ·rename_i JR rj
     have h1:=Nat.eq_of_beq_eq_true JR
     have h2:off+l.length≤cells.length:=Nat.le_of_ble_eq_true rj
     obtain ⟨vs,Ej,hlen,dV⟩:=l_ hv hl
     have hz:v.cells.zipIdx.foldl (fun cs (cj:Value×Nat)=>cs.setIfInBounds (off+cj.2) cj.1) cs=(vs.zipIdx).foldl (fun cs (cj:Value×Nat)=>cs.setIfInBounds (off+cj.2) cj.1) cs:=by
      rw [Ej];simp
     have ih:=x6 (I:=I) (S:=S) (w:=w) place parts mg (cells.take off++l++cells.drop (off+l.length)) out ((vs.zipIdx).foldl (fun cs (cj:Value×Nat)=>cs.setIfInBounds (off+cj.2) cj.1) cs) hf hm (fun j v x hv hx=>hp (j+1) v x (by simpa using hv) (by simpa using hx)) (by
       rw [jm,hs];simp only [List.length_append,List.length_take,List.length_drop];omega) (fun j u c hu hc=>by
       rw [ks off vs 0 cs j] at hu
       simp only [Nat.add_zero] at hu
       split at hu
       ·rename_i hj
        rw [List.getElem?_append_left (by simp only [List.length_append,List.length_take];omega),List.getElem?_append_right (by simp only [List.length_take];omega)] at hc
        refine dV _ u c hu ?_
        rw [←hc];congr 1;simp only [List.length_take];omega
       ·rename_i hj
        have VW:j<cs.size:=by
         rcases Nat.lt_or_ge j cs.size with h|h
         ·exact h
         ·rw [Array.getElem?_eq_none h] at hu;cases hu
        refine hd j u c hu ?_
        by_cases UD:j<off
        ·rw [List.getElem?_append_left (by simp only [List.length_append,List.length_take];omega),List.getElem?_append_left (by simp only [List.length_take];omega),List.getElem?_take,if_pos UD] at hc
         exact hc
        ·rw [List.getElem?_append_right (by simp only [List.length_append,List.length_take];omega),List.getElem?_drop] at hc
         rw [←hc];congr 1;simp only [List.length_append,List.length_take];omega)
     obtain ⟨us,Fw,r⟩:=ih
     refine ⟨us,?_,r⟩
     have O8:v.cells.size=l.length:=by rw [Ej];simpa using hlen
     unfold Instr.fill
     rw [oO]
     simp only
     rw [if_neg (by rw [O8,←h1,hs];simp;omega),hz]
     exact Fw
    ·cases hf
   ·cases hf
def sW (P:Program):List Field->Option (List (Nat×Nat))
 | []=>some []
 | f::l=>match eC P f.type,sW P l with|some z,some m=>some ((f.offset,z)::m)|_,_=>none
theorem run_places {P:Program} {w:World}:∀(l:List Field) (m:List (Nat×Nat)),sW P l=some m->(l.mapM fun f=>(do pure (f.offset,←sizeOf f.type):Sem (Nat×Nat))).run P w= .ok m w
 | [],m,h=>by cases h;rfl
 | f::l,m,h=>by
  simp only [sW] at h
  split at h
  ·rename_i z q hz hq
   cases h
   have:=run_places (w:=w) l q hq
   have Av:(sizeOf f.type).run P w= .ok z w:=run_sizeOf hz
   simp only [List.mapM_cons,Sem.run_bind,Av,Result.andThen_ok,Sem.run_pure,this]
  ·cases h
def partsOf (s:AS):List (Nat×Operand)->List (Nat×AV)
 | []=>[]
 | (i,x)::l=>(i,bq s x)::partsOf s l
def yo (P:Program) (s:AS) (t:TypeId) (parts:List (Nat×Operand)):Option (AV×List Prop) :=
 match (P.info? t).bind (·.zero),P.underlying t with
 | some z,some (.struct fields)=>(match sW P fields.toList with
  | some places=>(match A6 (fun i=>places[i]?) (z.cells.toList.map bC) (partsOf s parts) with|some l=>some (.agg l,[])|none=>none)
  | none=>none)
 | some z,some (.array _ el)=>(match eC P el with
  | some k=>(match A6 (fun i=>some (i*k,k)) (z.cells.toList.map bC) (partsOf s parts) with|some l=>some (.agg l,[])|none=>none)
  | none=>none)
 | _,_=>none
section
variable {P:Program} {s:AS} {o:Oper} {h:Hint} {r:AV×List Prop}
theorem rY (parts:List (Nat×Operand)) (f:Operand->Value):(parts.map fun p=>(p.1,f p.2)).map (·.1)=(partsOf s parts).map (·.1):=by
 induction parts with
 | nil=>rfl
 | cons p l ih=>obtain ⟨i,x⟩:=p;simp only [List.map_cons,partsOf,ih]
theorem nv {S0:bo} {w0 w:World} {n:Nat} {O:List Nat} {a:Act} {φ:Nat->Option Nat} (hs:aJ S0 w0 n O s a w φ):∀(parts:List (Nat×Operand)) (j:Nat) (v:Nat×Value) (x:Nat×AV),(parts.map fun p=>(p.1,a.eval p.2))[j]?=some v->(partsOf s parts)[j]?=some x->Den (az s.H φ) (aM S0 w φ O) w v.2 x.2
 | [],j,v,x,hv,hx=>by simp at hv
 | (i,y)::l,j,v,x,hv,hx=>by
  cases j with
  | zero=>simp [partsOf] at hv hx;subst hv;subst hx;exact hs.bq y
  | succ j=>exact nv hs l j v x (by simpa using hv) (by simpa [partsOf] using hx)
theorem iO {w:World} {t:TypeId} {z:Value} (h:(P.info? t).bind (·.zero)=some z):(zeroValue t).run P w= .ok z w:=by
 cases hi:P.info? t with
 | none=>rw [hi] at h;cases h
 | some i=>rw [hi] at h;simp at h;simp [zeroValue,typeInfo,hi,h]
theorem tq {I:Info} {S:Nat->Prop} {w:World} (z:Value) (j:Nat) (u:Value) (c:AV) (hu:z.cells[j]?=some u) (hc:(z.cells.toList.map bC)[j]?=some c):Den I S w u c:=by
 rw [List.getElem?_map] at hc
 have:z.cells.toList[j]?=some u:=by simpa using hu
 rw [this] at hc
 injection hc with hc;subst hc
 exact .rep (fP u)
theorem C4 {t:TypeId} {parts:Array (Nat×Operand)} (ho:o.op= .build t parts) (hr:yo P s t parts.toList=some r):dc P s o r.1 r.2:=by
 intro hC S0 w0 n O a w φ hs
 unfold yo at hr
 have oO:(parts.map fun p=>(p.1,a.eval p.2)).toList=parts.toList.map fun p=>(p.1,a.eval p.2):=by simp
 split at hr
 ·rename_i z fields hz hu
  split at hr
  ·rename_i places hp
   split at hr
   ·rename_i l hl
    injection hr with hr;subst hr
    obtain ⟨us,Fw,hlen,dV⟩:=x6 (I:=az s.H φ) (S:=aM S0 w φ O) (w:=w) (fun i=>places[i]?) (partsOf s parts.toList) (parts.toList.map fun p=>(p.1,a.eval p.2)) _ l z.cells hl (rY _ _) (nv hs parts.toList) (by simp) (tq z)
    refine ⟨.agg us.toArray,?_,.agg us l hlen dV⟩
    have hm:(fields.mapM fun f=>(do pure (f.offset,←sizeOf f.type):Sem (Nat×Nat))).run P w= .ok places.toArray w:=by
     rw [Array.mapM_eq_mapM_toList,Sem.run_map,run_places _ _ hp];rfl
    have PJ:Instr.fill (fun i=>places.toArray[i]?) z.cells (parts.map fun p=>(p.1,a.eval p.2)).toList=some us.toArray:=by
     rw [oO,←Fw];congr 1;funext i;simp
    unfold execOp
    simp only [ho,Instr.build,Sem.run_bind,iO hz,Result.andThen_ok,run_underlying hu]
    rw [hm]
    simp only [Result.andThen_ok]
    rw [PJ]
    rfl
   ·cases hr
  ·cases hr
 ·rename_i z n' el hz hu
  split at hr
  ·rename_i k hk
   split at hr
   ·rename_i l hl
    injection hr with hr;subst hr
    obtain ⟨us,Fw,hlen,dV⟩:=x6 (I:=az s.H φ) (S:=aM S0 w φ O) (w:=w) (fun i=>some (i*k,k)) (partsOf s parts.toList) (parts.toList.map fun p=>(p.1,a.eval p.2)) _ l z.cells hl (rY _ _) (nv hs parts.toList) (by simp) (tq z)
    refine ⟨.agg us.toArray,?_,.agg us l hlen dV⟩
    have oz:(sizeOf el).run P w= .ok k w:=run_sizeOf hk
    unfold execOp
    simp only [ho,Instr.build,Sem.run_bind,iO hz,Result.andThen_ok,run_underlying hu,oz]
    rw [oO,Fw]
    rfl
   ·cases hr
  ·cases hr
 ·cases hr
def qh (P:Program) (s:AS) (o:Oper) (h:Hint):Option (AV×List Prop) :=
 match o.op with
 | .move x=>some (fin h (bq s x,[]))
 | .assign x=>some (fin h (bq s x,[]))
 | .binOp op t x y _=>(match bq s x,bq s y with
  | .val u,.val v=>(match I7 P op t x y u v with|some r=>some (fin h r)|none=>none)
  | .agg cs,.agg ds=>(match yh P op t cs ds with|some r=>some (fin h r)|none=>none)
  | .arr cs,.arr ds=>yf P op t cs ds h
  | _,_=>none)
 | .unOp op _ x=>(match bq s x with| .val u=>(match Nr P op u with|some r=>some (fin h r)|none=>none)|_=>none)
 | .convert src dst x=>CY P s src dst (bq s x) h
 | .load t x=>CM P s t (bq s x) h
 | .fieldAddr t x f=>nN P t (bq s x) f
 | .indexAddr t x i=>(match bq s i with| .val (.int _ n)=>I1 P s t (bq s x) n h|_=>none)
 | .index t x i=>(match bq s i with| .val (.int _ n)=>yb P t (bq s x) n h|_=>none)
 | .slice t x lo hi mx=>(match vg s lo hi mx with|some c=>x_ P s t (bq s x) c h|none=>none)
 | .field t x f=>yd P t (bq s x) f h
 | .extract x i=>rz (bq s x) i
 | .nilCheck x=>IX (bq s x)
 | .pick c x y=>(match CJ s c x y h with|some r=>some (fin h r)|none=>none)
 | .build t parts=>yo P s t parts.toList
 | .sliceToArrayPointer t x=>yp P s t (bq s x)
 | .call ⟨.builtin .len,⟨[x]⟩,ts⟩=>IZ P s ts o.type (bq s x) h
 | .call ⟨.builtin b,xs,ts⟩=>(match tD s xs.toList with|some us=>(match Nt P b ts o.type us with|some r=>some (fin h r)|none=>none)|none=>none)
 | _=>none
theorem kT (hr:qh P s o h=some r):dc P s o r.1 r.2:=by
 unfold qh at hr
 split at hr
 ·rename_i x ho
  injection hr with hr;subst hr
  refine gA fun _ S0 w0 n O a w φ hs=>⟨a.eval x,?_,hs.bq x⟩
  unfold execOp;simp only [ho];rfl
 ·rename_i x ho
  injection hr with hr;subst hr
  refine gA fun _ S0 w0 n O a w φ hs=>⟨a.eval x,?_,hs.bq x⟩
  unfold execOp;simp only [ho];rfl
 ·rename_i op t x y t' ho
  split at hr
  ·rename_i u v hu hv
   split at hr
   ·rename_i q hq
    injection hr with hr;subst hr
    exact gA (I6 ho hu hv hq)
   ·cases hr
  ·rename_i cs ds hu hv
   split at hr
   ·rename_i q hq
    injection hr with hr;subst hr
    exact gA (CR ho hu hv hq)
   ·cases hr
  ·rename_i cs ds hu hv
   exact CQ ho hu hv hr
  ·cases hr
 ·rename_i op t x ho
  split at hr
  ·rename_i u hu
   split at hr
   ·rename_i q hq
    injection hr with hr;subst hr
    exact gA (K_ ho hu hq)
   ·cases hr
  ·cases hr
 ·rename_i ho;exact FZ ho hr
 ·rename_i ho;exact FU ho hr
 ·rename_i ho;exact u9 ho hr
 ·rename_i ho
  split at hr
  ·rename_i hi;exact I0 ho hi hr
  ·cases hr
 ·rename_i ho
  split at hr
  ·rename_i hi;exact CN ho hi hr
  ·cases hr
 ·rename_i ho
  split at hr
  ·rename_i hc;exact CI ho hc hr
  ·cases hr
 ·rename_i ho;exact CP ho hr
 ·rename_i ho;exact ye ho hr
 ·rename_i ho;exact IW ho hr
 ·rename_i ho
  split at hr
  ·rename_i q hq
   injection hr with hr;subst hr
   exact gA (FQ ho hq)
  ·cases hr
 ·rename_i ho;exact C4 ho hr
 ·rename_i ho;exact C5 ho hr
 ·rename_i ho;exact IY ho hr
 ·rename_i b xs ts _ ho
  split at hr
  ·rename_i us hu
   split at hr
   ·rename_i q hq
    injection hr with hr;subst hr
    exact gA (La ho hu hq)
   ·cases hr
  ·cases hr
 ·cases hr
end
def mc (P:Program) (n:Nat) (s:AS) (o:Oper) (s':AS) (C:List Prop):Prop :=
 bz C-> ∀S0 w0 a w Q,iv S0 w0 n s a w->o.wp P a w (fun a' w'=>iv S0 w0 n s' a' w') Q
def gG (n:Nat) (s:AS) (d:Option Nat) (x:AV):Option AS :=
 match d with
 | none=>some s
 | some d=>(match Nat.blt d n,Nat.ble n 1000000000 with|true,true=>some (lr s d x)|_,_=>none)
theorem dY {S0:bo} {w0 w:World} {n:Nat} {O:List Nat} {s s':AS} {a:Act} {φ:Nat->Option Nat} {d:Option Nat} {v:Value} {x:AV} (h:aJ S0 w0 n O s a w φ) (hx:Den (az s.H φ) (aM S0 w φ O) w v x) (hp:gG n s d x=some s'):aJ S0 w0 n O s' (a.put d v) w φ:=by
 unfold gG at hp
 split at hp
 ·injection hp with hp;subst hp
  exact ⟨h.jQ,h.jT,h.cZ,h.cG,h.rows,h.only,h.inj,h.cY,h.apart,h.new⟩
 ·split at hp
  ·rename_i d _ _ hb _
   injection hp with hp;subst hp
   have hd:d<n:=by simpa [Nat.blt_eq] using hb
   exact h.put hd hx
  ·cases hp
theorem cV {P:Program} {o:Oper} {a:Act} {w w':World} {v:Value} {next:Act->World->Prop} {Q:Exit->Act->World->Prop} (cp:(execOp a.eval o).run P w= .ok (.value v) w') (hn:next (a.put o.dst v) w'):o.wp P a w next Q:=by
 unfold Oper.wp
 rw [cp]
 exact hn
theorem iS {n:Nat} {s s':AS} {d:Nat} {x:AV} (hp:gG n s (some d) x=some s'):d<1000000000000:=by
 unfold gG at hp
 simp only at hp
 split at hp
 ·rename_i h1 h2
  have h1:d<n:=by simpa [Nat.blt_eq] using h1
  have h2:=Nat.le_of_ble_eq_true h2
  omega
 ·cases hp
theorem Hs {P:Program} {n:Nat} {s s':AS} {o:Oper} {x:AV} {C:List Prop} (h:dc P s o x C) (hp:gG n s o.dst x=some s'):mc P n s o s' C:=by
 intro hC S0 w0 a w Q ⟨φ,hs⟩
 obtain ⟨v,cp,dV⟩:=h hC S0 w0 n [] a w φ hs
 unfold Oper.wp
 rw [cp]
 exact ⟨φ,dY hs dV hp⟩
def named (h:Hint) (cells:List AV):List AV×List Prop:=match h.av with|some (.arr row)=>(row,[cells=row])|_=>(cells,[])
theorem hY {h:Hint} {cells:List AV} {C:List Prop} (hC:bz ((named h cells).2++C)):(named h cells).1=cells∧bz C:=by
 unfold named at *
 split at hC
 ·exact ⟨hC.1.symm,hC.2⟩
 ·exact ⟨rfl,hC⟩
def install (s:AS) (id:Nat) (r:Row):AS:=⟨(ck id s).F,(id,r)::(ck id s).H⟩
section
variable {S0:bo} {w0 w w':World} {n:Nat} {s:AS} {a:Act} {φ:Nat->Option Nat}
theorem aJ.mj (h:aJ S0 w0 n [] s a w φ) (id:Nat):aJ S0 w0 n [] (ck id s) a w (erase φ id):=by
 cases cm:φ id with
 | none=>exact h.jw id [] (by rw [cm])
 | some g=>exact (h.jw id [g] (by rw [cm])).uT
theorem dq (id:Nat):look (ck id s).H id=none:=by
 unfold ck;rw [cz,bH,if_pos rfl];rfl
theorem aJ.fresh (h:aJ S0 w0 n [] s a w φ) (id:Nat) (r:Row) (hid:id<1000000000000) (Ia:w'.os=w.os) (uB:w'.tape=w.tape) (uC:w'.output=w.output) (dC:w.heap.size<w'.heap.size) (hb:∀b,b<w.heap.size->w'.heap[b]?=w.heap[b]?)
  {cur:Array Value} {te:TypeId} {fr:Nat×Nat} (hg:w'.heap[w.heap.size]?=some (.cells cur te fr)) (gy:∀j,j<cur.size-> ¬(fr.1≤j∧j<fr.2)) (hl:r.cells.length≤cur.size) (mT:r.full=true->cur.size=r.cells.length)
  (hc:∀(j:Nat) u x,cur[j]?=some u->r.cells[j]?=some x->(r.pure=true->cB (aM S0 w φ []) w u x)∧(r.pure=false-> ∃y,x=aE id y∧Den (az s.H φ) (aM S0 w φ []) w u y)) :
  aJ S0 w0 n [] (install s id r) a w' (fG (erase φ id) id w.heap.size):=by
 have h1:=h.mj id
 have h2:=h1.await w.heap.size (Nat.le_refl _)
 have h3:=h2.vW (w':=w') (fun g hg=>by simp at hg;rw [hg];exact .inl h.cZ.size) Ia uB uC (Nat.le_of_lt dC) (fun b JR _=>hb b JR)
 have TI:∀b,aM S0 w φ [] b->aM S0 w (erase φ id) [] b:=by
  intro b ⟨h1,h2,h3,h4⟩
  refine ⟨h1,h2,fun i hi=>?_,h4⟩
  unfold erase at hi
  split at hi
  ·cases hi
  ·exact h3 i hi
 have hF:∀b,aM S0 w (erase φ id) [] b->aM S0 w' (erase φ id) [w.heap.size] b∧w'.heap[b]?=w.heap[b]?:=by
  intro b ⟨h1,h2,h3⟩
  exact ⟨⟨aj,by simp;omega,h3⟩,hb b h1⟩
 refine h3.wX ⟨.inl hid,.inl h.cZ.size⟩ dC (by simp) (dq id) ⟨cur,te,fr,hg,gy,hl,mT,fun j u x hu hx=>?_⟩
 obtain ⟨hp,hi⟩:=hc j u x hu hx
 unfold bj
 cases qb:r.pure with
 | true=>exact ((hp qb).mono fun b hb=>⟨TI b hb,rfl⟩).mono hF
 | false =>
  obtain ⟨y,rfl,hy⟩:=hi qb
  have hk:=(ux id (nC id) TI).all hy
  exact hk.mono (fun _ _ h=>h) hF (fun i e m g hi=>by
   obtain ⟨q,-,-,-,hg⟩:=aQ hi
   unfold aV;rw [hb g (h1.cY i g hg).2])
theorem fm (id:Nat) (r:Row) (g:Nat):az (install s id r).H (fG (erase φ id) id g) id=some (r.e,r.cells.length,some g):=by
 rw [bu (r:=r) (by unfold install;rw [aD,if_pos rfl])]
 unfold fG;rw [if_pos rfl]
end
def rF (P:Program) (t:TypeId):Nat:=match P.underlying t with|some (.array _ el)=>(match eC P el with|some k=>k|none=>1)|_=>1
theorem ik {α:Type} (f:Nat->α):(Array.range 0).map f= #[]:=Array.eq_empty_of_size_eq_zero (by simp)
def oh (P:Program) (n:Nat) (s:AS) (d t:Nat) (h:Hint):Option (AS×List Prop) :=
 match (P.info? t).bind (·.zero) with
 | some z=>(match h.av with
  | some (.arr row)=>(match gG n (install s d ⟨rF P t,true,true,row⟩) (some d) (.addr d 0) with|some s'=>some (s',[z.cells.toList.map bC=row])|none=>none)
  | _=>(match gG n (install s d ⟨rF P t,false,true,z.cells.toList.map bC⟩) (some d) (.addr d 0) with|some s'=>some (s',[])|none=>none))
 | none=>none
theorem dO (w:World) (o:Obj):({w with heap:=w.heap.push o}:World).heap[w.heap.size]?=some o:=by simp
theorem cL (w:World) (o:Obj) (b:Nat) (h:b<w.heap.size):({w with heap:=w.heap.push o}:World).heap[b]?=w.heap[b]?:=by
 show (w.heap.push o)[b]?=_
 rw [Array.getElem?_push,if_neg aj]
section
variable {P:Program} {n:Nat} {s:AS} {o:Oper} {h:Hint} {q:AS×List Prop}
theorem Ch (id:Nat) (v:Value):aE id (bC v)=bC v:=by
 unfold bC
 split<;>rfl
theorem va {t d:Nat} (ho:o.op= .alloc t) (hd:o.dst=some d) (hr:oh P n s d t h=some q):mc P n s o q.1 q.2:=by
 intro hC S0 w0 a w Q ⟨φ,hs⟩
 unfold oh at hr
 split at hr
 ·rename_i z hz
  have cp:(execOp a.eval o).run P w= .ok (.value (.pointer (some ⟨w.heap.size,0,none⟩))) {w with heap:=w.heap.push (.cells z.cells t (0,0))}:=by
   unfold execOp
   simp [ho,Instr.alloc,iO hz,newVar,newRow]
  refine cV cp ?_
  rw [hd]
  split at hr
  ·rename_i row _
   split at hr
   ·rename_i s' bY
    injection hr with hr;subst hr
    have e:=hC.1
    have h1:=hs.fresh (w':={w with heap:=w.heap.push (.cells z.cells t (0,0))}) d ⟨rF P t,true,true,row⟩ (iS bY) rfl rfl rfl (by simp) (cL w _) (dO w _) (by simp) (by simp [←e]) (by simp [←e]) (fun j u x hu hx=>⟨fun _=>by
     simp only [←e,List.getElem?_map] at hx
     have:z.cells.toList[j]?=some u:=by simpa using hu
     rw [this] at hx;injection hx with hx;subst hx;exact fP u,fun h=>by cases h⟩)
    exact ⟨_,dY h1 (.addr d 0 _ _ _ (fm d _ _)) bY⟩
   ·cases hr
  ·split at hr
   ·rename_i s' bY
    injection hr with hr;subst hr
    have h1:=hs.fresh (w':={w with heap:=w.heap.push (.cells z.cells t (0,0))}) d ⟨rF P t,false,true,z.cells.toList.map bC⟩ (iS bY) rfl rfl rfl (by simp) (cL w _) (dO w _) (by simp) (by simp) (by simp) (fun j u x hu hx=>⟨fun h=>(by cases h),fun _=>by
     simp only [List.getElem?_map] at hx
     have:z.cells.toList[j]?=some u:=by simpa using hu
     rw [this] at hx;injection hx with hx;subst hx
     exact ⟨bC u,(Ch d u).symm,.rep (fP u)⟩⟩)
    exact ⟨_,dY h1 (.addr d 0 _ _ _ (fm d _ _)) bY⟩
   ·cases hr
 ·cases hr
def I5 (P:Program) (n:Nat) (s:AS) (d t:Nat) (x:AV):Option (AS×List Prop) :=
 match x with
 | .arr row=>(match gG n (install s d ⟨rF P t,true,true,row⟩) (some d) (.addr d 0) with|some s'=>some (s',[])|none=>none)
 | x=>(match lj x with
  | some l=>(match gG n (install s d ⟨rF P t,false,true,l.map (aE d)⟩) (some d) (.addr d 0) with|some s'=>some (s',[])|none=>none)
  | none=>none)
theorem I4 {t d:Nat} {x:Operand} (ho:o.op= .box t x) (hd:o.dst=some d) (hr:I5 P n s d t (bq s x)=some q):mc P n s o q.1 q.2:=by
 intro hC S0 w0 a w Q ⟨φ,hs⟩
 have hx:=hs.bq x
 have cp:(execOp a.eval o).run P w= .ok (.value (.pointer (some ⟨w.heap.size,0,none⟩))) {w with heap:=w.heap.push (.cells (a.eval x).cells t (0,0))}:=by
  unfold execOp
  simp [ho,Instr.box,newVar,newRow]
 refine cV cp ?_
 rw [hd]
 unfold I5 at hr
 split at hr
 ·rename_i row he
  split at hr
  ·rename_i s' bY
   injection hr with hr;subst hr
   rw [he] at hx
   obtain ⟨vs,hv,hl,b7⟩:=qp hx
   have dP:(a.eval x).cells=vs.toArray:=by rw [hv];rfl
   rw [dP]
   have h1:=hs.fresh (w':={w with heap:=w.heap.push (.cells vs.toArray t (0,0))}) d ⟨rF P t,true,true,row⟩ (iS bY) rfl rfl rfl (by simp) (cL w _) (dO w _) (by simp) (by simp [hl]) (by simp [hl]) (fun j u x hu hx=>⟨fun _=>b7 j u x (by simpa using hu) hx,fun h=>by cases h⟩)
   exact ⟨_,dY h1 (.addr d 0 _ _ _ (fm d _ _)) bY⟩
  ·cases hr
 ·split at hr
  ·rename_i l hl
   split at hr
   ·rename_i s' bY
    injection hr with hr;subst hr
    obtain ⟨vs,dP,hlen,dV⟩:=l_ hx hl
    rw [dP]
    have h1:=hs.fresh (w':={w with heap:=w.heap.push (.cells vs.toArray t (0,0))}) d ⟨rF P t,false,true,l.map (aE d)⟩ (iS bY) rfl rfl rfl (by simp) (cL w _) (dO w _) (by simp) (by simp [hlen]) (by simp [hlen]) (fun j u x hu hx=>⟨fun h=>(by cases h),fun _=>by
     simp only [List.getElem?_map] at hx
     cases hj:l[j]? with
     | none=>rw [hj] at hx;cases hx
     | some y=>rw [hj] at hx;injection hx with hx;subst hx;exact ⟨y,rfl,dV j u y (by simpa using hu) hj⟩⟩)
    exact ⟨_,dY h1 (.addr d 0 _ _ _ (fm d _ _)) bY⟩
   ·cases hr
  ·cases hr
def OZ:AV->List Nat
 | .ref i=>[i]
 | .pre i _=>[i]
 | .jr i _ _=>[i]
 | .addr i _=>[i]
 | _=>[]
def p8:AV->List Nat
 | .agg cs=>cs.flatMap OZ
 | x=>OZ x
def gg:AS->List Nat->Option AS
 | s,[]=>some s
 | s,i::l=>match look s.H i with
  | some r=>(match r.pure with|true=>gg (gP i r s) l|false=>none)
  | none=>gg s l
theorem fM {S0:bo} {w0 w:World} {a:Act}:∀(l:List Nat) (s s':AS) (φ:Nat->Option Nat),gg s l=some s'->aJ S0 w0 n [] s a w φ-> ∃ cE,aJ S0 w0 n [] s' a w cE
 | [],s,s',φ,h,hs=>by cases h;exact ⟨φ,hs⟩
 | i::l,s,s',φ,h,hs=>by
  simp only [gg] at h
  split at h
  ·rename_i r hr
   split at h
   ·rename_i hp
    exact fM l _ s' _ h (hs.LA hr hp)
   ·cases h
  ·exact fM l s s' φ h hs
def ig:AV->Bool
 | .val u=>u.oneCell'
 | .nil=>true
 | .sl _ _=>true
 | .ptr _ _=>true
 | .lK _ _=>true
 | _=>false
def d_:List AV->Bool
 | []=>true
 | x::l=>match ig x with|true=>d_ l|false=>false
theorem eK {I:Info} {S:Nat->Prop} {w:World} {v:Value} {x:AV} (hd:Den I S w v x) (hp:ig x=true):cB S w v x∧v.oneCell'=true:=by
 cases hd with
 | rep h=>refine ⟨h,?_⟩;cases h<;>first|exact hp|rfl|cases hp
 | _=>cases hp
theorem iA:∀ {l:List AV} {j:Nat} {x:AV},d_ l=true->l[j]?=some x->ig x=true
 | [],j,x,_,h=>by simp at h
 | y::l,j,x,hp,h=>by
  simp only [d_] at hp
  split at hp
  ·rename_i hy
   cases j with
   | zero=>simp at h;subst h;exact hy
   | succ j=>exact iA hp (by simpa using h)
  ·cases hp
def fW (s:AS) (z:Nat):Nat->List (Nat×Operand)->Option (List AV)
 | _,[]=>some []
 | i,(j,x)::l=>match Nat.beq i j,lj (bq s x),fW s z (i+1) l with
  | true,some c,some m=>(match Nat.beq c.length z with|true=>some (c++m)|false=>none)
  | _,_,_=>none
def u0 (P:Program) (n:Nat) (s:AS) (d t len:Nat) (parts:List (Nat×Operand)) (h:Hint):Option (AS×List Prop) :=
 match P.underlying t with
 | some (.slice el)=>(match eC P el,(P.info? el).bind (·.zero),gg s (parts.flatMap fun p=>p8 (bq s p.2)) with
  | some (z+1),some zero,some s1=>(match fW s1 (z+1) 0 parts,Nat.beq parts.length len,Nat.ble (len*(z+1)) 16777216 with
   | some cells,true,true=>(match Nat.beq zero.cells.size (z+1) with
    | true=>(match h.av with
     | some (.arr row)=>(match d_ cells,gG n (install s1 d ⟨z+1,true,true,row⟩) (some d) (.ref d) with|true,some s'=>some (s',[cells=row])|_,_=>none)
     | _=>(match d_ cells,gG n (install s1 d ⟨z+1,true,true,cells⟩) (some d) (.ref d) with|true,some s'=>some (s',[])|_,_=>none))
    | false=>none)
   | _,_,_=>none)
  | _,_,_=>none)
 | _=>none
theorem Cf {S0:bo} {w0 w:World} {a:Act} {φ:Nat->Option Nat} (hs:aJ S0 w0 n [] s a w φ) (z:Nat):∀(parts:List (Nat×Operand)) (i:Nat) (cells:List AV) (cur:Array Value),fW s z i parts=some cells->d_ cells=true->i*z+parts.length*z=cur.size ->
  cells.length=parts.length*z∧ ∃us:Array Value,Instr.fill (fun i=>some (i*z,z)) cur (parts.map fun p=>(p.1,a.eval p.2))=some us∧us.size=cur.size∧(∀j,j<i*z->us[j]?=cur[j]?)∧ ∀(j:Nat) u x,us[i*z+j]?=some u->cells[j]?=some x->cB (aM S0 w φ []) w u x
 | [],i,cells,cur,hc,hp,dC=>by cases hc;exact ⟨by simp,cur,rfl,rfl,fun _ _=>rfl,fun j u x _ hx=>by simp at hx⟩
 | (j,x)::l,i,cells,cur,hc,hp,dC=>by
  simp only [fW] at hc
  split at hc
  ·rename_i c m MW KW hm
   split at hc
   ·rename_i KV
    cases hc
    have MW:=Nat.eq_of_beq_eq_true MW
    have KV:=Nat.eq_of_beq_eq_true KV
    subst MW
    obtain ⟨vs,hv,hlen,dV⟩:=l_ (hs.bq x) KW
    have Rx:d_ m=true:=by
     have key:∀(c m:List AV),d_ (c++m)=true->d_ m=true:=by
      intro c
      induction c with
      | nil=>intro m h;exact h
      | cons y c ih =>
       intro m h
       simp only [List.cons_append,d_] at h
       split at h
       ·exact ih m h
       ·cases h
     exact key c m hp
    simp only [List.length_cons] at dC
    have KG:(l.length+1)*z=l.length*z+z:=by rw [Nat.add_mul,Nat.one_mul]
    have dM:(i+1)*z=i*z+z:=by rw [Nat.add_mul,Nat.one_mul]
    have Ir:((a.eval x).cells.zipIdx.foldl (fun cs (cj:Value×Nat)=>cs.setIfInBounds (i*z+cj.2) cj.1) cur)=(vs.zipIdx.foldl (fun cs (cj:Value×Nat)=>cs.setIfInBounds (i*z+cj.2) cj.1) cur):=by rw [hv];simp
    obtain ⟨Gu,us,Fw,H3,H2,MM⟩:=Cf hs z l (i+1) m (vs.zipIdx.foldl (fun cs (cj:Value×Nat)=>cs.setIfInBounds (i*z+cj.2) cj.1) cur) hm Rx (by rw [jm];omega)
    rw [jm] at H3
    refine ⟨by rw [List.length_append,List.length_cons,Gu,KV];omega,us,?_,H3,fun j hj=>?_,fun j u y hu hy=>?_⟩
    ·rw [List.map_cons]
     unfold Instr.fill
     simp only
     have O8:(a.eval x).cells.size=z:=by rw [hv];simp;omega
     rw [if_neg (by rw [O8];simp;omega),Ir]
     exact Fw
    ·rw [H2 j aj,ks,if_neg aj]
    ·by_cases hj:j<z
     ·rw [H2 _ aj,ks,if_pos aj] at hu
      rw [List.getElem?_append_left aj] at hy
      have Ro:vs[j]?=some u:=by rw [←hu];congr 1;omega
      exact (eK (dV j u y Ro hy) (iA (l:=c++m) (j:=j) hp (by rw [List.getElem?_append_left aj];exact hy))).1
     ·rw [List.getElem?_append_right aj] at hy
      refine MM (j-z) u y ?_ (by rw [←hy,KV])
      rw [←hu];congr 1;omega
   ·cases hc
  ·cases hc
theorem Ba {t d len:Nat} {parts:Array (Nat×Operand)} (ho:o.op= .buildSlice t len parts) (hd:o.dst=some d) (hr:u0 P n s d t len parts.toList h=some q):mc P n s o q.1 q.2:=by
 intro hC S0 w0 a w Q ⟨QU,lJ⟩
 unfold u0 at hr
 split at hr
 ·rename_i el hu
  split at hr
  ·rename_i z zero s1 hz hzero Pb
   obtain ⟨φ,hs⟩:=fM _ _ _ _ Pb lJ
   split at hr
   ·rename_i cells dP hlen AJ
    split at hr
    ·rename_i uA
     have uA:=Nat.eq_of_beq_eq_true uA
     have hlen:=Nat.eq_of_beq_eq_true hlen
     have AJ:len*(z+1)≤16777216:=Nat.le_of_ble_eq_true AJ
     have cp:d_ cells=true-> ∃us:Array Value,(execOp a.eval o).run P w= .ok (.value (.slice (some ⟨w.heap.size,0,none⟩) len len)) {w with heap:=w.heap.push (.cells us el (0,0))}∧us.size=cells.length∧cells.length=(z+1)*len∧ ∀(j:Nat) u x,us[j]?=some u->cells[j]?=some x->cB (aM S0 w φ []) w u x:=by
      intro hp
      obtain ⟨h1,us,h2,h3,-,h4⟩:=Cf hs (z+1) parts.toList 0 cells ((Array.range (len*(z+1))).map (zero.cells[· %zero.cells.size]!)) dP hp (by simp [←hlen])
      refine ⟨us,?_,by rw [h3,h1,hlen];simp,by rw [h1,hlen,Nat.mul_comm],fun j u x hu hx=>h4 j u x (by simpa using hu) hx⟩
      have Av:(sizeOf el).run P w= .ok (z+1) w:=run_sizeOf hz
      have oO:(parts.map fun p=>(p.1,a.eval p.2)).toList=parts.toList.map fun p=>(p.1,a.eval p.2):=by simp
      unfold execOp
      simp only [ho,Instr.buildSlice,Sem.run_bind,run_underlying hu,Result.andThen_ok,Av,Sem.run_ite]
      rw [if_neg aj]
      by_cases h0:len*(z+1)=0
      ·rw [if_pos h0]
       simp only [Sem.run_pure,Result.andThen_ok]
       have:(Array.range (len*(z+1))).map (fun x=>(#[]:Array Value)[x%(#[]:Array Value).size]!)=(Array.range (len*(z+1))).map (fun x=>zero.cells[x%zero.cells.size]!):=by rw [h0,ik,ik]
       rw [this,oO,h2]
       rfl
      ·rw [if_neg h0]
       simp only [iO hzero,Result.andThen_ok,Sem.run_pure]
       rw [oO,h2]
       rfl
     have hm:len≤maxLen:=by
      have:len≤len*(z+1):=Nat.le_mul_of_pos_right _ aj
      unfold maxLen;omega
     split at hr
     ·rename_i row _
      split at hr
      ·rename_i s' hp bY
       injection hr with hr;subst hr
       obtain ⟨us,cp,h1,h2,h3⟩:=cp hp
       have e:=hC.1
       subst e
       refine cV cp ?_
       rw [hd]
       have hf:=hs.fresh (w':={w with heap:=w.heap.push (.cells us el (0,0))}) d ⟨z+1,true,true,cells⟩ (iS bY) rfl rfl rfl (by simp) (cL w _) (dO w _) (by simp) (by simp [h1]) (by simp [h1]) (fun j u x hu hx=>⟨fun _=>h3 j u x hu hx,fun h=>by cases h⟩)
       exact ⟨_,dY hf (.ref d _ _ _ len len (fm d _ _) h2 (Nat.le_refl _) hm (by unfold aV;rw [dO];show us.size=_;rw [h1,h2])) bY⟩
      ·cases hr
     ·split at hr
      ·rename_i s' hp bY
       injection hr with hr;subst hr
       obtain ⟨us,cp,h1,h2,h3⟩:=cp hp
       refine cV cp ?_
       rw [hd]
       have hf:=hs.fresh (w':={w with heap:=w.heap.push (.cells us el (0,0))}) d ⟨z+1,true,true,cells⟩ (iS bY) rfl rfl rfl (by simp) (cL w _) (dO w _) (by simp) (by simp [h1]) (by simp [h1]) (fun j u x hu hx=>⟨fun _=>h3 j u x hu hx,fun h=>by cases h⟩)
       exact ⟨_,dY hf (.ref d _ _ _ len len (fm d _ _) h2 (Nat.le_refl _) hm (by unfold aV;rw [dO];show us.size=_;rw [h1,h2])) bY⟩
      ·cases hr
    ·cases hr
   ·cases hr
  ·cases hr
 ·cases hr
def tp (zs:List AV) (k:Nat):List AV:=match zs with| [x]=>List.replicate k x|zs=>(List.replicate k zs).flatten
theorem EA (zs:List AV) (e:Nat) (he:zs.length=e) (h0:0<e):∀(k j:Nat) (x:AV),((List.replicate k zs).flatten)[j]?=some x->zs[j%e]?=some x
 | 0,j,x,h=>by simp at h
 | k+1,j,x,h=>by
  rw [List.replicate_succ,List.flatten_cons] at h
  by_cases hj:j<e
  ·rw [List.getElem?_append_left aj] at h
   rw [Nat.mod_eq_of_lt hj];exact h
  ·rw [List.getElem?_append_right aj] at h
   have:=EA zs e he h0 k _ x h
   rw [he] at this
   rw [show j%e=(j-e)%e from ?_]
   ·exact this
   ·rw [Nat.mod_eq_sub_mod aj]
theorem w8 (zs:List AV) (e:Nat) (he:zs.length=e) (h0:0<e) (k j:Nat) (x:AV) (h:(tp zs k)[j]?=some x):zs[j%e]?=some x:=by
 unfold tp at h
 split at h
 ·simp at he
  subst he
  rw [List.getElem?_replicate] at h
  split at h
  ·injection h with h;subst h;simp [Nat.mod_one]
  ·cases h
 ·exact EA zs e he h0 k j x h
theorem tn (zs:List AV) (e:Nat) (he:zs.length=e) (k:Nat):(tp zs k).length=e*k:=by
 unfold tp
 split
 ·simp at he;subst he;simp
 ·rw [List.length_flatten];simp [he,Nat.mul_comm]
def CL (P:Program) (n:Nat) (s:AS) (d t:Nat) (L C:Int) (h:Hint):Option (AS×List Prop) :=
 match P.underlying t with
 | some (.slice el)=>(match P.info? el with
  | some i=>(match i.zero,i.size with
   | some zero,z+1=>(match Nat.beq zero.cells.size (z+1) with
    | true=>(match gG n (install s d ⟨z+1,true,false,(named h (tp (zero.cells.toList.map bC) h.k)).1⟩) (some d) (.ref d) with
     | some s'=>some (s',(named h (tp (zero.cells.toList.map bC) h.k)).2++ [L=(h.k:Int),C=(h.m:Int),h.k≤h.m,i.bytes*h.m≤281474976710656,h.m≤maxLen])|none=>none)
    | false=>none)
   | _,_=>none)
  | none=>none)
 | _=>none
theorem run_make {P:Program} {o:Oper} {ev:Operand->Value} {t:Nat} {l c:Operand} {kl kc:IntKind} {L C:Int} {el:TypeId} {i:TypeInfo} {zero:Value} {z k m:Nat} (ho:o.op= .makeSlice t l c) (L4:ev l= .int kl L) (ec:ev c= .int kc C) (hu:P.underlying t=some (.slice el)) (hi:P.info? el=some i) (hz:i.zero=some zero) (dC:i.size=z+1) (hb:zero.cells.size=z+1)
  (h1:L=(k:Int)) (h2:C=(m:Int)) (h3:k≤m) (h4:i.bytes*m≤281474976710656) (h5:m≤maxLen) (w:World) :
  ∃cur:Array Value,(execOp ev o).run P w= .ok (.value (.slice (some ⟨w.heap.size,0,none⟩) k m)) {w with heap:=w.heap.push (.cells cur el (0,0))}∧cur.size=(z+1)*m∧ ∀(j:Nat) u,cur[j]?=some u->zero.cells[j%(z+1)]?=some u:=by
 have VS:m≤9223372036854775807:=by have:=h5;unfold maxLen at this;omega
 have wl:IntKind.i64.wrap L=(k:Int):=by rw [h1,IntKind.wrap_i64];omega
 have wc:IntKind.i64.wrap C=(m:Int):=by rw [h2,IntKind.wrap_i64];omega
 have U1:((i.bytes:Int)*(m:Int))≤281474976710656:=by
  have QM:((i.bytes*m:Nat):Int)≤281474976710656:=aj
  rw [Int.natCast_mul] at QM;exact QM
 have T7:(zeroValue el).run P w= .ok zero w:=iO (by rw [hi];exact hz)
 have Tc:(sizeOf el).run P w= .ok (z+1) w:=by simp [sizeOf,typeInfo,hi,dC]
 have S_:(typeInfo el).run P w= .ok i w:=by simp [typeInfo,hi]
 have t1:¬((m:Int)<0):=aj
 have t2:¬(281474976710656<(i.bytes:Int)*(m:Int)):=aj
 have t3:¬((k:Int)<0):=aj
 have t4:¬((m:Int)<(k:Int)):=aj
 by_cases h0:m*(z+1)=0
 ·refine ⟨#[],?_,by rw [Nat.mul_comm];simp [h0],fun j u hu=>by simp at hu⟩
  unfold execOp
  simp [ho,L4,ec,Instr.makeSlice,run_underlying hu,S_,Tc,asInt,asIntOf,wl,wc,t1,t2,t3,t4,newRow]
  have:m=0:=by
   rcases Nat.eq_zero_or_pos m with h6|h6
   ·exact h6
   ·have:=Nat.mul_pos h6 (aj:0<z+1);omega
  simp [this,ik]
 ·refine ⟨(Array.range (m*(z+1))).map (zero.cells[· %zero.cells.size]!),?_,by simp [Nat.mul_comm],fun j u hu=>?_⟩
  ·unfold execOp
   simp [ho,L4,ec,Instr.makeSlice,run_underlying hu,S_,Tc,asInt,asIntOf,wl,wc,t1,t2,t3,t4,newRow,T7]
   exact fun e=>absurd e h0
  ·simp only [Array.getElem?_map] at hu
   cases hj:(Array.range (m*(z+1)))[j]? with
   | none=>rw [hj] at hu;cases hu
   | some k =>
    have hk:k=j:=by
     have:=Array.getElem?_eq_some_iff.1 hj
     obtain ⟨dj,he⟩:=this
     rw [←he];simp
    subst hk
    rw [hj] at hu
    injection hu with hu
    rw [hb] at hu
    have dj:k%(z+1)<zero.cells.size:=by rw [hb];exact Nat.mod_lt _ aj
    simp [getElem!_pos,dj] at hu
    simp [dj,hu]
theorem FT {t d:Nat} {l c:Operand} {kl kc:IntKind} {L C:Int} (ho:o.op= .makeSlice t l c) (hl:bq s l= .val (.int kl L)) (hc:bq s c= .val (.int kc C)) (hd:o.dst=some d) (hr:CL P n s d t L C h=some q):mc P n s o q.1 q.2:=by
 intro hC S0 w0 a w Q ⟨φ,hs⟩
 have L4:a.eval l= .int kl L:=bK (hl ▸ hs.bq l)
 have ec:a.eval c= .int kc C:=bK (hc ▸ hs.bq c)
 unfold CL at hr
 split at hr
 ·rename_i el hu
  split at hr
  ·rename_i i hi
   split at hr
   ·rename_i zero z hz dC
    split at hr
    ·rename_i hb
     have hb:=Nat.eq_of_beq_eq_true hb
     split at hr
     ·rename_i s' bY
      injection hr with hr;subst hr
      obtain ⟨KM,hC⟩:=hY hC
      rw [KM] at bY
      obtain ⟨h1,h2,h3,h4,h5,-⟩:=hC
      have cp:=run_make ho L4 ec hu hi hz dC hb h1 h2 h3 h4 h5 w
      obtain ⟨cur,cp,wL,bw⟩:=cp
      refine cV cp ?_
      rw [hd]
      have Gq:(zero.cells.toList.map bC).length=z+1:=by simp [hb]
      have Gs:=tn (zero.cells.toList.map bC) (z+1) Gq h.k
      have hle:(z+1)*h.k≤(z+1)*h.m:=Nat.mul_le_mul_left _ h3
      have hf:=hs.fresh (w':={w with heap:=w.heap.push (.cells cur el (0,0))}) d ⟨z+1,true,false,tp (zero.cells.toList.map bC) h.k⟩ (iS bY) rfl rfl rfl (by simp) (cL w _) (dO w _) (by simp) (by simp only [Gs,wL];exact hle) (fun h=>by cases h) (fun j u x hu hx=>⟨fun _=>by
       have h6:=w8 _ (z+1) Gq aj _ _ _ hx
       have h7:=bw j u hu
       rw [List.getElem?_map] at h6
       have h8:zero.cells.toList[j%(z+1)]?=some u:=by simpa using h7
       rw [h8] at h6;injection h6 with h6;subst h6;exact fP u,fun h=>by cases h⟩)
      exact ⟨_,dY hf (.ref d _ _ _ h.k h.m (fm d _ _) Gs h3 h5 (by unfold aV;rw [dO];exact wL)) bY⟩
     ·cases hr
    ·cases hr
   ·cases hr
  ·cases hr
 ·cases hr
def yn (P:Program) (n:Nat) (s:AS) (d src dst:Nat) (b:ByteArray):Option (AS×List Prop) :=
 match P.underlying src,P.underlying dst with
 | some .string,some (.slice el)=>(match P.underlying el with
  | some (.int .u8)=>(match gG n (install s d ⟨1,true,false,ag b.data.toList⟩) (some d) (.ref d) with|some s'=>some (s',[b.size≤maxLen])|none=>none)
  | _=>none)
 | _,_=>none
theorem C3 {src dst d:Nat} {x:Operand} {b:ByteArray} (ho:o.op= .convert src dst x) (hx:bq s x= .val (.string b)) (hd:o.dst=some d) (hr:yn P n s d src dst b=some q):mc P n s o q.1 q.2:=by
 intro hC S0 w0 a w Q ⟨φ,hs⟩
 have ex:a.eval x= .string b:=bK (hx ▸ hs.bq x)
 unfold yn at hr
 split at hr
 ·rename_i el h1 h2
  split at hr
  ·rename_i h3
   split at hr
   ·rename_i s' bY
    injection hr with hr;subst hr
    have dC:=hC.1
    have AA:=Own.of_string w b el dC
    have cp:(execOp a.eval o).run P w= .ok (.value (.slice (some ⟨w.heap.size,0,none⟩) b.size (grownCap w b.size 0 el))) (w.drew.alloc (.cells (bytesRow b (grownCap w b.size 0 el)) el ((bytesRow b (grownCap w b.size 0 el)).size,(bytesRow b (grownCap w b.size 0 el)).size+1))):=by
     unfold execOp
     simp [ho,ex,run_bytes_of_string w src dst el b h1 h2 h3]
    refine cV cp ?_
    rw [hd]
    have uI:=grownCap_ge w b.size 0 el
    have s_:grownCap w b.size 0 el≤maxLen:=grownCap_le_maxLen w _ 0 el dC
    have PT:(bytesRow b (grownCap w b.size 0 el)).size=grownCap w b.size 0 el:=by
     unfold bytesRow;simp only [Array.size_append,Array.size_map,Array.size_replicate]
     show b.size+_=_
     omega
    have pD:(ag b.data.toList).length=b.size:=by rw [aA];rfl
    have l0:(w.drew.alloc (.cells (bytesRow b (grownCap w b.size 0 el)) el ((bytesRow b (grownCap w b.size 0 el)).size,(bytesRow b (grownCap w b.size 0 el)).size+1))).heap[w.heap.size]?=some (.cells (bytesRow b (grownCap w b.size 0 el)) el ((bytesRow b (grownCap w b.size 0 el)).size,(bytesRow b (grownCap w b.size 0 el)).size+1)):=heap_alloc_new w.drew _
    have hf:=hs.fresh (w':=w.drew.alloc (.cells (bytesRow b (grownCap w b.size 0 el)) el ((bytesRow b (grownCap w b.size 0 el)).size,(bytesRow b (grownCap w b.size 0 el)).size+1))) d ⟨1,true,false,ag b.data.toList⟩ (iS bY) rfl rfl rfl (by simp) (fun k hk=>Below.heap_alloc w.drew _ k hk) l0 (fun j hj=>by simp only;omega) (by simp only [pD,PT];exact uI) (fun h=>by cases h) (fun j u x hu hx=>⟨fun _=>by
     have hj:j<b.size:=by have:=(List.getElem?_eq_some_iff.1 hx).1;rw [pD] at this;exact this
     have VX:j<b.data.toList.length:=hj
     have Bw:j<b.data.size:=hj
     have e1:(bytesRow b (grownCap w b.size 0 el))[j]?=some (.int .u8 (b.data.toList[j].toNat)):=by
      unfold bytesRow
      rw [Array.getElem?_append_left (by simpa using hj)]
      simp
      exact ⟨_,Array.getElem?_eq_getElem Bw,rfl⟩
     rw [e1] at hu;injection hu with hu;subst hu
     have e2:(ag b.data.toList)[j]?=some (.val (.int .u8 (bv b.data.toList[j]))):=by
      simp [ag]
      exact ⟨_,Array.getElem?_eq_getElem Bw,rfl⟩
     rw [e2] at hx;injection hx with hx;subst hx
     exact .val _,fun h=>by cases h⟩)
    exact ⟨_,dY hf (.ref d 1 _ _ b.size (grownCap w b.size 0 el) (fm d _ _) (by rw [Nat.one_mul];exact pD) uI s_ (by unfold aV;rw [l0];simp only [PT,Nat.one_mul])) bY⟩
   ·cases hr
  ·cases hr
 ·cases hr
end
section
variable {S0:bo} {w0 w w':World} {n:Nat} {s:AS} {a:Act} {φ:Nat->Option Nat}
theorem aJ.stored (h:aJ S0 w0 n [] s a w φ) {id:Nat} {r r':Row} {g:Nat} (hr:look s.H id=some r) (cm:φ id=some g) (he:r'.e=r.e) (hlen:r'.cells.length=r.cells.length) (Iq:r'.full=r.full)
  {cur cur':Array Value} {te:TypeId} {fr:Nat×Nat} (hg:w.heap[g]?=some (.cells cur te fr)) (jb:w'.heap[g]?=some (.cells cur' te fr)) (dC:cur'.size=cur.size)
  (Ia:w'.os=w.os) (uB:w'.tape=w.tape) (uC:w'.output=w.output) (Ri:w'.heap.size=w.heap.size) (hb:∀b,b≠g->w'.heap[b]?=w.heap[b]?)
  (hc:∀(j:Nat) u x,cur'[j]?=some u->r'.cells[j]?=some x->bj (az s.H φ) (aM S0 w φ []) w r'.pure u x):aJ S0 w0 n [] ⟨s.F,(id,r')::cU s.H id⟩ a w' φ:=by
 have hI:∀i x,az s.H φ i=some x->az ((id,r')::cU s.H id) φ i=some x:=by
  intro i x hi
  obtain ⟨e,m,b⟩:=x
  obtain ⟨q,hl,h1,h2,h3⟩:=aQ hi
  by_cases cX:id=i
  ·subst cX
   rw [hr] at hl;injection hl with hl;subst hl
   rw [bu (r:=r') (by rw [aD,if_pos rfl]),he,hlen,h1,h2,h3]
  ·rw [bu (r:=q) (by rw [aD,if_neg cX,bH,if_neg cX,hl]),h1,h2,h3]
 have hF:∀b,aM S0 w φ [] b->aM S0 w' φ [] b∧w'.heap[b]?=w.heap[b]?:=fun b kO=>⟨⟨by rw [Ri];exact kO.1,kO.2⟩,hb b fun e=>kO.2.2.1 id (by rw [cm,e])⟩
 have hL:∀i e m g',az s.H φ i=some (e,m,some g')->aV w' g'=aV w g':=by
  intro i e m g' _
  unfold aV
  by_cases e:g'=g
  ·subst e;rw [hg,jb];exact dC
  ·rw [hb g' e]
 have aN:=h.rows id r hr
 unfold bN at aN
 rw [cm] at aN
 obtain ⟨Vy,VL,V8,AF,gy,hle,mT,-⟩:=aN
 rw [hg] at AF
 injection AF with AF
 injection AF with e1 e2 e3
 subst e1;subst e2;subst e3
 refine ⟨h.jQ,h.jT,⟨Ia.trans h.cZ.os,uB.trans h.cZ.tape,uC.trans h.cZ.output,by rw [Ri];exact h.cZ.size,fun k hk hx=>?_,h.cZ.g0,h.cZ.gx⟩,fun i av hi=>(h.cG i av hi).mono hI hF hL,fun i q hq=>?_,fun i hi=>?_,h.inj,fun i g' jb=>by rw [Ri];exact h.cY i g' jb,h.apart,h.new⟩
 ·rw [hb k (fun e=>by rcases (h.cY id g cm).1.2 with h|h;omega;rw [e] at hx;exact hx h)]
  exact h.cZ.block k hk hx
 ·rw [aD] at hq
  by_cases cX:id=i
  ·rw [if_pos cX] at hq;injection hq with hq;subst hq;subst cX
   rw [cm]
   refine ⟨cur',te,fr,jb,fun j hj=>gy j aj,by rw [hlen,dC];exact hle,fun hf=>by rw [hlen,dC];exact mT (by rw [←Iq];exact hf),fun j u x hu hx=>?_⟩
   have:=hc j u x hu hx
   unfold bj at this ⊢
   cases hp:r'.pure with
   | true=>rw [hp] at this;exact this.mono hF
   | false=>rw [hp] at this;exact this.mono hI hF hL
  ·rw [if_neg cX,bH,if_neg cX] at hq
   have gM:=h.rows i q hq
   unfold bN at gM ⊢
   cases Cl:φ i with
   | none=>rw [Cl] at gM;exact gM
   | some g2 =>
    rw [Cl] at gM
    obtain ⟨Dn,TV,Vu,PH,Gv,Cq,RV,Ok⟩:=gM
    have RB:g2≠g:=fun e=>cX (h.inj id i g cm (by rw [Cl,e]))
    refine ⟨Dn,TV,Vu,(hb g2 RB).trans PH,Gv,Cq,RV,fun j u x hu hx=>?_⟩
    have:=Ok j u x hu hx
    unfold bj at this ⊢
    cases hp:q.pure with
    | true=>rw [hp] at this;exact this.mono hF
    | false=>rw [hp] at this;exact this.mono hI hF hL
 ·rw [aD] at hi
  by_cases cX:id=i
  ·rw [if_pos cX] at hi;cases hi
  ·rw [if_neg cX,bH,if_neg cX] at hi
   exact h.only i hi
end
def Dt:AV->Bool
 | .val u=>u.oneCell'
 | .nil=>true
 | .sl _ _=>true
 | .ptr _ _=>true
 | .ref _=>true
 | .pre _ _=>true
 | .jr _ _ _=>true
 | .addr _ _=>true
 | _=>false
def qt:List AV->Bool
 | []=>true
 | x::l=>match Dt x with|true=>qt l|false=>false
theorem Ds {I:Info} {S:Nat->Prop} {w:World} {v:Value} {x:AV} (hd:Den I S w v x) (hp:Dt x=true):v.oneCell'=true:=by
 cases hd with
 | rep h=>cases h<;>first|exact hp|rfl|cases hp
 | agg=>cases hp
 | bt=>cases hp
 | dead=>cases hp
 | _=>rfl
theorem vk:∀ {l:List AV} {j:Nat} {x:AV},qt l=true->l[j]?=some x->Dt x=true
 | [],j,x,_,h=>by simp at h
 | y::l,j,x,hp,h=>by
  simp only [qt] at hp
  split at hp
  ·rename_i hy
   cases j with
   | zero=>simp at h;subst h;exact hy
   | succ j=>exact vk hp (by simpa using h)
  ·cases hp
def setCells (cells:List AV) (off:Nat) (l:List AV):List AV:=match l with| [x]=>cells.set off x|l=>cells.take off++l++cells.drop (off+l.length)
theorem nk (cells:List AV) (off:Nat) (l:List AV) (h:off+l.length≤cells.length):setCells cells off l=cells.take off++l++cells.drop (off+l.length):=by
 unfold setCells
 split
 ·rename_i x
  simp only [List.length_cons,List.length_nil] at h ⊢
  rw [List.set_eq_take_append_cons_drop,if_pos aj]
  simp
 ·rfl
theorem v_ {α:Type} (l m:List α) (off j:Nat) (h:off+m.length≤l.length):(l.take off++m++l.drop (off+m.length))[j]?=if off≤j∧j<off+m.length then m[j-off]? else l[j]?:=by
 by_cases h1:j<off
 ·rw [List.getElem?_append_left (by simp only [List.length_append,List.length_take];omega),List.getElem?_append_left (by simp only [List.length_take];omega),List.getElem?_take,if_pos h1,if_neg aj]
 ·by_cases h2:j<off+m.length
  ·rw [List.getElem?_append_left (by simp only [List.length_append,List.length_take];omega),List.getElem?_append_right (by simp only [List.length_take];omega),if_pos aj]
   congr 1;simp only [List.length_take];omega
  ·rw [List.getElem?_append_right (by simp only [List.length_append,List.length_take];omega),List.getElem?_drop,if_neg aj]
   congr 1;simp only [List.length_append,List.length_take];omega
theorem oT {α:Type} (l m:List α) (off:Nat) (h:off+m.length≤l.length):(l.take off++m++l.drop (off+m.length)).length=l.length:=by
 simp only [List.length_append,List.length_take,List.length_drop];omega
def E2 (s:AS) (id:Nat) (r:Row):AS:=⟨s.F,(id,r)::cU s.H id⟩
def uY (P:Program) (s:AS) (t:TypeId) (x:Operand) (cs:List AV) (h:Hint):Option (AS×List Prop) :=
 match bq s x with
 | .addr id off=>(match look s.H id,eC P t with
  | some r,some z=>(match r.pure with
   | true=>some (E2 s id ⟨r.e,true,r.full,(named h (r.cells.take off++cs++r.cells.drop (off+cs.length))).1⟩,(named h (r.cells.take off++cs++r.cells.drop (off+cs.length))).2++ [cs.length=z,∀x∈cs,ig x=true,off+cs.length≤r.cells.length])
   | false=>none)
  | _,_=>none)
 | _=>none
def kR (P:Program) (s:AS) (t:TypeId) (x:Operand) (y:Operand) (h:Hint):Option (AS×List Prop) :=
 match bq s x with
 | .addr id off=>(match look s.H id,eC P t with
  | some r,some z=>(match r.pure with
   | true=>(match gg s (p8 (bq s y)) with
    | some s1=>(match look s1.H id,lj (bq s1 y),bq s1 x with
     | some r1,some l,.addr pc B9=>(match Nat.beq id pc,Nat.beq l.length z,d_ l,r1.pure with
      | true,true,true,true=>some (E2 s1 id ⟨r1.e,true,r1.full,(named h (setCells r1.cells B9 l)).1⟩,(named h (setCells r1.cells B9 l)).2++ [B9+l.length≤r1.cells.length])
      | _,_,_,_=>none)
     | _,_,_=>none)
    | none=>none)
   | false=>(match lj (bq s y) with
    | some l=>(match Nat.beq l.length z,qt l with
     | true,true=>some (E2 s id ⟨r.e,false,r.full,(named h (setCells r.cells off l)).1⟩,(named h (setCells r.cells off l)).2++ [off+l.length≤r.cells.length])
     | _,_=>none)
    | none=>none))
  | _,_=>none)
 | _=>none
def x9 (P:Program) (s:AS) (t:TypeId) (x:Operand) (y:Operand) (h:Hint):Option (AS×List Prop) :=
 match bq s y,h.k with
 | .arr cs,1=>uY P s t x cs h
 | _,_=>kR P s t x y h
section
variable {P:Program} {n:Nat} {s:AS} {o:Oper} {h:Hint} {q:AS×List Prop}
theorem sv {w:World} {t:TypeId} {g off z:Nat} {v:Value} {vs:List Value} {cur:Array Value} {te:TypeId} {fr:Nat×Nat} (hz:eC P t=some z) (hv:v.cells=vs.toArray) (hl:vs.length=z) (hg:w.heap[g]?=some (.cells cur te fr)) (hf:∀j,j<cur.size-> ¬(fr.1≤j∧j<fr.2)) (mG:off+vs.length≤cur.size) (h1:∀u∈vs,u.oneCell'=true) :
  (storeVar t ⟨g,off,none⟩ v).run P w= .ok () (w.setRow g (cur.toList.take off++vs++cur.toList.drop (off+vs.length)).toArray):=by
 have dS:=c_ P g te fr cur.size hf off vs 0 cur w hg aj rfl h1
 simp only [Nat.add_zero] at dS
 unfold storeVar
 have Av:(sizeOf t).run P w= .ok z w:=run_sizeOf hz
 simp only [Sem.run_bind,Av,Result.andThen_ok,Sem.run_ite,hv]
 rw [if_neg (by simp [hl])]
 simp [dS]
theorem pL {w:World} {g:Nat} {cur cur':Array Value} {te:TypeId} {fr:Nat×Nat} (hg:w.heap[g]?=some (.cells cur te fr)):(w.setRow g cur').heap[g]?=some (.cells cur' te fr)∧(w.setRow g cur').heap.size=w.heap.size∧ ∀b,b≠g->(w.setRow g cur').heap[b]?=w.heap[b]? :=
 ⟨setRow_heap w g cur cur' te fr hg,by simp,fun b hb=>setRow_other w g b _ hb⟩
theorem aJ.written {S0:bo} {w0 w:World} {a:Act} {φ:Nat->Option Nat} (hs:aJ S0 w0 n [] s a w φ) {id off g:Nat} {r:Row} {l cells:List AV} {vs:List Value} {cur:Array Value} {te:TypeId} {fr:Nat×Nat} (hr:look s.H id=some r) (cm:φ id=some g) (hg:w.heap[g]?=some (.cells cur te fr)) (hle:r.cells.length≤cur.size)
  (hold:∀(j:Nat) u x,cur[j]?=some u->r.cells[j]?=some x->bj (az s.H φ) (aM S0 w φ []) w r.pure u x) (hlen:vs.length=l.length) (mG:off+l.length≤r.cells.length) (dP:cells=setCells r.cells off l)
  (l0:∀(j:Nat) u x,vs[j]?=some u->l[j]?=some x->bj (az s.H φ) (aM S0 w φ []) w r.pure u x) :
  aJ S0 w0 n [] (E2 s id ⟨r.e,r.pure,r.full,cells⟩) a (w.setRow g (cur.toList.take off++vs++cur.toList.drop (off+vs.length)).toArray) φ:=by
 obtain ⟨f1,f2,f3⟩:=pL (cur':=(cur.toList.take off++vs++cur.toList.drop (off+vs.length)).toArray) hg
 have gm:cur.toList.length=cur.size:=rfl
 rw [nk _ _ _ mG] at dP
 refine hs.stored (r':=⟨r.e,r.pure,r.full,cells⟩) hr cm rfl (by rw [dP,oT _ _ _ mG]) rfl hg f1 (by simp only [List.size_toArray];rw [oT _ _ _ aj];rfl) rfl rfl rfl f2 f3 fun j u x hu hx=>?_
 simp only [List.getElem?_toArray] at hu
 rw [v_ _ _ _ _ aj] at hu
 simp only [dP] at hx
 rw [v_ _ _ _ _ mG] at hx
 by_cases hj:off≤j∧j<off+l.length
 ·rw [if_pos hj] at hx
  rw [if_pos aj] at hu
  exact l0 _ u x hu hx
 ·rw [if_neg hj] at hx
  rw [if_neg aj] at hu
  exact hold j u x (by simpa using hu) hx
theorem BR {S0:bo} {w0 w:World} {a:Act} {φ:Nat->Option Nat} (hs:aJ S0 w0 n [] s a w φ) {id g:Nat} {r:Row} (hr:look s.H id=some r) (cm:φ id=some g):∃cur te fr,w.heap[g]?=some (.cells cur te fr)∧(∀j,j<cur.size-> ¬(fr.1≤j∧j<fr.2))∧r.cells.length≤cur.size∧ ∀(j:Nat) u x,cur[j]?=some u->r.cells[j]?=some x->bj (az s.H φ) (aM S0 w φ []) w r.pure u x:=by
 have aN:=hs.rows id r hr
 unfold bN at aN
 rw [cm] at aN
 obtain ⟨cur,te,fr,hg,hf,hl,-,hc⟩:=aN
 exact ⟨cur,te,fr,hg,hf,hl,hc⟩
theorem tI {S0:bo} {w0 w:World} {a:Act} {φ:Nat->Option Nat} {Q:Exit->Act->World->Prop} (hs:aJ S0 w0 n [] s a w φ) {t:TypeId} {x y:Operand} (ho:o.op= .store t x y) (hd:o.dst=none) {id off z:Nat} {r:Row} {l cells:List AV} (hx:bq s x= .addr id off) (hr:look s.H id=some r) (hz:eC P t=some z) (hl:lj (bq s y)=some l) (VT:l.length=z) (mG:off+l.length≤r.cells.length) (dP:cells=setCells r.cells off l)
  (hp:(r.pure=true∧ ∀x∈l,ig x=true)∨(r.pure=false∧qt l=true)):o.wp P a w (fun a' w'=>iv S0 w0 n (E2 s id ⟨r.e,r.pure,r.full,cells⟩) a' w') Q:=by
 have S6:=hs.bq x
 rw [hx] at S6
 obtain ⟨e,m,g,hi,hv⟩:=jP S6
 obtain ⟨r',il,-,-,cm⟩:=aQ hi
 obtain ⟨cur,te,fr,hg,hf,hle,hold⟩:=BR hs hr cm
 obtain ⟨vs,Uf,xN,dV⟩:=l_ (hs.bq y) hl
 have uD:∀u∈vs,u.oneCell'=true:=by
  intro u hu
  obtain ⟨j,hj⟩:=List.getElem?_of_mem hu
  have MU:j<l.length:=by have:=(List.getElem?_eq_some_iff.1 hj).1;omega
  have RI:l[j]?=some l[j]:=List.getElem?_eq_getElem MU
  rcases hp with ⟨-,hp⟩|⟨-,hp⟩
  ·exact (eK (dV j u _ hj RI) (hp _ (List.getElem_mem MU))).2
  ·exact Ds (dV j u _ hj RI) (vk hp RI)
 have cp:=sv (P:=P) (w:=w) (t:=t) (g:=g) (off:=off) hz Uf aj hg hf aj uD
 unfold Oper.wp
 have:(execOp a.eval o).run P w= .ok .skip (w.setRow g (cur.toList.take off++vs++cur.toList.drop (off+vs.length)).toArray):=by
  unfold execOp
  simp [ho,Instr.storeAt,Instr.sureAddr,hv,cp]
 rw [this]
 show iv S0 w0 n _ (a.put o.dst undef) _
 rw [hd]
 refine ⟨φ,hs.written hr cm hg hle hold xN mG dP fun j u x hu hx=>?_⟩
 unfold bj
 rcases hp with ⟨LN,hp⟩|⟨LN,hp⟩<;>rw [LN]
 ·exact (eK (dV j u x hu hx) (hp x (List.mem_of_getElem? hx))).1
 ·exact dV j u x hu hx
theorem A7 {t:TypeId} {x y:Operand} {cs:List AV} (ho:o.op= .store t x y) (hd:o.dst=none) (hy:bq s y= .arr cs) (hr:uY P s t x cs h=some q):mc P n s o q.1 q.2:=by
 intro hC S0 w0 a w Q ⟨φ,hs⟩
 unfold uY at hr
 split at hr
 ·rename_i id off hx
  split at hr
  ·rename_i r z aN hz
   split at hr
   ·rename_i qb
    injection hr with hr;subst hr
    obtain ⟨hn,hlen,hp,mG,-⟩:=hY hC
    have:=tI (Q:=Q) hs ho hd hx aN hz (l:=cs) (by rw [hy];rfl) hlen mG (hn.trans (nk _ _ _ mG).symm) (.inl ⟨qb,hp⟩)
    rw [qb] at this
    exact this
   ·cases hr
  ·cases hr
 ·cases hr
theorem sd {t:TypeId} {x y:Operand} (ho:o.op= .store t x y) (hd:o.dst=none) (hr:kR P s t x y h=some q):mc P n s o q.1 q.2:=by
 intro hC S0 w0 a w Q ⟨QU,lJ⟩
 unfold kR at hr
 split at hr
 ·rename_i id off hx
  split at hr
  ·rename_i r z aN hz
   split at hr
   ·rename_i qb
    split at hr
    ·rename_i s1 H5
     obtain ⟨φ,hs⟩:=fM _ _ _ _ H5 lJ
     split at hr
     ·rename_i r1 l pc B9 Pn hl Rh
      split at hr
      ·rename_i h1 h2 h3 h4
       injection hr with hr;subst hr
       have h1:=Nat.eq_of_beq_eq_true h1
       have h2:=Nat.eq_of_beq_eq_true h2
       subst h1
       obtain ⟨hn,mG,-⟩:=hY hC
       have:=tI (Q:=Q) hs ho hd Rh Pn hz hl h2 mG hn (.inl ⟨h4,fun x hx=>by obtain ⟨j,hj⟩:=List.getElem?_of_mem hx;exact iA h3 hj⟩)
       rw [h4] at this
       exact this
      ·cases hr
     ·cases hr
    ·cases hr
   ·rename_i qb
    split at hr
    ·rename_i l hl
     split at hr
     ·rename_i h2 h3
      injection hr with hr;subst hr
      have h2:=Nat.eq_of_beq_eq_true h2
      obtain ⟨hn,mG,-⟩:=hY hC
      have:=tI (Q:=Q) lJ ho hd hx aN hz hl h2 mG hn (.inr ⟨qb,h3⟩)
      rw [qb] at this
      exact this
     ·cases hr
    ·cases hr
  ·cases hr
 ·cases hr
theorem CH {t:TypeId} {x y:Operand} (ho:o.op= .store t x y) (hd:o.dst=none) (hr:x9 P s t x y h=some q):mc P n s o q.1 q.2:=by
 unfold x9 at hr
 split at hr
 ·rename_i cs hy _;exact A7 ho hd hy hr
 ·exact sd ho hd hr
def tL (s:AS):AV->Option (Nat×List AV)
 | .nil=>some (0,[])
 | .sl e row=>some (e,row)
 | .ref id=>(match look s.H id with|some ⟨e,true,_,cells⟩=>some (e,cells)|_=>none)
 | .pre id l=>(match look s.H id with|some ⟨e,true,_,cells⟩=>some (e,cells.take l)|_=>none)
 | .jr id o l=>(match look s.H id with|some ⟨e,true,_,cells⟩=>some (e,(cells.drop o).take l)|_=>none)
 | _=>none
theorem Mq {S0:bo} {w0 w:World} {a:Act} {φ:Nat->Option Nat} (hs:aJ S0 w0 n [] s a w φ) {v:Value} {x:AV} (hx:Den (az s.H φ) (aM S0 w φ []) w v x) {e:Nat} {row:List AV} (he:tL s x=some (e,row)) :
  ∃(A:Option Addr) (m c:Nat) (us:List Value),v= .slice A m c∧row.length=e*m∧us.length=row.length∧(0<row.length-> ∃ad,A=some ad∧ ∀(j:Nat) u,us[j]?=some u->w.cell? (ad.add j)=some u)∧(∀(j:Nat) u x,us[j]?=some u->row[j]?=some x->cB (aM S0 w φ []) w u x)∧m≤maxLen:=by
 have Lp:∀(id g:Nat) (r:Row),look s.H id=some r->r.pure=true->φ id=some g-> ∃us:List Value,r.cells.length≤us.length∧(∀(j:Nat) u,us[j]?=some u->w.cell? ⟨g,j,none⟩=some u)∧ ∀(j:Nat) u x,us[j]?=some u->r.cells[j]?=some x->cB (aM S0 w φ []) w u x:=by
  intro id g r hr hp hg
  obtain ⟨cur,te,fr,jb,hf,hl,hc⟩:=kD hs hr hp hg
  exact ⟨cur.toList,hl,fun j u hu=>by rw [cell_of_row w g _ cur te fr jb];simpa using hu,fun j u x hu hx=>hc j u x (by simpa using hu) hx⟩
 cases hx with
 | rep h =>
  cases h with
  | nil=>injection he with he;injection he with h1 h2;subst h1;subst h2;exact ⟨none,0,0,[],rfl,rfl,rfl,fun h=>(by simp at h),fun j u x hu=>(by simp at hu),by simp⟩
  | sl A n c e' us E4 hl hn hc hm ha h =>
   injection he with he;injection he with h1 h2;subst h1;subst h2
   exact ⟨A,n,c,us,rfl,hn,hl,fun h0=>by obtain ⟨ad,e1,_,e2⟩:=ha h0;exact ⟨ad,e1,e2⟩,h,aj⟩
  | _=>cases he
 | agg=>cases he
 | bt=>cases he
 | dead=>cases he
 | addr=>cases he
 | ref id e' m g l c hi hm hc hx bY =>
  obtain ⟨r,hr,h1,h2,cm⟩:=aQ hi
  obtain ⟨re,rp,rf,rc⟩:=r
  simp only [tL,hr] at he
  split at he
  ·rename_i heq
   injection heq with heq;cases heq
   injection he with he;injection he with h3 h4;subst h3;subst h4
   obtain ⟨us,Pa,H4,LL⟩:=Lp id g _ hr rfl cm
   simp only at h1 h2 Pa LL
   exact ⟨_,l,c,us.take rc.length,rfl,by rw [h2,hm,h1],by rw [List.length_take];omega,fun _=>⟨_,rfl,fun j u hu=>by rw [fe];exact H4 j u (bW _ _ _ _ hu)⟩,fun j u x hu hx=>LL j u x (bW _ _ _ _ hu) hx,aj⟩
  ·cases he
 | cH id e' hi =>
  obtain ⟨r,hr,h1,h2,cm⟩:=aQ hi
  obtain ⟨re,rp,rf,rc⟩:=r
  simp only [tL,hr] at he
  split at he
  ·rename_i heq
   injection heq with heq;cases heq
   injection he with he;injection he with h3 h4;subst h3;subst h4
   simp only at h2
   have:rc= []:=List.length_eq_zero_iff.1 h2
   subst this
   exact ⟨none,0,0,[],rfl,rfl,rfl,fun h=>(by simp at h),fun j u x hu=>(by simp at hu),by simp⟩
  ·cases he
 | pre id k e' m g l c hi hn hm hc hx bY =>
  obtain ⟨r,hr,h1,h2,cm⟩:=aQ hi
  obtain ⟨re,rp,rf,rc⟩:=r
  simp only [tL,hr] at he
  split at he
  ·rename_i heq
   injection heq with heq;cases heq
   injection he with he;injection he with h3 h4;subst h3;subst h4
   obtain ⟨us,Pa,H4,LL⟩:=Lp id g _ hr rfl cm
   simp only at h1 h2 Pa LL
   have lD:(rc.take k).length=k:=by rw [List.length_take];omega
   exact ⟨_,l,c,us.take k,rfl,by rw [lD,hn,h1],by rw [lD,List.length_take];omega,fun _=>⟨_,rfl,fun j u hu=>by rw [fe];exact H4 j u (bW _ _ _ _ hu)⟩,fun j u x hu hx=>LL j u x (bW _ _ _ _ hu) (bW _ _ _ _ hx),aj⟩
  ·cases he
 | dF id e' hi =>
  obtain ⟨r,hr,h1,h2,cm⟩:=aQ hi
  obtain ⟨re,rp,rf,rc⟩:=r
  simp only [tL,hr] at he
  split at he
  ·rename_i heq
   injection heq with heq;cases heq
   injection he with he;injection he with h3 h4;subst h3;subst h4
   simp only [List.take_zero]
   exact ⟨none,0,0,[],rfl,rfl,rfl,fun h=>(by simp at h),fun j u x hu=>(by simp at hu),by simp⟩
  ·cases he
 | jr id off k e' m l c g A hi hn hm hc hx ha =>
  obtain ⟨r,hr,h1,h2,cm⟩:=aQ hi
  obtain ⟨re,rp,rf,rc⟩:=r
  simp only [tL,hr] at he
  split at he
  ·rename_i heq
   injection heq with heq;cases heq
   injection he with he;injection he with h3 h4;subst h3;subst h4
   simp only at h1 h2
   have lD:((rc.drop off).take k).length=k:=by rw [List.length_take,List.length_drop];omega
   by_cases hk:0<k
   ·obtain ⟨b,hb,hA⟩:=ha hk
    rw [hb] at cm
    obtain ⟨us,Pa,H4,LL⟩:=Lp id b _ hr rfl cm
    simp only at Pa LL
    exact ⟨A,l,c,(us.drop off).take k,rfl,by rw [lD,hn,h1],by rw [lD,List.length_take,List.length_drop];omega,fun _=>⟨_,hA,fun j u hu=>by rw [mb];exact H4 _ u (bT _ _ _ _ _ hu)⟩,fun j u x hu hx=>LL _ u x (bT _ _ _ _ _ hu) (bT _ _ _ _ _ hx),aj⟩
   ·have:(rc.drop off).take k= []:=List.length_eq_zero_iff.1 aj
    rw [this]
    exact ⟨A,l,c,[],rfl,by rw [h1];simp;omega,rfl,fun h=>(by simp at h),fun j u x hu=>(by simp at hu),aj⟩
  ·cases he
end
section
variable {P:Program} {w:World}
structure nT (P:Program) (w:World) (xt:TypeId) (e:Nat) (xv:Value) (m:Nat) (news:List Value):Prop where
 ty:(∃e2,P.underlying xt=some (.slice e2))∨P.underlying xt=some .string
 len:∀w',(Builtin.lenOf xv).run P w'= .ok m w'
 part:∀(w':World) (k:Nat),w'.heap=w.heap->k≤m->(Builtin.firstCells e k xv).run P w'= .ok (news.take (k*e)).toArray w'
 hl:news.length=m*e
 one:∀u∈news,u.oneCell'=true
theorem nT.cells {xt:TypeId} {e m:Nat} {xv:Value} {news:List Value} (h:nT P w xt e xv m news) (w':World) (hw:w'.heap=w.heap):(Builtin.firstCells e m xv).run P w'= .ok news.toArray w':=by
 have:=h.part w' m hw (Nat.le_refl _)
 rw [List.take_of_length_le (by rw [h.hl];exact Nat.le_refl _)] at this
 exact this
theorem pK {xt e2:TypeId} (ht:P.underlying xt=some (.slice e2)) {A:Option Addr} {m c e:Nat} {news:List Value} (hl:news.length=m*e) (hc:0<news.length-> ∃ad,A=some ad∧ ∀(j:Nat) u,news[j]?=some u->w.cell? (ad.add j)=some u) (h1:∀u∈news,u.oneCell'=true) :
  nT P w xt e (.slice A m c) m news:=by
 refine ⟨.inl ⟨e2,ht⟩,fun w'=>rfl,fun w' k hw hk=>?_,hl,h1⟩
 have bw:∀p:Addr,w'.cell? p=w.cell? p:=fun p=>kv (by rw [hw])
 have iH:(news.take (k*e)).length=k*e:=by
  have:=Nat.mul_le_mul_right e hk
  rw [List.length_take];omega
 by_cases h0:0<news.length
 ·obtain ⟨ad,rfl,dP⟩:=hc h0
  exact run_firstCells_some w' e k ad m c _ iH (fun j u hu=>(bw _).trans (dP j u (bW _ _ _ _ hu)))
 ·have hn:news= []:=List.length_eq_zero_iff.1 aj
  subst hn
  cases A with
  | none=>rw [run_firstCells_none];simp
  | some ad=>exact run_firstCells_some w' e k ad m c _ iH (fun j u hu=>by simp at hu)
theorem vv {xt:TypeId} (ht:P.underlying xt=some .string) (b:ByteArray):nT P w xt 1 (.string b) b.size (sr b.data.toList):=by
 refine ⟨.inr ht,fun w'=>rfl,fun w' k _ hk=>?_,by rw [gi,Nat.mul_one];rfl,EH _⟩
 simp only [Builtin.firstCells,Sem.run_pure,Nat.mul_one]
 congr 1
 apply Array.ext'
 simp [sr,bv,←List.map_take]
structure JK (w w':World) (v':Value) (g0:Option Nat) (e N:Nat) (cells:List Value) (g':Nat):Prop where
 slice:∃c',v'= .slice (some ⟨g',0,none⟩) N c'∧N≤c'∧c'≤maxLen∧aV w' g'=e*c'
 Lp:∃cur te fr,w'.heap[g']?=some (.cells cur te fr)∧(∀j,j<cur.size-> ¬(fr.1≤j∧j<fr.2))∧cells.length≤cur.size∧cur.toList.take cells.length=cells
 len:cells.length=e*N
 os:w'.os=w.os
 tape:w'.tape=w.tape
 output:w'.output=w.output
 size:w.heap.size≤w'.heap.size
 other:∀b,b<w.heap.size->some b≠g0->w'.heap[b]?=w.heap[b]?
 place:(g0=some g'∧g'<w.heap.size)∨(g'=w.heap.size∧w.heap.size<w'.heap.size)
theorem tr (z:Value) (e k:Nat) (hz:z.cells.size=e):(Builtin.zeroCells z.cells k).size=k*e:=by unfold Builtin.zeroCells;simp [hz]
theorem rJ {el:TypeId} {z:Value} {e l m old:Nat} {olds news:List Value} (g0:Option Nat) (hz:z.cells.size=e) (Tn:olds.length=l*e) (LS:news.length=m*e) (hm:l+m≤maxLen) :
  JK w (w.drew.alloc (.cells (olds.toArray++news.toArray++Builtin.zeroCells z.cells (grownCap w (l+m) old el-(l+m))) el)) (.slice (some ⟨w.heap.size,0,none⟩) (l+m) (grownCap w (l+m) old el)) g0 e (l+m) (olds++news) w.heap.size:=by
 have uI:=grownCap_ge w (l+m) old el
 have s_:grownCap w (l+m) old el≤maxLen:=grownCap_le_maxLen w _ old el hm
 have l0:(w.drew.alloc (.cells (olds.toArray++news.toArray++Builtin.zeroCells z.cells (grownCap w (l+m) old el-(l+m))) el)).heap[w.heap.size]?=some (.cells (olds.toArray++news.toArray++Builtin.zeroCells z.cells (grownCap w (l+m) old el-(l+m))) el (0,0)):=heap_alloc_new w.drew _
 have dC:(olds.toArray++news.toArray++Builtin.zeroCells z.cells (grownCap w (l+m) old el-(l+m))).size=e*grownCap w (l+m) old el:=by
  simp only [Array.size_append,List.size_toArray,tr z e _ hz,Tn,LS]
  rw [←Nat.add_mul,←Nat.add_mul,Nat.mul_comm]
  congr 1;omega
 have hlen:(olds++news).length=e*(l+m):=by rw [List.length_append,Tn,LS,←Nat.add_mul,Nat.mul_comm]
 refine ⟨⟨_,rfl,uI,s_,by unfold aV;rw [l0];exact dC⟩,⟨_,_,_,l0,by simp,by rw [dC,hlen];exact Nat.mul_le_mul_left _ uI,?_⟩,hlen,rfl,rfl,rfl,by simp,fun b hb _=>Below.heap_alloc w.drew _ b hb,.inr ⟨rfl,by simp⟩⟩
 simp only [Array.toList_append,List.append_assoc]
 rw [←List.append_assoc]
 exact List.take_left
theorem Bn (A B:List Value) (C:Array Value):A.toArray++(B.toArray++C)=(A++B).toArray++C:=by
 apply Array.ext'
 simp
theorem xA {e l m bytes q:Nat} (he:0<e) (hq:q=e*(l+m)) (hb:q*bytes≤e*140737488355328):(l+m)*bytes≤140737488355328:=by
 rw [hq,Nat.mul_assoc] at hb
 exact Nat.le_of_mul_le_mul_left hb he
theorem ug {l m bytes:Nat} (xT:0<bytes) (hb:(l+m)*bytes≤140737488355328):l+m≤maxLen∧((l+m:Nat):Int)≤9223372036854775807:=by
 have:l+m≤(l+m)*bytes:=Nat.le_mul_of_pos_right _ xT
 unfold maxLen;omega
theorem G_ {t xt ty el:TypeId} {i:TypeInfo} {z xv:Value} {m:Nat} {news:List Value} (ht:P.underlying t=some (.slice el)) (hi:P.info? el=some i) (hz:i.zero=some z) (uA:z.cells.size=i.size) (xT:0<i.bytes)
  (gv:nT P w xt i.size xv m news) (hb:m*i.bytes≤140737488355328) :
  (m=0∧(Builtin.append_ #[t,xt] ty #[.slice none 0 0,xv]).run P w= .ok (.slice none 0 0) w)∨ ∃v' w',(Builtin.append_ #[t,xt] ty #[.slice none 0 0,xv]).run P w= .ok v' w'∧JK w w' v' none i.size m news w.heap.size:=by
 have hf:=gv.cells w.drew rfl
 by_cases h0:m=0
 ·left
  refine ⟨h0,?_⟩
  have LX:=gv.cells w rfl
  have hn:news= []:=List.length_eq_zero_iff.1 (by rw [gv.hl,h0];simp)
  subst h0;subst hn
  rcases gv.ty with ⟨e2,hu⟩|hu<;>simp [Builtin.append_,run_underlying ht,run_underlying hu,sizeOf,typeInfo,hi,gv.len,LX]
 ·right
  obtain ⟨FA,Ii⟩:=ug (l:=0) xT (by rw [Nat.zero_add];exact hb)
  rw [Nat.zero_add] at FA
  have P3:¬(281474976710656<Builtin.nextslicecap m 0*i.bytes):=by rw [nextslicecap_zero aj];omega
  have P2:¬(9223372036854775807<(m:Int)):=by simp at Ii;omega
  have hA:=rJ (w:=w) (el:=el) (old:=0) (olds:=[]) (news:=news) (l:=0) none uA (by simp) gv.hl (by rw [Nat.zero_add];exact FA)
  simp only [Nat.zero_add,List.nil_append] at hA
  refine ⟨_,_,?_,hA⟩
  rcases gv.ty with ⟨e2,hu⟩|hu<;>simp [Builtin.append_,run_underlying ht,run_underlying hu,sizeOf,typeInfo,zeroValue,hi,hz,gv.len,hf,h0,P3,P2,Question.forced,run_firstCells_none,newRow,grownCap]
theorem G9 {t xt ty el:TypeId} {i:TypeInfo} {z xv:Value} {m:Nat} {news:List Value} (ht:P.underlying t=some (.slice el)) (hi:P.info? el=some i) (hz:i.zero=some z) (uA:z.cells.size=i.size) (xT:0<i.bytes)
  (gv:nT P w xt i.size xv m news) {g l c:Nat} {cur:Array Value} {te:TypeId} {fr:Nat×Nat} (hg:w.heap[g]?=some (.cells cur te fr)) (gy:∀j,j<cur.size-> ¬(fr.1≤j∧j<fr.2)) (dC:cur.size=i.size*c) (FB:l≤c) (s_:c≤maxLen) (hb:(l+m)*i.bytes≤140737488355328) :
  ∃v' w' g',(Builtin.append_ #[t,xt] ty #[.slice (some ⟨g,0,none⟩) l c,xv]).run P w= .ok v' w'∧JK w w' v' (some g) i.size (l+m) (cur.toList.take (l*i.size)++news) g':=by
 have MY:g<w.heap.size:=(Array.getElem?_eq_some_iff.1 hg).1
 have gm:cur.toList.length=cur.size:=rfl
 have hle:l*i.size≤cur.size:=by rw [dC,Nat.mul_comm];exact Nat.mul_le_mul_left _ FB
 have Ie:(cur.toList.take (l*i.size)).length=l*i.size:=by rw [List.length_take];omega
 by_cases mS:l+m≤c
 ·have LX:=gv.cells w rfl
  have mG:l*i.size+news.length≤cur.size:=by rw [gv.hl,←Nat.add_mul,dC,Nat.mul_comm];exact Nat.mul_le_mul_left _ mS
  have dS:=c_ P g te fr cur.size gy (l*i.size) news 0 cur w hg aj rfl gv.one
  simp only [Nat.add_zero] at dS
  obtain ⟨f1,f2,f3⟩:=pL (cur':=(cur.toList.take (l*i.size)++news++cur.toList.drop (l*i.size+news.length)).toArray) hg
  have Fx:(cur.toList.take (l*i.size)++news++cur.toList.drop (l*i.size+news.length)).toArray.size=cur.size:=by
   simp only [List.size_toArray];rw [oT _ _ _ aj];rfl
  have hlen:(cur.toList.take (l*i.size)++news).length=i.size*(l+m):=by rw [List.length_append,Ie,gv.hl,←Nat.add_mul,Nat.mul_comm]
  refine ⟨.slice (some ⟨g,0,none⟩) (l+m) c,_,g,?_,⟨c,rfl,mS,s_,by unfold aV;rw [f1];simp only;rw [Fx,dC]⟩,⟨_,te,fr,f1,fun j hj=>gy j aj,by rw [Fx,hlen,dC];exact Nat.mul_le_mul_left _ mS,by simp only;exact List.take_left⟩,hlen,rfl,rfl,rfl,by rw [f2];exact Nat.le_refl _,fun b hb cX=>f3 b fun e=>cX (by rw [e]),.inl ⟨rfl,MY⟩⟩
  rcases gv.ty with ⟨e2,hu⟩|hu<;>simp [Builtin.append_,run_underlying ht,run_underlying hu,sizeOf,typeInfo,hi,gv.len,mS,LX,fe,dS]
 ·obtain ⟨FA,Ii⟩:=ug xT hb
  have P3:¬(281474976710656<Builtin.nextslicecap (l+m) c*i.bytes):=by have:=growslice_fits (need:=l+m) (old:=c) aj hb;omega
  have P2:¬(9223372036854775807<((l:Int)+(m:Int))):=aj
  have hA:=rJ (w:=w) (el:=el) (old:=c) (some g) uA Ie gv.hl FA
  have hf:=gv.cells w.drew rfl
  have Is:=run_firstCells_some (P:=P) w.drew i.size l ⟨g,0,none⟩ l c (cur.toList.take (l*i.size)) Ie (fun j u hu=>by
   rw [fe]
   have:w.drew.cell? ⟨g,j,none⟩=w.cell? ⟨g,j,none⟩:=kv rfl
   rw [this,cell_of_row w g _ cur te fr hg]
   have:=bW _ _ _ _ hu
   simpa using this)
  refine ⟨_,_,w.heap.size,?_,hA⟩
  rcases gv.ty with ⟨e2,hu⟩|hu<;>simp [Builtin.append_,run_underlying ht,run_underlying hu,sizeOf,typeInfo,zeroValue,hi,hz,gv.len,mS,hf,Is,P3,P2,Question.forced,newRow,grownCap]<;>rw [Bn]
theorem Ha {t xt ty el:TypeId} {i:TypeInfo} {z xv:Value} {m:Nat} {news:List Value} (ht:P.underlying t=some (.slice el)) (hi:P.info? el=some i) (hz:i.zero=some z) (uA:z.cells.size=i.size) (xT:0<i.bytes)
  (gv:nT P w xt i.size xv m news) {A:Option Addr} {l:Nat} {us:List Value} (yY:us.length=l*i.size) (hc:0<us.length-> ∃ad,A=some ad∧ ∀(j:Nat) u,us[j]?=some u->w.cell? (ad.add j)=some u) (LP:0<m) (hb:(l+m)*i.bytes≤140737488355328) :
  ∃v' w',(Builtin.append_ #[t,xt] ty #[.slice A l l,xv]).run P w= .ok v' w'∧JK w w' v' none i.size (l+m) (us++news) w.heap.size:=by
 have mS:¬(l+m≤l):=aj
 obtain ⟨FA,Ii⟩:=ug xT hb
 have P3:¬(281474976710656<Builtin.nextslicecap (l+m) l*i.bytes):=by have:=growslice_fits (need:=l+m) (old:=l) aj hb;omega
 have P2:¬(9223372036854775807<((l:Int)+(m:Int))):=aj
 have hA:=rJ (w:=w) (el:=el) (old:=l) none uA yY gv.hl FA
 have hf:=gv.cells w.drew rfl
 have Is:(Builtin.firstCells i.size l (.slice A l l)).run P w.drew= .ok us.toArray w.drew:=by
  by_cases h0:0<us.length
  ·obtain ⟨ad,rfl,dP⟩:=hc h0
   exact run_firstCells_some w.drew i.size l ad l l us yY (fun j u hu=>(kv (w:=w) (w':=w.drew) rfl).trans (dP j u hu))
  ·have hn:us= []:=List.length_eq_zero_iff.1 aj
   subst hn
   cases A with
   | none=>rw [run_firstCells_none]
   | some ad=>exact run_firstCells_some w.drew i.size l ad l l _ yY (fun j u hu=>by simp at hu)
 refine ⟨_,_,?_,hA⟩
 rcases gv.ty with ⟨e2,hu⟩|hu<;>simp [Builtin.append_,run_underlying ht,run_underlying hu,sizeOf,typeInfo,zeroValue,hi,hz,gv.len,mS,hf,Is,P3,P2,Question.forced,newRow,grownCap]<;>rw [Bn]
end
section
variable {S0:bo} {w0 w w':World} {n:Nat} {s:AS} {a:Act} {φ:Nat->Option Nat}
theorem pY (id d:Nat) (h:look s.H d=none):look (ck id s).H d=none:=by
 unfold ck
 rw [cz,bH]
 split
 ·rfl
 ·rw [h];rfl
theorem aJ.vo {O:List Nat} {g0:Option Nat} (h:aJ S0 w0 n O s a w φ) (hO:O=match g0 with|some g=>[g]|none=>[]) (Sf:∀g∈O,w0.heap.size≤g∨S0.X g) (Nf:∀g∈O,g<w.heap.size) {d e N g':Nat} {v':Value} {cells:List Value} (PN:d<1000000000000) (hd:look s.H d=none) (hA:JK w w' v' g0 e N cells g') {row:List AV} (hl:row.length=cells.length)
  (hc:∀(j:Nat) u x,cells[j]?=some u->row[j]?=some x->cB (aM S0 w φ O) w u x) :
  ∃ cE,aJ S0 w0 n [] ⟨s.F,(d,⟨e,true,false,row⟩)::s.H⟩ a w' cE∧Den (az ((d,⟨e,true,false,row⟩)::s.H) cE) (aM S0 w' cE []) w' v' (.ref d):=by
 obtain ⟨c',hv,hN,s_,gm⟩:=hA.slice
 obtain ⟨cur,te,fr,hg,hf,hle,LM⟩:=hA.Lp
 have hb:∀b,b<w.heap.size->b ∉ O->w'.heap[b]?=w.heap[b]?:=fun b hb hn=>hA.other b hb fun e=>hn (by rw [hO,←e];simp)
 have hF:∀b,aM S0 w φ O b->w'.heap[b]?=w.heap[b]?:=fun b h=>hb b h.1 h.2.1
 have rd:∀(S:Nat->Prop),(∀b,aM S0 w φ O b->S b)-> ∀(j:Nat) u x,cur[j]?=some u->row[j]?=some x->cB S w' u x:=by
  intro S hS j u x hu hx
  have hj:j<cells.length:=by have:=(List.getElem?_eq_some_iff.1 hx).1;omega
  have:cells[j]?=some u:=by
   rw [←LM,List.getElem?_take,if_pos hj];simpa using hu
  exact (hc j u x this hx).mono fun b hb=>⟨hS b hb,hF b hb⟩
 have fin:∀ cE,cE d=some g'->Den (az ((d,⟨e,true,false,row⟩)::s.H) cE) (aM S0 w' cE []) w' v' (.ref d):=by
  intro cE cm
  rw [hv]
  exact .ref d e row.length g' N c' (by rw [bu (r:=⟨e,true,false,row⟩) (by rw [aD,if_pos rfl]),cm]) (by rw [hl];exact hA.len) hN s_ gm
 rcases hA.place with ⟨AF,dj⟩|⟨rfl,dj⟩
 ·rw [AF] at hO
  subst hO
  have h2:=h.vW Sf hA.os hA.tape hA.output hA.size hb
  have h3:=h2.wX (id:=d) (r:=⟨e,true,false,row⟩) ⟨.inl PN,Sf g' (by simp)⟩ (by have:=hA.size;omega) (by simp) hd ⟨cur,te,fr,hg,hf,by simp only [hl];exact hle,fun h=>(by cases h),fun j u x hu hx=>by
   show cB _ _ _ _
   exact rd _ (fun b hb=>⟨by have:=hb.1;have:=hA.size;omega,hb.2⟩) j u x hu hx⟩
  exact ⟨_,h3,fin _ (by unfold fG;rw [if_pos rfl])⟩
 ·have h1:=h.await w.heap.size (Nat.le_refl _)
  have h2:=h1.vW (fun g hg=>by rcases List.mem_cons.1 hg with rfl|hg;exact .inl h.cZ.size;exact Sf g hg) hA.os hA.tape hA.output hA.size (fun b JR hn=>hb b JR fun hm=>hn (by simp [hm]))
  have Ub:w.heap.size ∉ O:=fun hm=>Nat.lt_irrefl _ (Nf _ hm)
  have h3:=h2.wX (id:=d) (r:=⟨e,true,false,row⟩) ⟨.inl PN,.inl h.cZ.size⟩ dj Ub hd ⟨cur,te,fr,hg,hf,by simp only [hl];exact hle,fun h=>(by cases h),fun j u x hu hx=>by
   show cB _ _ _ _
   exact rd _ (fun b hb=>⟨by have:=hb.1;omega,by simp only [List.mem_cons,not_or];exact ⟨by have:=hb.1;omega,hb.2.1⟩,hb.2.2⟩) j u x hu hx⟩
  cases AF:g0 with
  | none =>
   rw [AF] at hO;subst hO
   exact ⟨_,h3,fin _ (by unfold fG;rw [if_pos rfl])⟩
  | some g =>
   rw [AF] at hO;subst hO
   exact ⟨_,h3.uT,fin _ (by unfold fG;rw [if_pos rfl])⟩
end
def cI (row:List AV):Prop:=∀x∈row,ig x=true
theorem fQ (l:List UInt8):cI (ag l):=by
 intro x hx;simp only [ag,List.mem_map] at hx;obtain ⟨c,_,rfl⟩:=hx;rfl
theorem pS (l:List UInt64):cI (ah l):=by
 intro x hx;simp only [ah,List.mem_map] at hx;obtain ⟨c,_,rfl⟩:=hx;rfl
theorem Ai (l:List Int):cI (ax l):=by
 intro x hx;simp only [ax,List.mem_map] at hx;obtain ⟨c,_,rfl⟩:=hx;rfl
theorem dN:∀ {l:List AV},d_ l=true->cI l
 | [],_=>by intro x hx;simp at hx
 | y::l,h=>by
  simp only [d_] at h
  split at h
  ·rename_i hy
   intro x hx
   rcases List.mem_cons.1 hx with rfl|hx
   ·exact hy
   ·exact dN h x hx
  ·cases h
def xy (h:Hint) (row:List AV):Option (List Prop):=match h.b with|true=>(match d_ row with|true=>some []|false=>none)|false=>some [cI row]
theorem wz {h:Hint} {row:List AV} {C D:List Prop} (hp:xy h row=some C) (hC:bz (C++D)):cI row∧bz D:=by
 unfold xy at hp
 split at hp
 ·split at hp
  ·rename_i h1;cases hp;exact ⟨dN h1,hC⟩
  ·cases hp
 ·cases hp;exact hC
def qL (P:Program) (s:AS) (xt:TypeId) (z:Nat) (x:AV):Option (List AV) :=
 match P.underlying xt with
 | some (.slice _)=>(match tL s x with|some (e,row)=>(match Nat.beq e z with|true=>some row|false=>(match x with| .nil=>some []|_=>none))|none=>none)
 | some .string=>(match x,z with| .val (.string b),1=>some (ag b.data.toList)|_,_=>none)
 | _=>none
def qm (s:AS) (e:Nat):AV->Option (List AV×AS)
 | .nil=>some ([],s)
 | .ref id=>(match look s.H id with|some ⟨e',true,_,cells⟩=>(match Nat.beq e e' with|true=>some (cells,ck id s)|false=>none)|_=>none)
 | .pre id l=>(match look s.H id with|some ⟨e',true,_,cells⟩=>(match Nat.beq e e' with|true=>some (cells.take l,ck id s)|false=>none)|_=>none)
 | .pf e' row=>(match Nat.beq e e' with|true=>some (row,s)|false=>none)
 | _=>none
def Ss (x:AV) (row:List AV):List Prop:=match x with| .pf _ _=>[0<row.length]|_=>[]
def kU (P:Program) (n:Nat) (s:AS) (d t xt:Nat) (x y:AV) (h:Hint):Option (AS×List Prop) :=
 match P.underlying t with
 | some (.slice el)=>(match P.info? el with
  | some i=>(match i.zero,i.size,i.bytes with
   | some zero,z+1,b+1=>(match Nat.beq zero.cells.size (z+1),qm s (z+1) x,qL P s xt (z+1) y with
    | true,some (cells,s1),some row=>(match xy h row,gG n ⟨(ck d s1).F,(d,⟨z+1,true,false,(named h (cells++row)).1⟩)::(ck d s1).H⟩ (some d) (.ref d) with
     | some C,some s'=>some (s',(named h (cells++row)).2++(C++(((cells.length+row.length)*(b+1)≤(z+1)*140737488355328)::Ss x row)))
     | _,_=>none)
    | _,_,_=>none)
   | _,_,_=>none)
  | none=>none)
 | _=>none
section
variable {P:Program} {n:Nat} {s:AS} {o:Oper} {h:Hint} {q:AS×List Prop}
theorem DW {S:Nat->Prop} {w:World} {v:Value} {x:AV} (h:cB S w v x) (hp:ig x=true):v.oneCell'=true:=(eK (I:=fun _=>none) (.rep h) hp).2
theorem v8 {S0:bo} {w0 w:World} {a:Act} {φ:Nat->Option Nat} (hs:aJ S0 w0 n [] s a w φ) {xt:TypeId} {v:Value} {x:AV} (hx:Den (az s.H φ) (aM S0 w φ []) w v x) {z:Nat} {row:List AV} (he:qL P s xt z x=some row) (uD:cI row) :
  ∃m us,nT P w xt z v m us∧us.length=row.length∧ ∀(j:Nat) u x,us[j]?=some u->row[j]?=some x->cB (aM S0 w φ []) w u x:=by
 unfold qL at he
 split at he
 ·rename_i e2 hu
  split at he
  ·rename_i e E4 gv
   split at he
   ·rename_i hb
    have hb:=Nat.eq_of_beq_eq_true hb
    cases he
    subst hb
    obtain ⟨A,m,c,us,rfl,h1,h2,h3,h4,h5⟩:=Mq hs hx gv
    have ho:∀u∈us,u.oneCell'=true:=by
     intro u hu
     obtain ⟨j,hj⟩:=List.getElem?_of_mem hu
     have MU:j<row.length:=by have:=(List.getElem?_eq_some_iff.1 hj).1;omega
     exact DW (h4 j u _ hj (List.getElem?_eq_getElem MU)) (uD _ (List.getElem_mem MU))
    exact ⟨m,us,pK hu (by rw [h2,h1,Nat.mul_comm]) (fun h0=>h3 aj) ho,h2,h4⟩
   ·split at he
    ·cases he
     cases hx with|rep hx=>cases hx with|nil=>exact ⟨0,[],pK hu (by simp) (fun h=>by simp at h) (by simp),rfl,fun j u x hu=>by simp at hu⟩
    ·cases he
  ·cases he
 ·rename_i hu
  split at he
  ·rename_i b
   cases he
   have hv:=bK hx
   subst hv
   refine ⟨b.size,sr b.data.toList,vv hu b,by rw [gi,aA],fun j u x hu hx=>?_⟩
   have hj:j<b.data.toList.length:=by have:=(List.getElem?_eq_some_iff.1 hu).1;rw [gi] at this;exact this
   rw [NG _ _ hj] at hu
   injection hu with hu;subst hu
   have e2:(ag b.data.toList)[j]?=some (.val (.int .u8 (bv (b.data.toList.getD j 0)))):=by
    simp only [ag,List.getElem?_map,List.getElem?_eq_getElem hj,Option.map_some,List.getD_eq_getElem?_getD,Option.getD_some]
   rw [e2] at hx
   injection hx with hx;subst hx
   exact .val _
  ·cases he
 ·cases he
theorem Jc {S0:bo} {w0 w:World} {a:Act} {φ:Nat->Option Nat} (hs:aJ S0 w0 n [] s a w φ) {v:Value} {x:AV} (hx:Den (az s.H φ) (aM S0 w φ []) w v x) {e:Nat} {cells:List AV} {s1:AS} (he:qm s e x=some (cells,s1)) :
  (v= .slice none 0 0∧cells= []∧ ∃ iI,aJ S0 w0 n [] s1 a w iI∧ ∀b,aM S0 w φ [] b->aM S0 w iI [] b) ∨
  (∃(g l c:Nat) (iI:Nat->Option Nat),v= .slice (some ⟨g,0,none⟩) l c∧aJ S0 w0 n [g] s1 a w iI∧(∀b,aM S0 w φ [] b->aM S0 w iI [g] b)∧l≤c∧c≤maxLen∧cells.length=e*l∧(w0.heap.size≤g∨S0.X g)∧g<w.heap.size ∧
   ∃cur te fr,w.heap[g]?=some (.cells cur te fr)∧(∀j,j<cur.size-> ¬(fr.1≤j∧j<fr.2))∧cur.size=e*c∧ ∀(j:Nat) u x,cur[j]?=some u->cells[j]?=some x->cB (aM S0 w φ []) w u x) ∨
  ∃(A:Option Addr) (l:Nat) (us:List Value),(∃e',x= .pf e' cells)∧v= .slice A l l∧s1=s∧us.length=cells.length∧cells.length=e*l∧(0<us.length-> ∃ad,A=some ad∧ ∀(j:Nat) u,us[j]?=some u->w.cell? (ad.add j)=some u) ∧
   ∀(j:Nat) u x,us[j]?=some u->cells[j]?=some x->cB (aM S0 w φ []) w u x:=by
 have own:∀(id g l c m:Nat) (e':Nat) (fu:Bool) (rc:List AV),look s.H id=some ⟨e',true,fu,rc⟩->az s.H φ id=some (e',m,some g)->e=e'->l≤c->c≤maxLen->aV w g=e'*c->cells.length=e*l->(∀(j:Nat) x,cells[j]?=some x->rc[j]?=some x)->s1=ck id s->v= .slice (some ⟨g,0,none⟩) l c ->
   ∃(g l c:Nat) (iI:Nat->Option Nat),v= .slice (some ⟨g,0,none⟩) l c∧aJ S0 w0 n [g] s1 a w iI∧(∀b,aM S0 w φ [] b->aM S0 w iI [g] b)∧l≤c∧c≤maxLen∧cells.length=e*l∧(w0.heap.size≤g∨S0.X g)∧g<w.heap.size ∧
   ∃cur te fr,w.heap[g]?=some (.cells cur te fr)∧(∀j,j<cur.size-> ¬(fr.1≤j∧j<fr.2))∧cur.size=e*c∧ ∀(j:Nat) u x,cur[j]?=some u->cells[j]?=some x->cB (aM S0 w φ []) w u x:=by
  intro id g l c m e' fu rc hr hi RY FB s_ gm hlen Cm gV hv
  subst gV;subst RY
  obtain ⟨r',il,-,-,cm⟩:=aQ hi
  obtain ⟨cur,te,fr,hg,hf,hle,hc⟩:=kD hs hr rfl cm
  refine ⟨g,l,c,erase φ id,hv,hs.jw id [g] (by rw [cm]),fun b hb=>⟨hb.1,by simp;exact fun e=>hb.2.2.1 id (by rw [cm,e]),fun i hi=>?_,hb.2.2.2⟩,FB,s_,hlen,(hs.cY id g cm).1.2,(hs.cY id g cm).2,cur,te,fr,hg,hf,?_,fun j u x hu hx=>hc j u x hu (Cm j x hx)⟩
  ·unfold erase at hi
   split at hi
   ·cases hi
   ·exact hb.2.2.1 i hi
  ·unfold aV at gm;rw [hg] at gm;exact gm
 have none_:∀id,φ id=none->s1=ck id s->v= .slice none 0 0->cells= []->v= .slice none 0 0∧cells= []∧ ∃ iI,aJ S0 w0 n [] s1 a w iI∧ ∀b,aM S0 w φ [] b->aM S0 w iI [] b:=by
  intro id cm gV hv hc
  subst gV
  refine ⟨hv,hc,erase φ id,hs.jw id [] (by rw [cm]),fun b hb=>⟨hb.1,by simp,fun i hi=>?_,hb.2.2.2⟩⟩
  unfold erase at hi
  split at hi
  ·cases hi
  ·exact hb.2.2.1 i hi
 cases hx with
 | rep hx =>
  cases hx with
  | nil=>cases he;exact .inl ⟨rfl,rfl,φ,hs,fun _ h=>h⟩
  | pf A k e' us row hl hn hm ha h =>
   simp only [qm] at he
   split at he
   ·rename_i hb
    have hb:=Nat.eq_of_beq_eq_true hb
    cases he
    exact .inr (.inr ⟨A,k,us,⟨e',rfl⟩,rfl,rfl,hl,by rw [hn,hb],fun h0=>by
     obtain ⟨ad,h1,-,h2⟩:=ha aj
     exact ⟨ad,h1,h2⟩,h⟩)
   ·cases he
  | _=>cases he
 | agg=>cases he
 | bt=>cases he
 | dead=>cases he
 | addr=>cases he
 | jr=>cases he
 | ref id e' m g l c hi hm hc hx bY =>
  obtain ⟨r,hr,h1,h2,cm⟩:=aQ hi
  obtain ⟨re,rp,rf,rc⟩:=r
  simp only [qm,hr] at he
  split at he
  ·rename_i heq
   injection heq with heq;cases heq
   split at he
   ·rename_i hb
    have hb:=Nat.eq_of_beq_eq_true hb
    cases he
    simp only at h1 h2
    subst h1
    exact .inr (.inl (own id g l c m _ _ _ hr hi hb hc hx bY (by rw [h2,hm,hb]) (fun _ _ h=>h) rfl rfl))
   ·cases he
  ·cases he
 | cH id e' hi =>
  obtain ⟨r,hr,h1,h2,cm⟩:=aQ hi
  obtain ⟨re,rp,rf,rc⟩:=r
  simp only [qm,hr] at he
  split at he
  ·rename_i heq
   injection heq with heq;cases heq
   split at he
   ·cases he
    simp only at h2
    exact .inl (none_ id cm rfl rfl (List.length_eq_zero_iff.1 h2))
   ·cases he
  ·cases he
 | pre id k e' m g l c hi hn hm hc hx bY =>
  obtain ⟨r,hr,h1,h2,cm⟩:=aQ hi
  obtain ⟨re,rp,rf,rc⟩:=r
  simp only [qm,hr] at he
  split at he
  ·rename_i heq
   injection heq with heq;cases heq
   split at he
   ·rename_i hb
    have hb:=Nat.eq_of_beq_eq_true hb
    cases he
    simp only at h1 h2
    subst h1
    exact .inr (.inl (own id g l c m _ _ _ hr hi hb hc hx bY (by rw [List.length_take,h2,hb,←hn];omega) (fun j x h=>bW _ _ _ _ h) rfl rfl))
   ·cases he
  ·cases he
 | dF id e' hi =>
  obtain ⟨r,hr,h1,h2,cm⟩:=aQ hi
  obtain ⟨re,rp,rf,rc⟩:=r
  simp only [qm,hr] at he
  split at he
  ·rename_i heq
   injection heq with heq;cases heq
   split at he
   ·cases he
    exact .inl (none_ id cm rfl rfl (by simp))
   ·cases he
  ·cases he
theorem sg {t xt d:Nat} {x y:Operand} (ho:o.op= .call ⟨.builtin .append,⟨[x,y]⟩,⟨[t,xt]⟩⟩) (hd:o.dst=some d) (hr:kU P n s d t xt (bq s x) (bq s y) h=some q):mc P n s o q.1 q.2:=by
 intro hC S0 w0 a w Q ⟨φ,hs⟩
 unfold kU at hr
 split at hr
 ·rename_i el hu
  split at hr
  ·rename_i i hi
   split at hr
   ·rename_i zero z b hz dC xT
    split at hr
    ·rename_i cells s1 row uA lE gv
     split at hr
     ·rename_i C s' oO e9
      injection hr with hr;subst hr
      obtain ⟨hn,Ey⟩:=hY hC
      obtain ⟨Pr,m_,mT⟩:=wz oO Ey
      have uA:=Nat.eq_of_beq_eq_true uA
      replace dC:i.size=z+1:=dC
      replace xT:i.bytes=b+1:=xT
      obtain ⟨m,us,Fy,yY,b7⟩:=v8 (P:=P) hs (hs.bq y) gv Pr
      have aN:row.length=(z+1)*m:=by rw [←yY,Fy.hl,Nat.mul_comm]
      rw [hn] at e9
      have wp:∀v' w',(Builtin.append_ #[t,xt] o.type #[a.eval x,a.eval y]).run P w= .ok v' w'->iv S0 w0 n s' (a.put o.dst v') w'->o.wp P a w (fun a' w'=>iv S0 w0 n s' a' w') Q:=by
       intro v' w' cp gb
       refine cV (v:=v') (w':=w') ?_ gb
       unfold execOp
       simp [ho,resolve,invoke,builtin,cp]
      have zw:∀s1:AS,look (ck d s1).H d=none:=fun s1=>dq d
      rcases Jc hs (hs.bq x) lE with ⟨hv,UX,iI,gV,hF⟩|⟨g,l,c,iI,hv,gV,hF,FB,s_,gm,AF,FD,cur,te,fr,hg,hf,wL,hold⟩|⟨A,l,ol,⟨e',T_⟩,hv,Qw,AB,gm,Vm,hold⟩
      ·subst UX
       simp only [List.nil_append,List.length_nil,Nat.zero_add] at e9 m_
       have yZ:m*i.bytes≤140737488355328:=by
        have:=xA (l:=0) (m:=m) aj (by rw [Nat.zero_add];exact aN) m_
        rw [Nat.zero_add] at this;rw [xT];exact this
       have mZ:=gV.mj d
       rcases G_ (ty:=o.type) hu hi hz (by rw [uA,dC]) aj (by rw [dC];exact Fy) yZ with ⟨hm,cp⟩|⟨v',w',cp,hA⟩
       ·have Uo:row= []:=List.length_eq_zero_iff.1 (by rw [aN,hm];simp)
        subst Uo
        refine wp (.slice none 0 0) w (by rw [hv];exact cp) ⟨erase iI d,?_⟩
        rw [hd]
        exact dY (mZ.rK (id:=d) (r:=⟨z+1,true,false,[]⟩) (zw s1) rfl) (.cH d (z+1) (by rw [bu (r:=⟨z+1,true,false,[]⟩) (by rw [aD,if_pos rfl]),mZ.only d (zw s1)];rfl)) e9
       ·rw [dC] at hA
        obtain ⟨j7,h3,h4⟩:=mZ.vo (g0:=none) rfl (by simp) (by simp) (iS e9) (zw s1) hA (row:=row) yY.symm (fun j u x hu hx=>(b7 j u x hu hx).mono fun b hb=>⟨⟨hb.1,by simp,fun i hi=>by
         unfold erase at hi
         split at hi
         ·cases hi
         ·exact (hF b hb).2.2.1 i hi,hb.2.2.2⟩,rfl⟩)
        refine wp _ _ (by rw [hv];exact cp) ⟨j7,?_⟩
        rw [hd]
        exact dY h3 h4 e9
      ·have LM:(cur.toList.take (l*(z+1))).length=cells.length:=by
        have KX:cur.toList.length=cur.size:=rfl
        rw [List.length_take,gm,KX,wL,Nat.mul_comm]
        exact Nat.min_eq_left (Nat.mul_le_mul_left _ FB)
       have yZ:(l+m)*i.bytes≤140737488355328:=by
        rw [xT];exact xA aj (by rw [gm,aN,←Nat.mul_add]) m_
       have mZ:aJ S0 w0 n [g] (ck d s1) a w (erase iI d):=by
        cases O3:iI d with
        | none=>exact gV.jw d [g] (by rw [O3])
        | some gd=>exact (gV.jw d [gd,g] (by rw [O3])).uT
       obtain ⟨v',w',g',cp,hA⟩:=G9 (ty:=o.type) hu hi hz (by rw [uA,dC]) aj (by rw [dC];exact Fy) hg hf (by rw [dC];exact wL) FB s_ yZ
       rw [dC] at hA
       have Sk:∀b,aM S0 w φ [] b->aM S0 w (erase iI d) [g] b:=fun b hb=>⟨hb.1,(hF b hb).2.1,fun i hi=>by
        unfold erase at hi
        split at hi
        ·cases hi
        ·exact (hF b hb).2.2.1 i hi,hb.2.2.2⟩
       obtain ⟨j7,h3,h4⟩:=mZ.vo (g0:=some g) rfl (by simpa using AF) (by simpa using FD) (iS e9) (zw s1) hA (row:=cells++row) (by rw [List.length_append,List.length_append,LM,yY]) (fun j u x hu hx=>by
        refine cB.mono (fun b hb=>⟨Sk b hb,rfl⟩) (?_:cB (aM S0 w φ []) w u x)
        by_cases hj:j<cells.length
        ·rw [List.getElem?_append_left aj] at hu
         rw [List.getElem?_append_left hj] at hx
         have:=bW _ _ _ _ hu
         exact hold j u x (by simpa using this) hx
        ·rw [List.getElem?_append_right aj] at hu
         rw [List.getElem?_append_right aj] at hx
         rw [LM] at hu
         exact b7 _ u x hu hx)
       refine wp _ _ (by rw [hv];exact cp) ⟨j7,?_⟩
       rw [hd]
       exact dY h3 h4 e9
      ·subst Qw
       rw [T_] at mT
       have LP:0<m:=by
        have h0:0<row.length:=mT.1
        rw [aN] at h0
        exact Nat.pos_of_mul_pos_left h0
       have yZ:(l+m)*i.bytes≤140737488355328:=by
        rw [xT];exact xA aj (by rw [gm,aN,←Nat.mul_add]) m_
       have mZ:=hs.mj d
       obtain ⟨v',w',cp,hA⟩:=Ha (ty:=o.type) hu hi hz (by rw [uA,dC]) aj (by rw [dC];exact Fy) (by rw [AB,gm,dC,Nat.mul_comm]) Vm LP yZ
       rw [dC] at hA
       have Sk:∀b,aM S0 w φ [] b->aM S0 w (erase φ d) [] b:=fun b hb=>⟨hb.1,by simp,fun i hi=>by
        unfold erase at hi
        split at hi
        ·cases hi
        ·exact hb.2.2.1 i hi,hb.2.2.2⟩
       obtain ⟨j7,h3,h4⟩:=mZ.vo (g0:=none) rfl (by simp) (by simp) (iS e9) (zw _) hA (row:=cells++row) (by rw [List.length_append,List.length_append,AB,yY]) (fun j u x hu hx=>by
        refine cB.mono (fun b hb=>⟨Sk b hb,rfl⟩) (?_:cB (aM S0 w φ []) w u x)
        by_cases hj:j<cells.length
        ·rw [List.getElem?_append_left aj] at hu
         rw [List.getElem?_append_left hj] at hx
         exact hold j u x hu hx
        ·rw [List.getElem?_append_right aj] at hu
         rw [List.getElem?_append_right aj] at hx
         rw [AB] at hu
         exact b7 _ u x hu hx)
       refine wp _ _ (by rw [hv];exact cp) ⟨j7,?_⟩
       rw [hd]
       exact dY h3 h4 e9
     ·cases hr
    ·cases hr
   ·cases hr
  ·cases hr
 ·cases hr
def Jm (s:AS):AV->Option (Nat×Nat×Nat)
 | .ref id=>(match look s.H id with|some r=>some (id,0,r.cells.length)|none=>none)
 | .pre id l=>some (id,0,l)
 | .jr id o l=>some (id,o,l)
 | _=>none
def CX (P:Program) (n:Nat) (s:AS) (d:Option Nat) (t xt:Nat) (x y:AV) (h:Hint):Option (AS×List Prop) :=
 match P.underlying t with
 | some (.slice el)=>(match eC P el,Jm s x with
  | some (z+1),some (id,off,l)=>(match look s.H id,qL P s xt (z+1) y with
   | some ⟨e,true,fu,cells⟩,some row=>(match Nat.beq e (z+1),xy h row,gG n (E2 s id ⟨e,true,fu,(named h (setCells cells off (row.take (cW h.k (z+1))))).1⟩) d (.val (.int .i64 h.k)) with
    | true,some C,some s'=>some (s',(named h (setCells cells off (row.take (cW h.k (z+1))))).2++(C++ [min row.length l=cW h.k (z+1),0<l]))
    | _,_,_=>none)
   | _,_=>none)
  | _,_=>none)
 | _=>none
theorem FY {t xt:Nat} {x y:Operand} (ho:o.op= .call ⟨.builtin .copy,⟨[x,y]⟩,⟨[t,xt]⟩⟩) (hr:CX P n s o.dst t xt (bq s x) (bq s y) h=some q):mc P n s o q.1 q.2:=by
 intro hC S0 w0 a w Q ⟨φ,hs⟩
 unfold CX at hr
 split at hr
 ·rename_i el hu
  split at hr
  ·rename_i z id off l dC JO
   split at hr
   ·rename_i e fu cells row aN gv
    split at hr
    ·rename_i C s' he oO e9
     injection hr with hr;subst hr
     have he:=Nat.eq_of_beq_eq_true he
     obtain ⟨hn,Ey⟩:=hY hC
     obtain ⟨Pr,Cp,y1,-⟩:=wz oO Ey
     obtain ⟨m,us,Fy,yY,b7⟩:=v8 (P:=P) hs (hs.bq y) gv Pr
     rw [bx] at Cp
     have Gs:row.length=(z+1)*m:=by rw [←yY,Fy.hl,Nat.mul_comm]
     have hI:=bu (φ:=φ) aN
     have hx:=hs.bq x
     have lE:∃(g dl c:Nat),a.eval x= .slice (some ⟨g,off,none⟩) dl c∧φ id=some g∧l=(z+1)*dl∧off+l≤cells.length:=by
      generalize a.eval x=V at hx
      unfold Jm at JO
      split at JO
      ·rename_i pc N8
       rw [N8] at hx
       split at JO
       ·rename_i r' il
        cases JO
        rw [aN] at il;injection il with il;subst il
        cases hx with
        | rep h=>cases h
        | ref _ e' m' g l' c hi hm hc hx bY =>
         rw [hI] at hi;injection hi with hi;injection hi with h1 hi;injection hi with h2 h3
         simp only at h1 h2 ⊢
         exact ⟨g,l',c,rfl,h3,by rw [h2,hm,←h1,he],aj⟩
        | cH _ e' hi =>
         rw [hI] at hi;injection hi with hi;injection hi with h1 hi;injection hi with h2 h3
         simp only at h2 y1;omega
       ·cases JO
      ·rename_i pc l' N8
       rw [N8] at hx
       cases JO
       cases hx with
       | rep h=>cases h
       | pre _ _ e' m' g l' c hi sE hm hc hx bY =>
        rw [hI] at hi;injection hi with hi;injection hi with h1 hi;injection hi with h2 h3
        simp only at h1 h2 ⊢
        exact ⟨g,l',c,rfl,h3,by rw [sE,←h1,he],aj⟩
       | dF _ e' hi=>omega
      ·rename_i pc o' l' N8
       rw [N8] at hx
       cases JO
       cases hx with
       | rep h=>cases h
       | jr _ _ _ e' m' l' c g A hi sE hm hc hx ha =>
        rw [hI] at hi;injection hi with hi;injection hi with h1 hi;injection hi with h2 h3
        obtain ⟨b,hb,rfl⟩:=ha y1
        simp only at h1 h2 ⊢
        exact ⟨b,l',c,rfl,by rw [h3,hb],by rw [sE,←h1,he],aj⟩
      ·cases JO
     obtain ⟨g,dl,c,hv,cm,hl,mG⟩:=lE
     obtain ⟨cur,te,fr,hg,hf,hle,hold⟩:=BR hs aN cm
     have UB:cells.length≤cur.size:=hle
     have QE:min m dl=h.k:=by
      rw [Gs,hl,Nat.mul_comm h.k,Nat.mul_min_mul_left] at Cp
      exact Nat.eq_of_mul_eq_mul_left aj Cp
     have iH:h.k*(z+1)≤l:=aj
     have VV:h.k*(z+1)≤row.length:=aj
     have Ax:(row.take (cW h.k (z+1))).length=h.k*(z+1):=by rw [bx,List.length_take];omega
     have S9:(us.take (h.k*(z+1))).length=h.k*(z+1):=by rw [List.length_take];omega
     have dP:(Builtin.firstCells (z+1) h.k (a.eval y)).run P w= .ok (us.take (h.k*(z+1))).toArray w:=Fy.part w h.k rfl aj
     have uD:∀u∈us.take (h.k*(z+1)),u.oneCell'=true:=fun u hu=>Fy.one u (List.mem_of_mem_take hu)
     have dS:=c_ P g te fr cur.size hf off (us.take (h.k*(z+1))) 0 cur w hg (by rw [S9];omega) rfl uD
     simp only [Nat.add_zero] at dS
     have gb:=hs.written (off:=off) (l:=row.take (cW h.k (z+1))) (vs:=us.take (h.k*(z+1))) aN cm hg hle hold (by rw [Ax,S9]) (by rw [Ax];simp only;omega) hn (fun j u x hu hx=>by
      show cB _ _ _ _
      exact b7 j u x (bW _ _ _ _ hu) (bW _ _ _ _ hx))
     have Rq:(sizeOf el).run P w= .ok (z+1) w:=run_sizeOf dC
     refine cV (v:=.int .i64 h.k) (w':=w.setRow g (cur.toList.take off++us.take (h.k*(z+1))++cur.toList.drop (off+(us.take (h.k*(z+1))).length)).toArray) ?_ ⟨φ,dY gb (.rep (.val _)) e9⟩
     have KM:Nat.min m dl=h.k:=QE
     unfold execOp
     simp [ho,resolve,invoke,builtin,Builtin.copy_,run_underlying hu,hv,Fy.len,KM,Rq,dP,dS,goInt]
    ·cases hr
   ·cases hr
  ·cases hr
 ·cases hr
end
inductive ib (S:Nat->Prop) (w:World):Value->AV->List Nat->Prop
 | rep {v:Value} {x:AV} (h:cB S w v x):ib S w v x []
 | nil (e:Nat):ib S w (.slice none 0 0) (.own e []) []
 | own (g l c e:Nat) (row:List AV) (cur:Array Value) (te:TypeId) (fr:Nat×Nat) (hg:w.heap[g]?=some (.cells cur te fr)) (hf:∀j,j<cur.size-> ¬(fr.1≤j∧j<fr.2)) (hl:row.length=e*l) (hc:l≤c) (hm:c≤maxLen) (hs:cur.size=e*c)
   (h:∀(j:Nat) u x,cur[j]?=some u->row[j]?=some x->cB S w u x):ib S w (.slice (some ⟨g,0,none⟩) l c) (.own e row) [g]
 | box (g:Nat) (row:List AV) (cur:Array Value) (te:TypeId) (fr:Nat×Nat) (hg:w.heap[g]?=some (.cells cur te fr)) (hf:∀j,j<cur.size-> ¬(fr.1≤j∧j<fr.2)) (hs:cur.size=row.length)
   (h:∀(j:Nat) u x,cur[j]?=some u->row[j]?=some x->cB S w u x):ib S w (.pointer (some ⟨g,0,none⟩)) (.box row) [g]
inductive kY (R:Value->AV->List Nat->Prop):List Value->List AV->List Nat->Prop
 | nil:kY R [] [] []
 | cons {v:Value} {x:AV} {vs:List Value} {xs:List AV} {O1 O2:List Nat} (h:R v x O1) (t:kY R vs xs O2):kY R (v::vs) (x::xs) (O1++O2)
def nU (S:Nat->Prop) (w:World) (v:Value) (x:AV) (O:List Nat):Prop:=ib S w v x O∨ ∃vs cs,v= .agg (List.toArray vs)∧x= .agg cs∧kY (ib S w) vs cs O
def sQ (S:Nat->Prop) (w:World) (v:Value) (x:AV) (O:List Nat):Prop:=nU S w v x O∨ ∃vs cs,v= .tuple (List.toArray vs)∧x= .bt cs∧kY (nU S w) vs cs O
theorem kY.imp {R R':Value->AV->List Nat->Prop} (hR:∀v x O,R v x O->R' v x O) {vs:List Value} {xs:List AV} {O:List Nat} (h:kY R vs xs O):kY R' vs xs O:=by
 induction h with
 | nil=>exact .nil
 | cons h _ ih=>exact .cons (hR _ _ _ h) ih
section
variable {S S':Nat->Prop} {w:World}
theorem ib.mono (hS:∀b,S b->S' b) {v:Value} {x:AV} {O:List Nat} (h:ib S w v x O):ib S' w v x O:=by
 cases h with
 | rep h=>exact .rep (h.mono fun b hb=>⟨hS b hb,rfl⟩)
 | nil e=>exact .nil e
 | own g l c e row cur te fr hg hf hl hc hm hs h=>exact .own g l c e row cur te fr hg hf hl hc hm hs fun j u x hu hx=>(h j u x hu hx).mono fun b hb=>⟨hS b hb,rfl⟩
 | box g row cur te fr hg hf hs h=>exact .box g row cur te fr hg hf hs fun j u x hu hx=>(h j u x hu hx).mono fun b hb=>⟨hS b hb,rfl⟩
theorem nU.mono (hS:∀b,S b->S' b) {v:Value} {x:AV} {O:List Nat} (h:nU S w v x O):nU S' w v x O:=by
 rcases h with h|⟨vs,cs,h1,h2,h3⟩
 ·exact .inl (h.mono hS)
 ·exact .inr ⟨vs,cs,h1,h2,h3.imp fun _ _ _ h=>h.mono hS⟩
theorem sQ.mono (hS:∀b,S b->S' b) {v:Value} {x:AV} {O:List Nat} (h:sQ S w v x O):sQ S' w v x O:=by
 rcases h with h|⟨vs,cs,h1,h2,h3⟩
 ·exact .inl (h.mono hS)
 ·exact .inr ⟨vs,cs,h1,h2,h3.imp fun _ _ _ h=>h.mono hS⟩
end
def bL (P:Program) (f:FuncId) (args:List AV) (r:AV):Prop :=
 ∀(w:World) (S:Nat->Prop) (vs:List Value),Good w->(∀b,S b->b<w.heap.size)->vs.length=args.length->(∀(j:Nat) v x,vs[j]?=some v->args[j]?=some x->cB S w v x) ->
  Calls P f vs.toArray w fun e w'=>∃v O,e= .returned v∧Below w.heap.size w w'∧O.Nodup∧(∀g∈O,w.heap.size≤g∧g<w'.heap.size)∧sQ (fun b=>S b∨(w.heap.size≤b∧b<w'.heap.size∧b ∉ O)) w' v r O
def ll (row:List AV):Prop:=∀x∈row,∃v,x= .val v
theorem aR (l:List UInt8):ll (ag l):=by
 intro x hx;simp only [ag,List.mem_map] at hx;obtain ⟨c,_,rfl⟩:=hx;exact ⟨_,rfl⟩
theorem gn (l:List UInt64):ll (ah l):=by
 intro x hx;simp only [ah,List.mem_map] at hx;obtain ⟨c,_,rfl⟩:=hx;exact ⟨_,rfl⟩
theorem vU (l:List Int):ll (ax l):=by
 intro x hx;simp only [ax,List.mem_map] at hx;obtain ⟨c,_,rfl⟩:=hx;exact ⟨_,rfl⟩
def wQ:AV->Option (List Prop)
 | .val _=>some []
 | .nil=>some []
 | .own _ row=>some [ll row]
 | .box row=>some [ll row]
 | _=>none
def qg (f:AV->Option (List Prop)):List AV->Option (List Prop)
 | []=>some []
 | x::l=>match f x,qg f l with|some a,some b=>some (a++b)|_,_=>none
def uV:AV->Option (List Prop)
 | .agg cs=>qg wQ cs
 | x=>wQ x
def flat:AV->Option (List Prop)
 | .bt cs=>qg uV cs
 | x=>uV x
theorem bP {C D:List Prop}:bz (C++D)↔bz C∧bz D:=by
 induction C with
 | nil=>simp [bz]
 | cons p C ih=>simp only [List.cons_append,bz,ih,and_assoc]
section
variable {S S':Nat->Prop} {w:World}
theorem uW {v:Value} {x:AV} {O:List Nat} {C:List Prop} (hf:wQ x=some C) (hC:bz C) (h:ib S w v x O):ib S' w v x O:=by
 cases h with
 | rep h=>cases h with
  | val v=>exact .rep (.val v)
  | nil=>exact .rep .nil
  | _=>cases hf
 | nil e=>exact .nil e
 | own g l c e row cur te fr hg gy hl hc hm hs h =>
  refine .own g l c e row cur te fr hg gy hl hc hm hs fun j u x hu hx=>?_
  have hv:ll row:=by injection hf with hf;subst hf;exact hC.1
  obtain ⟨v',rfl⟩:=hv x (List.mem_of_getElem? hx)
  have:=h j u _ hu hx
  cases this
  exact .val _
 | box g row cur te fr hg gy hs h =>
  refine .box g row cur te fr hg gy hs fun j u x hu hx=>?_
  have hv:ll row:=by injection hf with hf;subst hf;exact hC.1
  obtain ⟨v',rfl⟩:=hv x (List.mem_of_getElem? hx)
  have:=h j u _ hu hx
  cases this
  exact .val _
theorem A5 {R R':Value->AV->List Nat->Prop} {f:AV->Option (List Prop)} (hR:∀v x O C,f x=some C->bz C->R v x O->R' v x O) {vs:List Value} {xs:List AV} {O:List Nat} (h:kY R vs xs O):∀C,qg f xs=some C->bz C->kY R' vs xs O:=by
 induction h with
 | nil=>intro _ _ _;exact .nil
 | cons h _ ih =>
  intro C hf hC
  simp only [qg] at hf
  split at hf
  ·rename_i a b ha hb
   cases hf
   obtain ⟨h1,h2⟩:=bP.1 hC
   exact .cons (hR _ _ _ _ ha h1 h) (ih b hb h2)
  ·cases hf
theorem uU {v:Value} {x:AV} {O:List Nat} {C:List Prop} (hf:uV x=some C) (hC:bz C) (h:nU S w v x O):nU S' w v x O:=by
 rcases h with h|⟨vs,cs,h1,rfl,h3⟩
 ·by_cases hx:∃cs,x= .agg cs
  ·obtain ⟨cs,rfl⟩:=hx
   cases h with
   | rep h=>cases h with
    | agg vs _ hl h =>
     right
     refine ⟨vs,cs,rfl,rfl,?_⟩
     have key:∀(vs:List Value) (cs:List AV) (C:List Prop),vs.length=cs.length->(∀(j:Nat) v c,vs[j]?=some v->cs[j]?=some c->cB S w v c)->qg wQ cs=some C->bz C->kY (ib S' w) vs cs []:=by
      intro vs cs
      induction cs generalizing vs with
      | nil=>intro C hl _ _ _;cases vs with|nil=>exact .nil|cons=>simp at hl
      | cons c cs ih =>
       intro C hl hr hf hC
       cases vs with
       | nil=>simp at hl
       | cons v vs =>
        simp only [qg] at hf
        split at hf
        ·rename_i a b ha hb
         cases hf
         obtain ⟨h1,h2⟩:=bP.1 hC
         exact kY.cons (O1:=[]) (O2:=[]) (uW ha h1 (.rep (hr 0 v c rfl rfl))) (ih vs b (by simpa using hl) (fun j v c hv hc=>hr (j+1) v c (by simpa using hv) (by simpa using hc)) hb h2)
        ·cases hf
     exact key vs cs C hl h hf hC
  ·have:uV x=wQ x:=by
    cases x with
    | agg cs=>exact absurd ⟨cs,rfl⟩ hx
    | _=>rfl
   rw [this] at hf
   exact .inl (uW hf hC h)
 ·exact .inr ⟨vs,cs,h1,rfl,A5 (f:=wQ) (R':=ib S' w) (fun _ _ _ _ a b c=>uW a b c) h3 C hf hC⟩
theorem tc {v:Value} {x:AV} {O:List Nat} {C:List Prop} (hf:flat x=some C) (hC:bz C) (h:sQ S w v x O):sQ S' w v x O:=by
 rcases h with h|⟨vs,cs,h1,rfl,h3⟩
 ·by_cases hx:∃cs,x= .bt cs
  ·obtain ⟨cs,rfl⟩:=hx
   rcases h with h|⟨vs,JV,h1,h2,h3⟩
   ·cases h with
    | rep h=>cases h with
     | bt vs _ hl h =>
      right
      refine ⟨vs,cs,rfl,rfl,?_⟩
      have key:∀(vs:List Value) (cs:List AV) (C:List Prop),vs.length=cs.length->(∀(j:Nat) v c,vs[j]?=some v->cs[j]?=some c->cB S w v c)->qg uV cs=some C->bz C->kY (nU S' w) vs cs []:=by
       intro vs cs
       induction cs generalizing vs with
       | nil=>intro C hl _ _ _;cases vs with|nil=>exact .nil|cons=>simp at hl
       | cons c cs ih =>
        intro C hl hr hf hC
        cases vs with
        | nil=>simp at hl
        | cons v vs =>
         simp only [qg] at hf
         split at hf
         ·rename_i a b ha hb
          cases hf
          obtain ⟨h1,h2⟩:=bP.1 hC
          exact kY.cons (O1:=[]) (O2:=[]) (uU ha h1 (.inl (.rep (hr 0 v c rfl rfl)))) (ih vs b (by simpa using hl) (fun j v c hv hc=>hr (j+1) v c (by simpa using hv) (by simpa using hc)) hb h2)
         ·cases hf
      exact key vs cs C hl h hf hC
   ·cases h2
  ·have:flat x=uV x:=by
    cases x with
    | bt cs=>exact absurd ⟨cs,rfl⟩ hx
    | _=>rfl
   rw [this] at hf
   exact .inl (uU hf hC h)
 ·exact .inr ⟨vs,cs,h1,rfl,A5 (f:=uV) (R':=nU S' w) (fun _ _ _ _ a b c=>uU a b c) h3 C hf hC⟩
end
def jq (id:Nat):AV->AV×List (Nat×Row)
 | .own e row=>(.ref id,[(id,⟨e,true,false,row⟩)])
 | .box row=>(.addr id 0,[(id,⟨1,false,true,row⟩)])
 | x=>(x,[])
def gT (f:Nat->AV->AV×List (Nat×Row)) (step:Nat):Nat->List AV->List AV×List (Nat×Row)
 | _,[]=>([],[])
 | id,x::l=>((f id x).1::(gT f step (id+step) l).1,(gT f step (id+step) l).2++(f id x).2)
def wZ (id:Nat):AV->AV×List (Nat×Row)
 | .agg cs=>(.agg (gT jq 100000 (id+100000) cs).1,(gT jq 100000 (id+100000) cs).2)
 | x=>jq id x
def cy (d:Nat):AV->AV×List (Nat×Row)
 | .bt cs=>(.bt (gT wZ 1000 (d+1000) cs).1,(gT wZ 1000 (d+1000) cs).2)
 | x=>wZ d x
section
variable {S0:bo} {w0 w:World} {n:Nat} {a:Act}
def Ext (S0:bo) (w:World) (s s':AS) (φ cE:Nat->Option Nat) (O O':List Nat):Prop :=
 (∀i y,az s.H φ i=some y->az s'.H cE i=some y)∧(∀b,aM S0 w φ O b->aM S0 w cE O' b)
theorem Ext.den {s s':AS} {φ cE:Nat->Option Nat} {O O':List Nat} (h:Ext S0 w s s' φ cE O O') {v:Value} {x:AV} (hd:Den (az s.H φ) (aM S0 w φ O) w v x):Den (az s'.H cE) (aM S0 w cE O') w v x :=
 hd.mono h.1 (fun b hb=>⟨h.2 b hb,rfl⟩) (fun _ _ _ _ _=>rfl)
theorem Ext.trans {s s1 s2:AS} {φ iI j7:Nat->Option Nat} {O O1 O2:List Nat} (h:Ext S0 w s s1 φ iI O O1) (k:Ext S0 w s1 s2 iI j7 O1 O2):Ext S0 w s s2 φ j7 O O2 :=
 ⟨fun i y hi=>k.1 i y (h.1 i y hi),fun b hb=>k.2 b (h.2 b hb)⟩
def EN (S0:bo) (w0 w:World) (n:Nat) (a:Act) (R:(Nat->Prop)->Value->AV->List Nat->Prop) (f:Nat->AV->AV×List (Nat×Row)):Prop :=
 ∀(s:AS) (φ:Nat->Option Nat) (O1 O:List Nat) (v:Value) (x:AV) (id:Nat),aJ S0 w0 n (O1++O) s a w φ->R (aM S0 w φ (O1++O)) v x O1->(O1++O).Nodup->(∀g∈O1,(w0.heap.size≤g∨S0.X g)∧g<w.heap.size)->(∀i∈(f id x).2.map (·.1),look s.H i=none∧i<1000000000000)->((f id x).2.map (·.1)).Nodup ->
  ∃ cE,aJ S0 w0 n O ⟨s.F,(f id x).2++s.H⟩ a w cE∧Den (az ((f id x).2++s.H) cE) (aM S0 w cE O) w v (f id x).1∧Ext S0 w s ⟨s.F,(f id x).2++s.H⟩ φ cE (O1++O) O
theorem mh:EN S0 w0 w n a (fun S=>ib S w) jq:=by
 intro s φ O1 O v x id h hg im mD gy _
 cases hg with
 | rep b7 =>
  have hx:jq id x=(x,[]):=by
   cases b7<;>rfl
  rw [hx]
  exact ⟨φ,h,.rep b7,fun _ _ h=>h,fun _ h=>h⟩
 | nil e =>
  have hid:look s.H id=none:=(gy id (by simp [jq])).1
  have h1:=h.rK (id:=id) (r:=⟨e,true,false,[]⟩) hid rfl
  refine ⟨φ,h1,.cH id e ?_,fun i y hi=>?_,fun _ h=>h⟩
  ·show az ((id,⟨e,true,false,[]⟩)::s.H) φ id=_
   rw [bu (r:=⟨e,true,false,[]⟩) (by rw [aD,if_pos rfl]),h.only id hid];rfl
  ·obtain ⟨e',m,b⟩:=y
   obtain ⟨q,hl,h1,h2,h3⟩:=aQ hi
   show az ((id,_)::s.H) φ i=_
   have cX:id≠i:=fun e=>by subst e;rw [hid] at hl;cases hl
   rw [bu (r:=q) (by rw [aD,if_neg cX,hl]),h1,h2,h3]
 | own g l c e row cur te fr hg hf hl hc hm hs b7 =>
  have hid:look s.H id=none:=(gy id (by simp [jq])).1
  have PG:g ∉ O:=by
   have:=im
   simp only [List.cons_append,List.nil_append,List.nodup_cons] at this
   exact this.1
  have h1:=aJ.wX (g:=g) (id:=id) (r:=⟨e,true,false,row⟩) h ⟨.inl (gy id (by simp [jq])).2,(mD g (by simp)).1⟩ (mD g (by simp)).2 PG hid ⟨cur,te,fr,hg,hf,by simp only [hl,hs];exact Nat.mul_le_mul_left _ hc,fun h=>(by cases h),fun j u x hu hx=>by show cB _ _ _ _;exact b7 j u x hu hx⟩
  refine ⟨_,h1,.ref id e row.length g l c ?_ hl hc hm (by unfold aV;rw [hg];exact hs),fun i y hi=>?_,fun b hb=>(rn (h.only id hid) b).1 hb⟩
  ·show az ((id,⟨e,true,false,row⟩)::s.H) _ id=_
   rw [bu (r:=⟨e,true,false,row⟩) (by rw [aD,if_pos rfl])]
   unfold fG;rw [if_pos rfl]
  ·obtain ⟨e',m,b⟩:=y
   obtain ⟨q,hl,h1,h2,h3⟩:=aQ hi
   show az ((id,_)::s.H) _ i=_
   have cX:id≠i:=fun e=>by subst e;rw [hid] at hl;cases hl
   rw [bu (r:=q) (by rw [aD,if_neg cX,hl]),h1,h2]
   unfold fG;rw [if_neg (Ne.symm cX),h3]
 | box g row cur te fr hg hf hs b7 =>
  have hid:look s.H id=none:=(gy id (by simp [jq])).1
  have PG:g ∉ O:=by
   have:=im
   simp only [List.cons_append,List.nil_append,List.nodup_cons] at this
   exact this.1
  have h1:=aJ.wX (g:=g) (id:=id) (r:=⟨1,false,true,row⟩) h ⟨.inl (gy id (by simp [jq])).2,(mD g (by simp)).1⟩ (mD g (by simp)).2 PG hid ⟨cur,te,fr,hg,hf,by simp only [hs];exact Nat.le_refl _,fun _=>hs,fun j u x hu hx=>by show Den _ _ _ _ _;exact .rep (b7 j u x hu hx)⟩
  refine ⟨_,h1,.addr id 0 1 row.length g ?_,fun i y hi=>?_,fun b hb=>(rn (h.only id hid) b).1 hb⟩
  ·show az ((id,⟨1,false,true,row⟩)::s.H) _ id=_
   rw [bu (r:=⟨1,false,true,row⟩) (by rw [aD,if_pos rfl])]
   unfold fG;rw [if_pos rfl]
  ·obtain ⟨e',m,b⟩:=y
   obtain ⟨q,hl,h1,h2,h3⟩:=aQ hi
   show az ((id,_)::s.H) _ i=_
   have cX:id≠i:=fun e=>by subst e;rw [hid] at hl;cases hl
   rw [bu (r:=q) (by rw [aD,if_neg cX,hl]),h1,h2]
   unfold fG;rw [if_neg (Ne.symm cX),h3]
theorem kz {R:(Nat->Prop)->Value->AV->List Nat->Prop} (TE:∀S S' v x O,(∀b,S b->S' b)->R S v x O->R S' v x O) {f:Nat->AV->AV×List (Nat×Row)} (hf:EN S0 w0 w n a R f) (step:Nat):∀(xs:List AV) (vs:List Value) (s:AS) (φ:Nat->Option Nat) (O1 O:List Nat) (id:Nat),aJ S0 w0 n (O1++O) s a w φ->kY (R (aM S0 w φ (O1++O))) vs xs O1->(O1++O).Nodup->(∀g∈O1,(w0.heap.size≤g∨S0.X g)∧g<w.heap.size)->(∀i∈(gT f step id xs).2.map (·.1),look s.H i=none∧i<1000000000000)->((gT f step id xs).2.map (·.1)).Nodup ->
  ∃ cE,aJ S0 w0 n O ⟨s.F,(gT f step id xs).2++s.H⟩ a w cE∧vs.length=(gT f step id xs).1.length∧(∀(j:Nat) v c,vs[j]?=some v->(gT f step id xs).1[j]?=some c->Den (az ((gT f step id xs).2++s.H) cE) (aM S0 w cE O) w v c)∧Ext S0 w s ⟨s.F,(gT f step id xs).2++s.H⟩ φ cE (O1++O) O
 | [],vs,s,φ,O1,O,id,h,hg,im,mD,gy,hn=>by
  cases hg
  exact ⟨φ,h,rfl,fun j v c hv=>by simp at hv,fun _ _ h=>h,fun _ h=>h⟩
 | x::xs,vs,s,φ,O1,O,id,h,hg,im,mD,gy,hn=>by
  cases hg with
  | cons hx ht =>
   rename_i v vs Oa Ob
   rw [List.append_assoc] at h im hx ht
   simp only [gT,List.map_append] at gy hn ⊢
   obtain ⟨iI,h1,Gw,LY⟩:=hf s φ Oa (Ob++O) v x id h hx im (fun g hg=>mD g (by simp [hg])) (fun i hi=>gy i (by simp [hi])) (List.nodup_append.1 hn).2.1
   have RC:(Ob++O).Nodup:=(List.nodup_append.1 im).2.1
   obtain ⟨j7,h2,Cq,y2,KU⟩:=kz TE hf step xs vs ⟨s.F,(f id x).2++s.H⟩ iI Ob O (id+step) h1 (ht.imp fun v x O hR=>TE _ _ v x O (fun b hb=>LY.2 b hb) hR) RC (fun g hg=>mD g (by simp [hg])) (fun i hi=>⟨by
    rw [bM]
    have h3:look (f id x).2 i=none:=by
     have gh:i ∉ (f id x).2.map (·.1):=fun hm=>(List.nodup_append.1 hn).2.2 i hi i hm rfl
     have key:∀(l:List (Nat×Row)),i ∉ l.map (·.1)->look l i=none:=by
      intro l
      induction l with
      | nil=>intro _;rfl
      | cons p l ih =>
       intro hm
       obtain ⟨k,r⟩:=p
       simp only [List.map_cons,List.mem_cons,not_or] at hm
       rw [aD,if_neg (Ne.symm hm.1),ih hm.2]
     exact key _ gh
    rw [h3,(gy i (by simp [hi])).1];rfl,(gy i (by simp [hi])).2⟩) (List.nodup_append.1 hn).1
   have e1:(gT f step (id+step) xs).2++((f id x).2++s.H)=((gT f step (id+step) xs).2++(f id x).2)++s.H:=by rw [List.append_assoc]
   rw [e1] at h2 y2 KU
   rw [List.append_assoc Oa Ob O]
   refine ⟨j7,h2,by simp [Cq],fun j v' c hv hc=>?_,LY.trans KU⟩
   cases j with
   | zero=>simp at hv hc;subst hv;subst hc;exact KU.den Gw
   | succ j=>exact y2 j v' c (by simpa using hv) (by simpa using hc)
theorem qH:EN S0 w0 w n a (fun S=>nU S w) wZ:=by
 intro s φ O1 O v x id h hg im mD gy hn
 rcases hg with hg|⟨vs,cs,rfl,rfl,hL⟩
 ·by_cases hx:∃cs,x= .agg cs
  ·obtain ⟨cs,rfl⟩:=hx
   cases hg with
   | rep b7=>cases b7 with
    | agg vs _ hl b7 =>
     have hL:kY (ib (aM S0 w φ ([]++O)) w) vs cs []:=by
      have key:∀(vs:List Value) (cs:List AV),vs.length=cs.length->(∀(j:Nat) v c,vs[j]?=some v->cs[j]?=some c->cB (aM S0 w φ ([]++O)) w v c)->kY (ib (aM S0 w φ ([]++O)) w) vs cs []:=by
       intro vs cs
       induction cs generalizing vs with
       | nil=>intro hl _;cases vs with|nil=>exact .nil|cons=>simp at hl
       | cons c cs ih =>
        intro hl hr
        cases vs with
        | nil=>simp at hl
        | cons v vs=>exact kY.cons (O1:=[]) (O2:=[]) (.rep (hr 0 v c rfl rfl)) (ih vs (by simpa using hl) fun j v c hv hc=>hr (j+1) v c (by simpa using hv) (by simpa using hc))
      exact key vs cs hl b7
     obtain ⟨cE,h1,h2,h3,h4⟩:=kz (R:=fun S=>ib S w) (fun S S' v x O hS h=>h.mono hS) mh 100000 cs vs s φ [] O (id+100000) h hL im mD gy hn
     exact ⟨cE,h1,.agg vs _ h2 h3,h4⟩
  ·have:wZ id x=jq id x:=by
    cases x with
    | agg cs=>exact absurd ⟨cs,rfl⟩ hx
    | _=>rfl
   rw [this] at gy hn ⊢
   exact mh s φ O1 O v x id h hg im mD gy hn
 ·obtain ⟨cE,h1,h2,h3,h4⟩:=kz (R:=fun S=>ib S w) (fun S S' v x O hS h=>h.mono hS) mh 100000 cs vs s φ O1 O (id+100000) h hL im mD gy hn
  exact ⟨cE,h1,.agg vs _ h2 h3,h4⟩
theorem vX:EN S0 w0 w n a (fun S=>sQ S w) cy:=by
 intro s φ O1 O v x id h hg im mD gy hn
 rcases hg with hg|⟨vs,cs,rfl,rfl,hL⟩
 ·by_cases hx:∃cs,x= .bt cs
  ·obtain ⟨cs,rfl⟩:=hx
   rcases hg with hg|⟨vs,JV,h1,h2,h3⟩
   ·cases hg with
    | rep b7=>cases b7 with
     | bt vs _ hl b7 =>
      have hL:kY (nU (aM S0 w φ ([]++O)) w) vs cs []:=by
       have key:∀(vs:List Value) (cs:List AV),vs.length=cs.length->(∀(j:Nat) v c,vs[j]?=some v->cs[j]?=some c->cB (aM S0 w φ ([]++O)) w v c)->kY (nU (aM S0 w φ ([]++O)) w) vs cs []:=by
        intro vs cs
        induction cs generalizing vs with
        | nil=>intro hl _;cases vs with|nil=>exact .nil|cons=>simp at hl
        | cons c cs ih =>
         intro hl hr
         cases vs with
         | nil=>simp at hl
         | cons v vs=>exact kY.cons (O1:=[]) (O2:=[]) (.inl (.rep (hr 0 v c rfl rfl))) (ih vs (by simpa using hl) fun j v c hv hc=>hr (j+1) v c (by simpa using hv) (by simpa using hc))
       exact key vs cs hl b7
      obtain ⟨cE,h1,h2,h3,h4⟩:=kz (R:=fun S=>nU S w) (fun S S' v x O hS h=>h.mono hS) qH 1000 cs vs s φ [] O (id+1000) h hL im mD gy hn
      exact ⟨cE,h1,.bt vs _ h2 h3,h4⟩
   ·cases h2
  ·have:cy id x=wZ id x:=by
    cases x with
    | bt cs=>exact absurd ⟨cs,rfl⟩ hx
    | _=>rfl
   rw [this] at gy hn ⊢
   exact qH s φ O1 O v x id h hg im mD gy hn
 ·obtain ⟨cE,h1,h2,h3,h4⟩:=kz (R:=fun S=>nU S w) (fun S S' v x O hS h=>h.mono hS) qH 1000 cs vs s φ O1 O (id+1000) h hL im mD gy hn
  exact ⟨cE,h1,.bt vs _ h2 h3,h4⟩
def a8:AS->List Nat->AS
 | s,[]=>s
 | s,i::l=>a8 (ck i s) l
theorem ka:∀(l:List Nat) (s:AS) (φ:Nat->Option Nat) (O:List Nat),aJ S0 w0 n O s a w φ-> ∃ cE,aJ S0 w0 n O (a8 s l) a w cE∧(∀b,aM S0 w φ O b->aM S0 w cE O b)∧(∀i,look s.H i=none∨i∈l->look (a8 s l).H i=none)
 | [],s,φ,O,h=>⟨φ,h,fun _ h=>h,fun i hi=>hi.resolve_right (by simp)⟩
 | i::l,s,φ,O,h=>by
  have h1:aJ S0 w0 n O (ck i s) a w (erase φ i):=by
   cases cm:φ i with
   | none=>exact h.jw i O (by rw [cm])
   | some g=>exact (h.jw i (g::O) (by rw [cm])).uT
  obtain ⟨cE,h2,h3,h4⟩:=ka l _ _ _ h1
  refine ⟨cE,h2,fun b hb=>h3 b ⟨hb.1,hb.2.1,fun j hj=>?_,hb.2.2.2⟩,fun j hj=>h4 j ?_⟩
  ·unfold erase at hj
   split at hj
   ·cases hj
   ·exact hb.2.2.1 j hj
  ·by_cases e:j=i
   ·subst e;exact .inl (dq j)
   ·rcases hj with hj|hj
    ·exact .inl (pY i j hj)
    ·rcases List.mem_cons.1 hj with h|h
     ·exact absurd h e
     ·exact .inr h
theorem nR:∀(O' O:List Nat) (s:AS) (φ:Nat->Option Nat),aJ S0 w0 n O s a w φ->(∀g∈O',w.heap.size≤g)->aJ S0 w0 n (O'++O) s a w φ
 | [],O,s,φ,h,_=>h
 | g::O',O,s,φ,h,hg=>(nR O' O s φ h fun g hm=>hg g (by simp [hm])).await g (hg g (by simp))
end
def nodupB:List Nat->Bool
 | []=>true
 | i::l=>match l.any (Nat.beq i),Nat.ble i 999999999999 with|false,true=>nodupB l|_,_=>false
theorem iC:∀ {l:List Nat},nodupB l=true->l.Nodup
 | [],_=>List.nodup_nil
 | i::l,h=>by
  simp only [nodupB] at h
  split at h
  ·rename_i hn _
   rw [List.nodup_cons]
   refine ⟨fun hm=>?_,iC h⟩
   have:l.any (Nat.beq i)=true:=List.any_eq_true.2 ⟨i,hm,Nat.beq_refl i⟩
   rw [hn] at this;cases this
  ·cases h
theorem qX:∀ {l:List Nat},nodupB l=true-> ∀i∈l,i<1000000000000
 | [],_,i,h=>by cases h
 | j::l,h,i,hi=>by
  simp only [nodupB] at h
  split at h
  ·rename_i _ hb
   rcases List.mem_cons.1 hi with rfl|hi
   ·have:=Nat.le_of_ble_eq_true hb;omega
   ·exact qX h i hi
  ·cases h
def jR (s:AS):List AV->Option (List AV)
 | []=>some []
 | x::l=>match view s x,jR s l with|some y,some m=>some (y::m)|_,_=>none
def xr:AV->Bool
 | .agg cs=>d_ cs
 | .arr _=>true
 | x=>ig x
def lA:List AV->Bool
 | []=>true
 | x::l=>match xr x with|true=>lA l|false=>false
def ie (P : Program) (f : FuncId) : Bool := match P.funcs[f]? with | some fn => fn.body.isSome && !(fn.name == "runtime.NumGoroutine") | none => false
theorem pb {P:Program} {f:FuncId} (h:ie P f=true) (args:Array Value) (w:World):(callFunc f args).run P w= .ok (.enter f args) w:=by
 unfold ie at h
 split at h
 ·rename_i fn hf
  simp only [Bool.and_eq_true,Bool.not_eq_true',Option.isSome_iff_exists] at h
  obtain ⟨⟨c,hc⟩,hn⟩:=h
  have sE : ¬ fn.name = "runtime.NumGoroutine" := by simpa using hn
  simp [callFunc,hf,hc,sE]
 ·cases h
def callee (s:AS):Callee->Option FuncId
 | .value (.func f)=>some f
 | .value x=>(match bq s x with| .val (.func (.func f) ⟨[]⟩ ⟨[]⟩)=>some f|_=>none)
 | _=>none
def rA (P:Program) (n:Nat) (s:AS) (d:Option Nat) (c:Callee) (args:List Operand) (h:Hint):Option (AS×List Prop) :=
 match callee s c,h.av with
 | some f,some r=>(match ie P f with
  | true=>(match h.b with
   | true=>(match jR s (args.map (bq s)),flat r,d with
    | some vs,some C,some d=>(match nodupB ((cy d r).2.map (·.1)),gG n ⟨(a8 s ((cy d r).2.map (·.1))).F,(cy d r).2++(a8 s ((cy d r).2.map (·.1))).H⟩ (some d) (cy d r).1 with
     | true,some s'=>some (s',bL P f vs r::C)
     | _,_=>none)
    | some vs,some C,none=>some (s,bL P f vs r::C)
    | _,_,_=>none)
   | false=>(match gg s ((args.map (bq s)).flatMap p8) with
    | some s1=>(match lA (args.map (bq s1)),d with
     | true,some d=>(match nodupB ((cy d r).2.map (·.1)),gG n ⟨(a8 s1 ((cy d r).2.map (·.1))).F,(cy d r).2++(a8 s1 ((cy d r).2.map (·.1))).H⟩ (some d) (cy d r).1 with
      | true,some s'=>some (s',[bL P f (args.map (bq s1)) r])
      | _,_=>none)
     | true,none=>some (s1,[bL P f (args.map (bq s1)) r])
     | _,_=>none)
    | none=>none))
  | false=>none)
 | _,_=>none
section
variable {P:Program} {n:Nat} {s:AS} {o:Oper} {h:Hint} {q:AS×List Prop}
theorem lO {S0:bo} {w0 w:World} {O:List Nat} {a:Act} {φ:Nat->Option Nat} (hs:aJ S0 w0 n O s a w φ):∀(xs:List Operand) (ys:List AV),jR s (xs.map (bq s))=some ys->ys.length=xs.length∧ ∀(j:Nat) v y,(xs.map a.eval)[j]?=some v->ys[j]?=some y->cB (fun b=>b<w.heap.size) w v y
 | [],ys,h=>by cases h;exact ⟨rfl,fun j v y hv=>by simp at hv⟩
 | x::xs,ys,h=>by
  simp only [List.map_cons,jR] at h
  split at h
  ·rename_i y m hy hm
   cases h
   obtain ⟨h1,h2⟩:=lO hs xs m hm
   refine ⟨by simp [h1],fun j v y' hv Rg=>?_⟩
   cases j with
   | zero=>simp at hv Rg;subst hv;subst Rg;exact xa hs (hs.bq x) hy
   | succ j=>exact h2 j v y' (by simpa using hv) (by simpa using Rg)
  ·cases h
theorem nW {I:Info} {S:Nat->Prop} {w:World} {v:Value} {x:AV} (hd:Den I S w v x) (hr:xr x=true):cB S w v x:=by
 by_cases hc:∃cs,x= .agg cs
 ·obtain ⟨cs,rfl⟩:=hc
  obtain ⟨vs,rfl,hl,hd⟩:=kj hd
  exact .agg vs cs hl fun j v c hv hc=>(eK (hd j v c hv hc) (iA hr hc)).1
 ·by_cases ha:∃cs,x= .arr cs
  ·obtain ⟨cs,rfl⟩:=ha
   obtain ⟨vs,rfl,hl,hd⟩:=qp hd
   exact .arr vs cs hl hd
  ·have:xr x=ig x:=by
    cases x with
    | agg cs=>exact absurd ⟨cs,rfl⟩ hc
    | arr cs=>exact absurd ⟨cs,rfl⟩ ha
    | _=>rfl
   rw [this] at hr
   exact (eK hd hr).1
theorem lU:∀ {l:List AV} {j:Nat} {x:AV},lA l=true->l[j]?=some x->xr x=true
 | [],j,x,_,h=>by simp at h
 | y::l,j,x,hp,h=>by
  simp only [lA] at hp
  split at hp
  ·rename_i hy
   cases j with
   | zero=>simp at h;subst h;exact hy
   | succ j=>exact lU hp (by simpa using h)
  ·cases hp
theorem jo {S0:bo} {w0 w:World} {O:List Nat} {a:Act} {φ:Nat->Option Nat} (hs:aJ S0 w0 n O s a w φ) {c:Callee} {f:FuncId} (hc:callee s c=some f) {xs:Array Operand} {ts:Array TypeId} (ho:o.op= .call ⟨c,xs,ts⟩) (hE:ie P f=true) :
  (execOp a.eval o).run P w= .ok (.enter f (xs.map a.eval)) w:=by
 have key:∃x,c= .value x∧a.eval x= .func (.func f) #[] #[]:=by
  unfold callee at hc
  split at hc
  ·cases hc;exact ⟨_,rfl,rfl⟩
  ·rename_i x _
   split at hc
   ·rename_i f' he
    cases hc
    exact ⟨x,rfl,bK (he ▸ hs.bq x)⟩
   ·cases hc
  ·cases hc
 obtain ⟨x,rfl,hx⟩:=key
 unfold execOp
 simp [ho,resolve,hx,Deferred.ofValue,invoke,pb hE]
theorem vl {S0:bo} {w0 w:World} {a:Act} {φ:Nat->Option Nat} {Q:Exit->Act->World->Prop} (hs:aJ S0 w0 n [] s a w φ) {f:FuncId} {us:List Value} (cp:(execOp a.eval o).run P w= .ok (.enter f us.toArray) w) {S:Nat->Prop} {args:List AV} {r:AV} (nE:bL P f args r) (hS:∀b,S b->b<w.heap.size) (hl:us.length=args.length) (iD:∀(j:Nat) v x,us[j]?=some v->args[j]?=some x->cB S w v x)
  (hG:∀w' v O,Below w.heap.size w w'->(∀g∈O,w.heap.size≤g∧g<w'.heap.size)->sQ (fun b=>S b∨(w.heap.size≤b∧b<w'.heap.size∧b ∉ O)) w' v r O->sQ (aM S0 w' φ O) w' v r O) {s':AS}
  (hd:(∃d,o.dst=some d∧nodupB ((cy d r).2.map (·.1))=true∧gG n ⟨(a8 s ((cy d r).2.map (·.1))).F,(cy d r).2++(a8 s ((cy d r).2.map (·.1))).H⟩ (some d) (cy d r).1=some s')∨(o.dst=none∧s'=s)) :
  o.wp P a w (fun a' w'=>iv S0 w0 n s' a' w') Q:=by
 unfold Oper.wp
 rw [cp]
 have mU:=nE w S us hs.cZ.mH hS hl iD
 refine mU.mono ?_
 rintro en w' ⟨v,O,rfl,hb,im,mD,uH⟩
 show iv S0 w0 n s' (a.put o.dst v) w'
 have uH:=hG w' v O hb mD uH
 have h1:=nR O [] s φ hs (fun g hg=>(mD g hg).1)
 rw [List.append_nil] at h1
 have h2:=h1.vW (fun g hg=>.inl (Nat.le_trans hs.cZ.size (mD g hg).1)) hb.os hb.tape hb.output hb.size (fun b JR _=>hb.block b JR)
 rcases hd with ⟨d,hd,yZ,e9⟩|⟨hd,rfl⟩
 ·obtain ⟨j7,h3,hF,Ih⟩:=ka ((cy d r).2.map (·.1)) s φ O h2
  have Vp:aJ S0 w0 n (O++ []) (a8 s ((cy d r).2.map (·.1))) a w' j7:=by rw [List.append_nil];exact h3
  obtain ⟨w7,h4,h5,h6⟩:=vX (a8 s ((cy d r).2.map (·.1))) j7 O [] v r d Vp (by rw [List.append_nil];exact uH.mono hF) (by rw [List.append_nil];exact im) (fun g hg=>⟨.inl (Nat.le_trans hs.cZ.size (mD g hg).1),(mD g hg).2⟩) (fun i hi=>⟨Ih i (.inr hi),qX yZ i hi⟩) (iC yZ)
  rw [hd]
  exact ⟨w7,dY h4 h5 e9⟩
 ·rw [hd]
  have key:∀(O:List Nat),aJ S0 w0 n O s' a w' φ->aJ S0 w0 n [] s' a w' φ:=by
   intro O
   induction O with
   | nil=>exact fun h=>h
   | cons g O ih=>exact fun h=>ih h.uT
  have h3:=key O h2
  exact ⟨φ,⟨h3.jQ,h3.jT,h3.cZ,h3.cG,h3.rows,h3.only,h3.inj,h3.cY,h3.apart,h3.new⟩⟩
theorem tj {S0:bo} {w0 w:World} {a:Act} {φ:Nat->Option Nat} {Q:Exit->Act->World->Prop} (hs:aJ S0 w0 n [] s a w φ) {f:FuncId} {xs:Array Operand} (cp:(execOp a.eval o).run P w= .ok (.enter f (xs.map a.eval)) w) {S:Nat->Prop} {args:List AV} {r:AV} (nE:bL P f args r) (hS:∀b,S b->b<w.heap.size) (hl:args.length=xs.toList.length) (iD:∀(j:Nat) v x,(xs.toList.map a.eval)[j]?=some v->args[j]?=some x->cB S w v x)
  (hG:∀w' v O,Below w.heap.size w w'->(∀g∈O,w.heap.size≤g∧g<w'.heap.size)->sQ (fun b=>S b∨(w.heap.size≤b∧b<w'.heap.size∧b ∉ O)) w' v r O->sQ (aM S0 w' φ O) w' v r O) {s':AS}
  (hd:(∃d,o.dst=some d∧nodupB ((cy d r).2.map (·.1))=true∧gG n ⟨(a8 s ((cy d r).2.map (·.1))).F,(cy d r).2++(a8 s ((cy d r).2.map (·.1))).H⟩ (some d) (cy d r).1=some s')∨(o.dst=none∧s'=s)) :
  o.wp P a w (fun a' w'=>iv S0 w0 n s' a' w') Q:=by
 have e:(xs.toList.map a.eval).toArray=xs.map a.eval:=by apply Array.ext';simp
 exact vl hs (us:=xs.toList.map a.eval) (by rw [e];exact cp) nE hS (by simp [hl]) iD hG hd
theorem wT {c:Callee} {xs:Array Operand} {ts:Array TypeId} (ho:o.op= .call ⟨c,xs,ts⟩) (hr:rA P n s o.dst c xs.toList h=some q):mc P n s o q.1 q.2:=by
 intro hC S0 w0 a w Q ⟨φ,hs⟩
 unfold rA at hr
 split at hr
 ·rename_i f r hc _
  split at hr
  ·rename_i hE
   split at hr
   ·
    split at hr
    ·rename_i vs C d hv sG hd
     split at hr
     ·rename_i s' hn hp
      cases hr
      obtain ⟨nE,hC⟩:=hC
      obtain ⟨hl,b7⟩:=lO hs _ _ hv
      exact tj hs (jo hs hc ho hE) nE (S:=fun b=>b<w.heap.size) (fun _ h=>h) hl b7 (fun w' v O _ _ hg=>tc sG hC hg) (.inl ⟨d,hd,hn,hp⟩)
     ·cases hr
    ·rename_i vs C hv sG hd
     cases hr
     obtain ⟨nE,hC⟩:=hC
     obtain ⟨hl,b7⟩:=lO hs _ _ hv
     exact tj hs (jo hs hc ho hE) nE (S:=fun b=>b<w.heap.size) (fun _ h=>h) hl b7 (fun w' v O _ _ hg=>tc sG hC hg) (.inr ⟨hd,rfl⟩)
    ·cases hr
   ·split at hr
    ·rename_i s1 H5
     obtain ⟨iI,gV⟩:=fM _ _ _ _ H5 hs
     have SU:lA (xs.toList.map (bq s1))=true-> ∀(j:Nat) v x,(xs.toList.map a.eval)[j]?=some v->(xs.toList.map (bq s1))[j]?=some x->cB (aM S0 w iI []) w v x:=by
      intro xO j v x hv hx
      have MP:=lU xO hx
      rw [List.getElem?_map] at hv hx
      cases hj:xs.toList[j]? with
      | none=>rw [hj] at hv;cases hv
      | some y =>
       rw [hj] at hv hx
       injection hv with hv;injection hx with hx;subst hv;subst hx
       exact nW (gV.bq y) MP
     have hG:∀w' v O,Below w.heap.size w w'->(∀g∈O,w.heap.size≤g∧g<w'.heap.size)->sQ (fun b=>aM S0 w iI [] b∨(w.heap.size≤b∧b<w'.heap.size∧b ∉ O)) w' v r O->sQ (aM S0 w' iI O) w' v r O:=by
      intro w' v O hb mD hg
      refine hg.mono fun b kO=>?_
      rcases kO with kO|⟨h1,h2,h3⟩
      ·exact ⟨by have:=kO.1;have:=hb.size;omega,fun hm=>by have:=(mD b hm).1;have:=kO.1;omega,kO.2.2⟩
      ·exact ⟨h2,h3,fun i hi=>by have:=(gV.cY i b hi).2;omega,gV.new b (.inl (by have:=gV.cZ.size;omega))⟩
     split at hr
     ·rename_i d xO hd
      split at hr
      ·rename_i s' hn hp
       cases hr
       obtain ⟨nE,-⟩:=hC
       exact tj gV (jo hs hc ho hE) nE (fun b hb=>hb.1) (by simp) (SU xO) hG (.inl ⟨d,hd,hn,hp⟩)
      ·cases hr
     ·rename_i xO hd
      cases hr
      obtain ⟨nE,-⟩:=hC
      exact tj gV (jo hs hc ho hE) nE (fun b hb=>hb.1) (by simp) (SU xO) hG (.inr ⟨hd,rfl⟩)
     ·cases hr
    ·cases hr
  ·cases hr
 ·cases hr
def B4 (s:AS) (id:Nat):AS :=
 match look s.H id with
 | some ⟨e,false,f,cs⟩=>(match d_ cs with|true=>⟨s.F,(id,⟨e,true,f,cs⟩)::cU s.H id⟩|false=>s)
 | _=>s
theorem Fg {S0:bo} {w0 w:World} {O:List Nat} {a:Act} {φ:Nat->Option Nat} (id:Nat) (hs:aJ S0 w0 n O s a w φ):aJ S0 w0 n O (B4 s id) a w φ:=by
 unfold B4
 split
 ·rename_i e f cs hr
  split
  ·rename_i hp
   have lD:∀i,look ((id,(⟨e,true,f,cs⟩:Row))::cU s.H id) i=if id=i then some ⟨e,true,f,cs⟩ else look s.H i:=by
    intro i
    rw [aD,bH]
    by_cases e:id=i<;>simp [e]
   have hI:az ((id,(⟨e,true,f,cs⟩:Row))::cU s.H id) φ=az s.H φ:=by
    funext i
    unfold az
    rw [lD]
    by_cases e:id=i
    ·subst e;rw [if_pos rfl,hr];rfl
    ·rw [if_neg e]
   refine ⟨hs.jQ,hs.jT,hs.cZ,fun i av hi=>?_,fun i q hq=>?_,fun i hi=>?_,hs.inj,hs.cY,hs.apart,hs.new⟩
   ·simp only [hI];exact hs.cG i av hi
   ·simp only [hI]
    simp only [lD] at hq
    by_cases e:id=i
    ·subst e
     rw [if_pos rfl] at hq;injection hq with hq;subst hq
     have aN:=hs.rows id _ hr
     unfold bN at aN ⊢
     cases cm:φ id with
     | none=>rw [cm] at aN;exact aN
     | some g =>
      rw [cm] at aN
      obtain ⟨cur,te,fr,hg,hf,hl,mT,hc⟩:=aN
      exact ⟨cur,te,fr,hg,hf,hl,mT,fun j u x hu hx=>(eK (hc j u x hu hx) (iA hp hx)).1⟩
    ·rw [if_neg e] at hq;exact hs.rows i q hq
   ·simp only [lD] at hi
    by_cases e:id=i
    ·rw [if_pos e] at hi;cases hi
    ·rw [if_neg e] at hi;exact hs.only i hi
  ·exact hs
 ·exact hs
def qS:AS->List Nat->AS
 | s,[]=>s
 | s,i::l=>qS (B4 s i) l
theorem pR {S0:bo} {w0 w:World} {O:List Nat} {a:Act} {φ:Nat->Option Nat}:∀(l:List Nat) (s:AS),aJ S0 w0 n O s a w φ->aJ S0 w0 n O (qS s l) a w φ
 | [],_,h=>h
 | i::l,_,h=>pR l _ (Fg i h)
def CO (n:Nat) (s:AS) (d f:Nat) (xs:List Operand):Option (AS×List Prop) :=
 match gg (qS s ((xs.map (bq s)).flatMap p8)) ((xs.map (bq s)).flatMap p8) with
 | some s1=>(match lA (xs.map (bq s1)),gG n s1 (some d) (.lK f (xs.map (bq s1))) with|true,some s'=>some (s',[])|_,_=>none)
 | none=>none
theorem mm {S0:bo} {w0 w:World} {O:List Nat} {a:Act} {φ:Nat->Option Nat} (hs:aJ S0 w0 n O s a w φ) {xs:List Operand} (h:lA (xs.map (bq s))=true) (j:Nat) (v:Value) (x:AV) (hv:(xs.map a.eval)[j]?=some v) (hx:(xs.map (bq s))[j]?=some x):cB (aM S0 w φ O) w v x:=by
 have MP:=lU h hx
 rw [List.getElem?_map] at hv hx
 cases hj:xs[j]? with
 | none=>rw [hj] at hv;cases hv
 | some y =>
  rw [hj] at hv hx
  injection hv with hv;injection hx with hx;subst hv;subst hx
  exact nW (hs.bq y) MP
theorem FW {d f:Nat} {xs:List Operand} (ho:o.op= .makeFunc (.func f) ⟨[]⟩ ⟨xs⟩) (hd:o.dst=some d) (hr:CO n s d f xs=some q):mc P n s o q.1 q.2:=by
 intro hC S0 w0 a w Q ⟨φ,hs⟩
 unfold CO at hr
 split at hr
 ·rename_i s1 H5
  obtain ⟨iI,gV⟩:=fM _ _ _ _ H5 (pR _ _ hs)
  split at hr
  ·rename_i s' xO hp
   cases hr
   have cp:(execOp a.eval o).run P w= .ok (.value (.func (.func f) #[] (xs.map a.eval).toArray)) w:=by
    unfold execOp;simp [ho,Instr.makeFunc]
   refine cV cp ⟨iI,?_⟩
   rw [hd]
   exact dY gV (.rep (.lK f _ _ (by simp) (mm gV xO))) hp
  ·cases hr
 ·cases hr
def ym (P:Program) (n:Nat) (s:AS) (d:Option Nat) (c:Callee) (args:List Operand) (h:Hint):Option (AS×List Prop) :=
 match c,h.av,gg s ((args.map (bq s)).flatMap p8) with
 | .value x,some r,some s1=>(match bq s1 x with
  | .lK f lH=>(match ie P f,lA (args.map (bq s1)),d with
   | true,true,some d=>(match nodupB ((cy d r).2.map (·.1)),gG n ⟨(a8 s1 ((cy d r).2.map (·.1))).F,(cy d r).2++(a8 s1 ((cy d r).2.map (·.1))).H⟩ (some d) (cy d r).1 with
    | true,some s'=>some (s',[bL P f (args.map (bq s1)++lH) r])
    | _,_=>none)
   | true,true,none=>some (s1,[bL P f (args.map (bq s1)++lH) r])
   | _,_,_=>none)
  | _=>none)
 | _,_,_=>none
theorem DX {S:Nat->Prop} {I:Info} {w:World} {v:Value} {f:Nat} {cs:List AV} (h:Den I S w v (.lK f cs)):∃vs:List Value,v= .func (.func f) #[] vs.toArray∧vs.length=cs.length∧ ∀(j:Nat) v c,vs[j]?=some v->cs[j]?=some c->cB S w v c:=by
 cases h with|rep h=>cases h with|lK f vs cs hl h=>exact ⟨vs,rfl,hl,h⟩
theorem tQ {S:Nat->Prop} {w:World} {vs us:List Value} {xs ys:List AV} (hl:vs.length=xs.length) (h1:∀(j:Nat) v x,vs[j]?=some v->xs[j]?=some x->cB S w v x) (h2:∀(j:Nat) v x,us[j]?=some v->ys[j]?=some x->cB S w v x) (j:Nat) (v:Value) (x:AV) (hv:(vs++us)[j]?=some v) (hx:(xs++ys)[j]?=some x):cB S w v x:=by
 rcases Nat.lt_or_ge j vs.length with h|h
 ·rw [List.getElem?_append_left h] at hv
  rw [List.getElem?_append_left aj] at hx
  exact h1 j v x hv hx
 ·rw [List.getElem?_append_right h] at hv
  rw [List.getElem?_append_right aj,←hl] at hx
  exact h2 _ v x hv hx
theorem CZ {c:Callee} {xs:Array Operand} {ts:Array TypeId} (ho:o.op= .call ⟨c,xs,ts⟩) (hr:ym P n s o.dst c xs.toList h=some q):mc P n s o q.1 q.2:=by
 intro hC S0 w0 a w Q ⟨φ,hs⟩
 unfold ym at hr
 split at hr
 ·rename_i x r s1 _ H5
  obtain ⟨iI,gV⟩:=fM _ _ _ _ H5 hs
  split at hr
  ·rename_i f lH gm
   have dx:=gV.bq x
   rw [gm] at dx
   obtain ⟨cv,hv,R4,KX⟩:=DX dx
   have cp:ie P f=true->(execOp a.eval o).run P w= .ok (.enter f (xs.toList.map a.eval++cv).toArray) w:=by
    intro hE
    have e:(xs.toList.map a.eval++cv).toArray= #[]++xs.map a.eval++cv.toArray:=by apply Array.ext';simp
    rw [e]
    unfold execOp
    simp [ho,resolve,hv,Deferred.ofValue,invoke,pb hE]
   have hG:∀w' v O,Below w.heap.size w w'->(∀g∈O,w.heap.size≤g∧g<w'.heap.size)->sQ (fun b=>aM S0 w iI [] b∨(w.heap.size≤b∧b<w'.heap.size∧b ∉ O)) w' v r O->sQ (aM S0 w' iI O) w' v r O:=by
    intro w' v O hb mD hg
    refine hg.mono fun b kO=>?_
    rcases kO with kO|⟨h1,h2,h3⟩
    ·exact ⟨by have:=kO.1;have:=hb.size;omega,fun hm=>by have:=(mD b hm).1;have:=kO.1;omega,kO.2.2⟩
    ·exact ⟨h2,h3,fun i hi=>by have:=(gV.cY i b hi).2;omega,gV.new b (.inl (by have:=gV.cZ.size;omega))⟩
   have hlen:(xs.toList.map a.eval++cv).length=(xs.toList.map (bq s1)++lH).length:=by simp [R4]
   split at hr
   ·rename_i d hE xO hd
    split at hr
    ·rename_i s' hn hp
     cases hr
     exact vl gV (cp hE) hC.1 (fun b hb=>hb.1) hlen (tQ (by simp) (mm gV xO) KX) hG (.inl ⟨d,hd,hn,hp⟩)
    ·cases hr
   ·rename_i hE xO hd
    cases hr
    exact vl gV (cp hE) hC.1 (fun b hb=>hb.1) hlen (tQ (by simp) (mm gV xO) KX) hG (.inr ⟨hd,rfl⟩)
   ·cases hr
  ·cases hr
 ·cases hr
end
end Go.Proofs.YtjgbhhnghedgdaaGreatDoor
