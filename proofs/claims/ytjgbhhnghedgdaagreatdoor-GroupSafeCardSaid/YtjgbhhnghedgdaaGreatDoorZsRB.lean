import Derived.Test.YtjgbhhnghedgdaaGreatDoorZsRA
import Derived.Laws.StructEq
import Derived.ChangeKeysEq
set_option linter.all false
namespace Go.Proofs.YtjgbhhnghedgdaaGreatDoor
open Go.RowKit
def IC (P:Program) (eq:TypeId->List AV->List AV->Option Bool) (cs ds:List AV):List Field->Option Bool
 | []=>some true
 | f :: fs => match f.name == "_", dN P f.type, IC P eq cs ds fs with
  | false,some z,some b=>(match eq f.type ((cs.drop f.offset).take z) ((ds.drop f.offset).take z) with|some a=>some (a && b)|none=>none)
  | _,_,_=>none
def Nn (P:Program):Nat->TypeId->List AV->List AV->Option Bool
 | 0,_,_,_=>none
 | d+1,t,cs,ds=>match P.underlying t with
  | some .bool=>(match cs,ds with| [.val (.bool a)],[.val (.bool b)]=>some (a == b)|_,_=>none)
  | some (.int _)=>(match cs,ds with| [.val (.int k a)],[.val (.int k' b)]=>if k=k' then some (a == b) else none|_,_=>none)
  | some .string=>(match cs,ds with| [.val (.string a)],[.val (.string b)]=>some (a.toList == b.toList)|_,_=>none)
  | some (.struct fs)=>(match P.stoodInHeld t with|true=>none|false=>IC P (Nn P d) cs ds fs.toList)
  | _=>none
def lH (P:Program) (t:TypeId) (vs:List Value) (x:Value):Prop:=match cy P t with|true=>x= .agg vs.toArray|false=>vs= [x]
theorem lR {I:Info} {S:Nat->Prop} {w:World} {vs:List Value} {u:Value} (hl:vs.length=1) (hd:∀(j:Nat) v c,vs[j]?=some v-> [AV.val u][j]?=some c->Den I S w v c):vs= [u]:=by
 match vs,hl with
 | [v],_=>rw [bE (hd 0 v _ rfl rfl)]
section
variable {P:Program} {I:Info} {S:Nat->Prop} {w:World}
theorem tM {t:TypeId} {z:Nat} {cs:List AV} {vs:List Value} {off:Nat} (hz:dN P t=some z) (hu:∃d,P.underlying t=some d) (hl:vs.length=cs.length) (hs:cy P t=false-> ∃x,(cs.drop off).take z= [x]) :
  ∃v,(part t vs.toArray off).run P w= .ok v w∧lH P t ((vs.drop off).take z) v:=by
 cases ha:cy P t with
 | true =>
  refine ⟨.agg (vs.toArray.extract off (off+z)),?_,?_⟩
  ·simp [part,ie hu,ha,run_sizeOf hz]
  ·unfold lH;rw [ha];simp [List.extract_eq_take_drop]
 | false =>
  obtain ⟨x,hx⟩:=hs ha
  have hlen:=congrArg List.length hx
  rw [List.length_take,List.length_drop] at hlen
  simp at hlen
  have cW:off<vs.length:=ah
  refine ⟨vs[off],?_,?_⟩
  ·simp [part,ie hu,ha,cW]
  ·unfold lH;rw [ha]
   show (vs.drop off).take z= [vs[off]]
   rw [List.drop_eq_getElem_cons cW]
   obtain ⟨z',rfl⟩:∃z',z=z'+1:=⟨z-1,ah⟩
   rw [List.take_succ_cons]
   congr 1
   apply List.eq_nil_of_length_eq_zero
   rw [List.length_take,List.length_drop];omega
theorem Eb {eq:TypeId->List AV->List AV->Option Bool} {D:Nat} (heq:∀t cs ds b vs us x y,eq t cs ds=some b->vs.length=cs.length->us.length=ds.length->(∀(j:Nat) v c,vs[j]?=some v->cs[j]?=some c->Den I S w v c)->(∀(j:Nat) v c,us[j]?=some v->ds[j]?=some c->Den I S w v c)->lH P t vs x->lH P t us y->(Op.equalIn D t x y).run P w= .ok b w)
  (ui:∀t cs ds b,eq t cs ds=some b->(∃d,P.underlying t=some d)∧(cy P t=false->(∃x,cs= [x])∧ ∃x,ds= [x])) {cs ds:List AV} {vs us:List Value} (hl:vs.length=cs.length) (qP:us.length=ds.length) (hd:∀(j:Nat) v c,vs[j]?=some v->cs[j]?=some c->Den I S w v c) (Fa:∀(j:Nat) v c,us[j]?=some v->ds[j]?=some c->Den I S w v c) :
  ∀(fs:List Field) (b:Bool),IC P eq cs ds fs=some b->(Op.eqFields D vs.toArray us.toArray fs).run P w= .ok b w
 | [],b,h=>by simp [IC] at h;subst h;simp [Op.eqFields]
 | f::fs,b,h=>by
  rw [IC] at h
  split at h
  ·rename_i z b' hn hz kE
   split at h
   ·rename_i a ha
    injection h with h;subst h
    obtain ⟨hu,ho⟩:=ui _ _ _ _ ha
    obtain ⟨x,hx,px⟩:=tM (w:=w) (off:=f.offset) hz hu hl (fun h0=>(ho h0).1)
    obtain ⟨y,hy,py⟩:=tM (w:=w) (off:=f.offset) hz hu qP (fun h0=>(ho h0).2)
    have he:=heq _ _ _ _ _ _ x y ha (by rw [List.length_take,List.length_drop,List.length_take,List.length_drop,hl]) (by rw [List.length_take,List.length_drop,List.length_take,List.length_drop,qP]) (fun j v c hv hc=>hd (f.offset+j) v c (bO _ _ _ _ _ hv) (bO _ _ _ _ _ hc)) (fun j v c hv hc=>Fa (f.offset+j) v c (bO _ _ _ _ _ hv) (bO _ _ _ _ _ hc)) px py
    have sf : f.name ≠ "_" := by simpa using hn
    simp only [Op.eqFields,if_pos sf,Sem.run_bind,hx,hy,he,Result.andThen_ok]
    cases a with
    | false=>simp
    | true =>
     have:=Eb heq ui hl qP hd Fa fs b' kE
     simpa using this
   ·cases h
  ·cases h
theorem KV:∀(d:Nat) (t:TypeId) (cs ds:List AV) (b:Bool),Nn P d t cs ds=some b->(∃d,P.underlying t=some d)∧(cy P t=false->(∃x,cs= [x])∧ ∃x,ds= [x]):=by
 intro d t cs ds b h
 cases d with
 | zero=>cases h
 | succ d =>
  unfold Nn at h
  split at h
  ·rename_i hu;refine ⟨⟨_,hu⟩,fun _=>?_⟩
   split at h
   ·exact ⟨⟨_,rfl⟩,_,rfl⟩
   ·cases h
  ·rename_i hu;refine ⟨⟨_,hu⟩,fun _=>?_⟩
   split at h
   ·exact ⟨⟨_,rfl⟩,_,rfl⟩
   ·cases h
  ·rename_i hu;refine ⟨⟨_,hu⟩,fun _=>?_⟩
   split at h
   ·exact ⟨⟨_,rfl⟩,_,rfl⟩
   ·cases h
  ·rename_i hu;refine ⟨⟨_,hu⟩,fun ha=>?_⟩
   unfold cy at ha;rw [hu] at ha;cases ha
  ·cases h
theorem Nl (D:Nat):∀(d:Nat) (t:TypeId) (cs ds:List AV) (b:Bool) (vs us:List Value) (x y:Value),Nn P d t cs ds=some b->vs.length=cs.length->us.length=ds.length->(∀(j:Nat) v c,vs[j]?=some v->cs[j]?=some c->Den I S w v c)->(∀(j:Nat) v c,us[j]?=some v->ds[j]?=some c->Den I S w v c)->lH P t vs x->lH P t us y->(Op.equalIn (D+d) t x y).run P w= .ok b w:=by
 intro d
 induction d with
 | zero=>intro t cs ds b vs us x y h;cases h
 | succ d ih =>
  intro t cs ds b vs us x y h hl qP hd Fa px py
  unfold Nn at h
  split at h
  ·rename_i hu
   have ha:cy P t=false:=by unfold cy;rw [hu]
   unfold lH at px py;rw [ha] at px py
   split at h
   ·have h1:=lR hl hd
    have h2:=lR qP Fa
    rw [h1] at px;rw [h2] at py
    injection px with px;injection py with py
    injection h with h
    subst px py h
    exact run_equalIn_bool' w (D+d) t _ _ hu
   ·cases h
  ·rename_i hu
   have ha:cy P t=false:=by unfold cy;rw [hu]
   unfold lH at px py;rw [ha] at px py
   split at h
   ·have h1:=lR hl hd
    have h2:=lR qP Fa
    rw [h1] at px;rw [h2] at py
    injection px with px;injection py with py
    split at h
    ·rename_i hk
     injection h with h
     subst px py h hk
     exact run_equalIn_int w (D+d) t _ _ _ _ hu
    ·cases h
   ·cases h
  ·rename_i hu
   have ha:cy P t=false:=by unfold cy;rw [hu]
   unfold lH at px py;rw [ha] at px py
   split at h
   ·have h1:=lR hl hd
    have h2:=lR qP Fa
    rw [h1] at px;rw [h2] at py
    injection px with px;injection py with py
    injection h with h
    subst px py h
    exact run_equalIn_string w (D+d) t _ _ hu
   ·cases h
  ·rename_i fs hu
   have ha:cy P t=true:=by unfold cy;rw [hu]
   unfold lH at px py;rw [ha] at px py
   split at h
   ·cases h
   ·rename_i hp
    have hf:P.fieldsOf t=fs:=by simp [Program.fieldsOf,hu]
    simp only at px py
    subst px py
    rw [show D+(d+1)=(D+d)+1 from rfl,run_equalIn_struct w (D+d) t _ _ (by rw [hf];exact hu) hp,hf]
    exact Eb (fun t cs ds b vs us x y h1 h2 h3 h4 h5 h6 h7=>ih t cs ds b vs us x y h1 h2 h3 h4 h5 h6 h7) (KV d) hl qP hd Fa fs.toList b h
  ·cases h
end
def xM (P:Program) (op:BinOp) (t:TypeId) (cs ds:List AV):Option (AV×List Prop) :=
 match op,P.eqGuardType P.depth t,cy P t,Nn P 12 t cs ds with
 | .eql,false,true,some b=>some (.val (.bool b),[])
 | .neq,false,true,some b=>some (.val (.bool (!b)),[])
 | _,_,_,_=>none
section
variable {P:Program} {s:AS} {o:Oper} {h:Hint} {r:AV×List Prop}
theorem Cm {op:BinOp} {t t':TypeId} {x y:Operand} {cs ds:List AV} (ho:o.op= .binOp op t x y t') (hx:bj s x= .agg cs) (hy:bj s y= .agg ds) (hr:xM P op t cs ds=some r):cS P s o r.1 r.2:=by
 intro _ S0 w0 n O a w φ hs
 have dx:=hs.bj x
 have dy:=hs.bj y
 rw [hx] at dx;rw [hy] at dy
 obtain ⟨vs,ex,hl,hd⟩:=j8 dx
 obtain ⟨us,ey,qP,Fa⟩:=j8 dy
 have main:∀b,P.eqGuardType P.depth t=false->cy P t=true->Nn P 12 t cs ds=some b->(∀op,(eqGuard op t x y (a.eval x) (a.eval y)).run P w= .ok () w)∧(Op.equalIn 10000 t (.agg vs.toArray) (.agg us.toArray)).run P w= .ok b w:=by
  intro b hg ha he
  refine ⟨fun op=>by rw [ex,ey];exact run_eqGuard_agg w op t x y _ _ hg,?_⟩
  exact Nl 9988 12 t cs ds b vs us _ _ he hl qP hd Fa (by unfold lH;rw [ha]) (by unfold lH;rw [ha])
 unfold xM at hr
 split at hr
 ·rename_i hg ha he
  injection hr with hr;subst hr
  obtain ⟨h1,h2⟩:=main _ hg ha he
  refine ⟨.bool _,?_,.rep (.val _)⟩
  unfold execOp;simp only [ho,Sem.run_bind,h1,Result.andThen_ok]
  rw [ex,ey,run_eql_struct,h2];rfl
 ·rename_i hg ha he
  injection hr with hr;subst hr
  obtain ⟨h1,h2⟩:=main _ hg ha he
  refine ⟨.bool _,?_,.rep (.val _)⟩
  unfold execOp;simp only [ho,Sem.run_bind,h1,Result.andThen_ok]
  rw [ex,ey,run_neq_struct,h2];rfl
 ·cases hr
end
def Jk (k:IntKind) (n:Nat) (cs ds:List AV) (b:Bool):Prop:=∃l m:List Int,cs=l.map (fun x=>.val (.int k x))∧ds=m.map (fun x=>.val (.int k x))∧l.length=n∧m.length=n∧b=(l == m)
def xL (P:Program) (op:BinOp) (t:TypeId) (cs ds:List AV) (h:Hint):Option (AV×List Prop) :=
 match P.underlying t,P.eqGuardType P.depth t,h.av with
 | some (.array n e),false,some (.val (.bool b))=>(match P.underlying e,dN P e,op with
  | some (.int k),some 1,.eql=>some (.val (.bool b),[Jk k n cs ds b])
  | some (.int k),some 1,.neq=>some (.val (.bool b),[Jk k n cs ds (!b)])
  | _,_,_=>none)
 | _,_,_=>none
section
variable {P:Program} {w:World}
theorem pS (d:Nat) {e:TypeId} {k k':IntKind} (he:P.underlying e=some (.int k')) {n:Nat} {l m:List Int} (hl:l.length=n) (hm:m.length=n):∀(is:List Nat),(∀i∈is,i<n) ->
  (Op.eqItems (d+1) e 1 (l.map (Value.int k)).toArray (m.map (Value.int k)).toArray is).run P w= .ok (is.all fun i=>l.getD i 0 == m.getD i 0) w
 | [],_=>by simp [Op.eqItems]
 | i::is,hi=>by
  have h1:i<n:=hi i (by simp)
  have ha:cy P e=false:=by unfold cy;rw [he]
  have p1:(part e (l.map (Value.int k)).toArray (i*1)).run P w= .ok (.int k (l.getD i 0)) w:=by
   simp [part,ie ⟨_,he⟩,ha,hl,h1]
  have p2:(part e (m.map (Value.int k)).toArray (i*1)).run P w= .ok (.int k (m.getD i 0)) w:=by
   simp [part,ie ⟨_,he⟩,ha,hm,h1]
  simp only [Op.eqItems,Sem.run_bind,p1,p2,run_equalIn_int w d e k k' _ _ he,Result.andThen_ok,List.all_cons]
  have ih:=pS d (k:=k) he hl hm is (fun j hj=>hi j (by simp [hj]))
  cases hb:l.getD i 0 == m.getD i 0 with
  | false=>simp
  | true=>simpa using ih
theorem A3 {l m:List Int} {n:Nat} (hl:l.length=n) (hm:m.length=n):((List.range n).all fun i=>l.getD i 0 == m.getD i 0)=(l == m):=by
 rw [Bool.eq_iff_iff,List.all_eq_true,beq_iff_eq]
 constructor
 ·intro h
  apply List.ext_getElem ah
  intro i h1 h2
  have:=h i (List.mem_range.2 ah)
  simpa [h1,h2] using this
 ·rintro rfl i _;simp
theorem y9 {S:Nat->Prop} {k:IntKind} {l:List Int} {vs:List Value} (hl:vs.length=(l.map (fun x=>AV.val (.int k x))).length) (hd:∀(j:Nat) v c,vs[j]?=some v->(l.map (fun x=>AV.val (.int k x)))[j]?=some c->cp S w v c):vs=l.map (Value.int k):=by
 apply List.ext_getElem (by simpa using hl)
 intro i h1 h2
 have h3:i<l.length:=by simpa using h2
 have:=hd i vs[i] (.val (.int k l[i])) (List.getElem?_eq_getElem h1) (by simp [h3])
 generalize vs[i]=q at this
 cases this
 simp
end
section
variable {P:Program} {s:AS} {o:Oper} {h:Hint} {r:AV×List Prop}
theorem Cl {op:BinOp} {t t':TypeId} {x y:Operand} {cs ds:List AV} (ho:o.op= .binOp op t x y t') (hx:bj s x= .arr cs) (hy:bj s y= .arr ds) (hr:xL P op t cs ds h=some r):cS P s o r.1 r.2:=by
 intro hC S0 w0 n O a w φ hs
 have dx:=hs.bj x
 have dy:=hs.bj y
 rw [hx] at dx;rw [hy] at dy
 obtain ⟨vs,ex,hl,hd⟩:=pZ dx
 obtain ⟨us,ey,qP,Fa⟩:=pZ dy
 have main:∀k N e b,P.underlying t=some (.array N e)->P.underlying e=some (.int k)->dN P e=some 1->P.eqGuardType P.depth t=false->Jk k N cs ds b->(∀op,(eqGuard op t x y (a.eval x) (a.eval y)).run P w= .ok () w)∧(Op.equalIn 10000 t (.agg vs.toArray) (.agg us.toArray)).run P w= .ok b w:=by
  intro k N e b hu he hz hg ⟨l,m,e1,e2,h1,h2,h3⟩
  refine ⟨fun op=>by rw [ex,ey];exact run_eqGuard_agg w op t x y _ _ hg,?_⟩
  subst e1 e2
  rw [y9 hl hd,y9 qP Fa]
  obtain ⟨i,hi,Qz⟩:∃i,P.info? e=some i∧i.size=1:=by
   unfold dN at hz
   cases hp:P.info? e with
   | none=>rw [hp] at hz;cases hz
   | some i=>rw [hp] at hz;exact ⟨i,rfl,by simpa using hz⟩
  rw [show 10000=9999+1 from rfl,run_equalIn_array w 9999 _ _ hu hi]
  have hc:P.cellsOf e=1:=by unfold Program.cellsOf;rw [hi];exact Qz
  rw [hc,show 9999=9998+1 from rfl,pS 9998 he h1 h2 _ (fun i hi=>List.mem_range.1 hi),A3 h1 h2,h3]
 unfold xL at hr
 split at hr
 ·rename_i N e b hu hg _
  split at hr
  ·rename_i k he hz
   injection hr with hr;subst hr
   obtain ⟨h1,h2⟩:=main k N e _ hu he hz hg hC.1
   refine ⟨.bool _,?_,.rep (.val _)⟩
   unfold execOp;simp only [ho,Sem.run_bind,h1,Result.andThen_ok]
   rw [ex,ey,run_eql_struct,h2];rfl
  ·rename_i k he hz
   injection hr with hr;subst hr
   obtain ⟨h1,h2⟩:=main k N e _ hu he hz hg hC.1
   refine ⟨.bool _,?_,.rep (.val _)⟩
   unfold execOp;simp only [ho,Sem.run_bind,h1,Result.andThen_ok]
   rw [ex,ey,run_neq_struct,h2];simp
  ·cases hr
 ·cases hr
def xU (P:Program) (s:AS) (t:TypeId) (x:AV):Option (AV×List Prop) :=
 match P.underlying t,x with
 | some (.array (n+1) _),.sl (z+1) row=>some (.ptr row 0,[cJ (n+1) (z+1)≤row.length])
 | some (.array (n+1) _),.ref id=>(match look s.H id with
  | some ⟨z+1,_,_,cells⟩=>some (.addr id 0,[cJ (n+1) (z+1)≤cells.length])
  | _=>none)
 | _,_=>none
theorem rB {P:Program} {w:World} {t:TypeId} {n:Nat} {e:TypeId} (hu:P.underlying t=some (.array n e)) (A:Option Addr) (l c:Nat) (h:n≤l):(Instr.arrayAt t (.slice A l c)).run P w= .ok (.pointer A) w:=by
 have:¬l<n:=ah
 simp [Instr.arrayAt,run_underlying hu,this]
theorem Cx {t:TypeId} {x:Operand} (ho:o.op= .sliceToArrayPointer t x) (hr:xU P s t (bj s x)=some r):cS P s o r.1 r.2:=by
 intro hC S0 w0 n O a w φ hs
 have dx:=hs.bj x
 unfold xU at hr
 split at hr
 ·rename_i N e z row hu hx
  injection hr with hr;subst hr
  rw [hx] at dx
  have bV:=oS dx
  generalize hv:a.eval x=v at bV
  cases bV with
  | sl A l c e' us EE hlen hn hc hm ha gZ =>
   have iz:=hC.1
   rw [bt] at iz
   rw [hn,Nat.mul_comm (z+1)] at iz
   have Sc:N+1≤l:=Nat.le_of_mul_le_mul_right iz ah
   obtain ⟨ad,rfl,hS,bq⟩:=ha (by rw [hn];exact Nat.mul_pos ah ah)
   refine ⟨.pointer (some ad),?_,?_⟩
   ·unfold execOp;simp only [ho,hv,Sem.run_bind,rB hu (some ad) l c Sc,Result.andThen_ok];rfl
   ·have:=cp.ptr (S:=aJ S0 w φ O) (w:=w) ad us row 0 hlen hS bq gZ
    rw [dd] at this
    exact .rep this
 ·rename_i N e id hu hx
  rw [hx] at dx
  split at hr
  ·rename_i z p f cells lg
   injection hr with hr;subst hr
   have iz:=hC.1
   rw [bt] at iz
   generalize hv:a.eval x=v at dx
   cases dx with
   | rep bV=>cases bV
   | ref _ e' m g l c hi hm hc Jo bU =>
    have nk:=bn (φ:=φ) lg
    rw [hi] at nk
    simp at nk
    obtain ⟨h1,h2,h3⟩:=nk
    subst h1 h2
    rw [hm,Nat.mul_comm (z+1)] at iz
    have Sc:N+1≤l:=Nat.le_of_mul_le_mul_right iz ah
    refine ⟨.pointer (some ⟨g,0,none⟩),?_,.addr id 0 _ _ g hi⟩
    unfold execOp;simp only [ho,hv,Sem.run_bind,rB hu _ l c Sc,Result.andThen_ok];rfl
   | cw _ e' hi =>
    have nk:=bn (φ:=φ) lg
    rw [hi] at nk
    simp at nk
    rw [←nk.2.1] at iz
    simp at iz
  ·cases hr
 ·cases hr
end
def kY:AV->Option (List AV)
 | .val u=>(match u.oneCell' with|true=>some [.val u]|false=>none)
 | .agg cs=>some cs
 | .arr cs=>some cs
 | .br _=>none
 | .dead=>none
 | .own _ _=>none
 | .box _=>none
 | x=>some [x]
theorem EP {v:Value} (h:v.oneCell'=true):v.cells= [v].toArray:=by
 cases v<;>first|rfl|cases h
theorem lS {I:Info} {S:Nat->Prop} {w:World} {v:Value} {x:AV} {l:List AV} (hd:Den I S w v x) (hl:kY x=some l) :
  ∃vs:List Value,v.cells=vs.toArray∧vs.length=l.length∧ ∀(j:Nat) u c,vs[j]?=some u->l[j]?=some c->Den I S w u c:=by
 have single:∀y,Den I S w v y->v.oneCell'=true->l= [y]-> ∃vs:List Value,v.cells=vs.toArray∧vs.length=l.length∧ ∀(j:Nat) u c,vs[j]?=some u->l[j]?=some c->Den I S w u c:=by
  intro y hy ho hl
  subst hl
  refine ⟨[v],EP ho,rfl,fun j u c hu hc=>?_⟩
  cases j with
  | zero=>simp at hu hc;subst hu;subst hc;exact hy
  | succ j=>simp at hu
 have wj:=hd
 cases hd with
 | rep h=>cases h with
  | val v =>
   unfold kY at hl
   simp only at hl
   split at hl
   ·rename_i ho;injection hl with hl;exact single _ wj ho hl.symm
   ·cases hl
  | nil=>injection hl with hl;exact single _ wj rfl hl.symm
  | agg vs cs hlen h=>injection hl with hl;subst hl;exact ⟨vs,rfl,hlen,fun j u c hu hc=>.rep (h j u c hu hc)⟩
  | br vs cs hlen h=>cases hl
  | arr vs cs hlen h=>injection hl with hl;subst hl;exact ⟨vs,rfl,hlen,fun j u c hu hc=>.rep (h j u c hu hc)⟩
  | sl=>injection hl with hl;exact single _ wj rfl hl.symm
  | o8=>injection hl with hl;exact single _ wj rfl hl.symm
  | ptr=>injection hl with hl;exact single _ wj rfl hl.symm
  | lu=>injection hl with hl;exact single _ wj rfl hl.symm
 | agg vs cs hlen h=>injection hl with hl;subst hl;exact ⟨vs,rfl,hlen,h⟩
 | br=>cases hl
 | dead=>cases hl
 | ref=>injection hl with hl;exact single _ wj rfl hl.symm
 | cw=>injection hl with hl;exact single _ wj rfl hl.symm
 | pre=>injection hl with hl;exact single _ wj rfl hl.symm
 | df=>injection hl with hl;exact single _ wj rfl hl.symm
 | jg=>injection hl with hl;exact single _ wj rfl hl.symm
 | addr=>injection hl with hl;exact single _ wj rfl hl.symm
def AD (place:Nat->Option (Nat×Nat)) (cells:List AV):List (Nat×AV)->Option (List AV)
 | []=>some cells
 | (i,x)::rest=>match place i,kY x with
  | some (off,size),some l=>(match Nat.beq l.length size,Nat.ble (off+l.length) cells.length with
   | true,true=>AD place (cells.take off++l++cells.drop (off+l.length)) rest
   | _,_=>none)
  | _,_=>none
theorem kg (off:Nat):∀(vs:List Value) (k:Nat) (cells:Array Value) (p:Nat),((vs.zipIdx k).foldl (fun cs (cj:Value×Nat)=>cs.setIfInBounds (off+cj.2) cj.1) cells)[p]?=if off+k≤p∧p<off+k+vs.length∧p<cells.size then vs[p-(off+k)]? else cells[p]?
 | [],k,cells,p=>by simp;omega
 | v::vs,k,cells,p=>by
  simp only [List.zipIdx_cons,List.foldl_cons]
  rw [kg off vs (k+1)]
  simp only [Array.size_setIfInBounds,List.length_cons]
  by_cases h1:off+(k+1)≤p∧p<off+(k+1)+vs.length∧p<cells.size
  ·rw [if_pos h1,if_pos ah]
   rw [show p-(off+k)=(p-(off+(k+1)))+1 by omega,List.getElem?_cons_succ]
  ·rw [if_neg h1]
   by_cases h2:off+k=p
   ·subst h2
    by_cases h3:off+k<cells.size
    ·rw [Array.getElem?_setIfInBounds_self_of_lt h3,if_pos ah];simp
    ·rw [if_neg ah,Array.getElem?_eq_none (by simp;omega),Array.getElem?_eq_none ah]
   ·rw [Array.getElem?_setIfInBounds_ne h2,if_neg ah]
theorem i9 (off:Nat):∀(vs:List (Value×Nat)) (cells:Array Value),(vs.foldl (fun cs (cj:Value×Nat)=>cs.setIfInBounds (off+cj.2) cj.1) cells).size=cells.size
 | [],_=>rfl
 | v::vs,cells=>by rw [List.foldl_cons,i9 off vs];simp
theorem xC {I:Info} {S:Nat->Prop} {w:World} (place:Nat->Option (Nat×Nat)):∀(parts:List (Nat×AV)) (lY:List (Nat×Value)) (cells out:List AV) (cs:Array Value),AD place cells parts=some out->lY.map (·.1)=parts.map (·.1) ->
  (∀(j:Nat) v x,lY[j]?=some v->parts[j]?=some x->Den I S w v.2 x.2)->cs.size=cells.length->(∀(j:Nat) u c,cs[j]?=some u->cells[j]?=some c->Den I S w u c) ->
  ∃us:List Value,Instr.fill place cs lY=some us.toArray∧us.length=out.length∧ ∀(j:Nat) u c,us[j]?=some u->out[j]?=some c->Den I S w u c
 | [],lY,cells,out,cs,hf,hm,hp,hs,hd=>by
  have:lY= []:=by simpa using hm
  subst this
  injection hf with hf;subst hf
  exact ⟨cs.toList,by simp [Instr.fill],by simpa using hs,fun j u c hu hc=>hd j u c (by simpa using hu) hc⟩
 | (i,x)::parts,lY,cells,out,cs,hf,hm,hp,hs,hd=>by
  cases lY with
  | nil=>simp at hm
  | cons p lY =>
   obtain ⟨i',v⟩:=p
   simp only [List.map_cons,List.cons.injEq] at hm
   obtain ⟨hi,hm⟩:=hm
   subst hi
   have hv:=hp 0 (i',v) (i',x) rfl rfl
   simp only [AD] at hf
   split at hf
   ·rename_i off size l pJ hl
    split at hf
    ·rename_i Ju va
     have h1:=Nat.eq_of_beq_eq_true Ju
     have h2:off+l.length≤cells.length:=Nat.le_of_ble_eq_true va
     obtain ⟨vs,DM,hlen,dz⟩:=lS hv hl
     have hz:v.cells.zipIdx.foldl (fun cs (cj:Value×Nat)=>cs.setIfInBounds (off+cj.2) cj.1) cs=(vs.zipIdx).foldl (fun cs (cj:Value×Nat)=>cs.setIfInBounds (off+cj.2) cj.1) cs:=by
      rw [DM];simp
     have ih:=xC (I:=I) (S:=S) (w:=w) place parts lY (cells.take off++l++cells.drop (off+l.length)) out ((vs.zipIdx).foldl (fun cs (cj:Value×Nat)=>cs.setIfInBounds (off+cj.2) cj.1) cs) hf hm (fun j v x hv hx=>hp (j+1) v x (by simpa using hv) (by simpa using hx)) (by
       rw [i9,hs];simp only [List.length_append,List.length_take,List.length_drop];omega) (fun j u c hu hc=>by
       rw [kg off vs 0 cs j] at hu
       simp only [Nat.add_zero] at hu
       split at hu
       ·rename_i hj
        rw [List.getElem?_append_left (by simp only [List.length_append,List.length_take];omega),List.getElem?_append_right (by simp only [List.length_take];omega)] at hc
        refine dz _ u c hu ?_
        rw [←hc];congr 1;simp only [List.length_take];omega
       ·rename_i hj
        have VZ:j<cs.size:=by
         rcases Nat.lt_or_ge j cs.size with h|h
         ·exact h
         ·rw [Array.getElem?_eq_none h] at hu;cases hu
        refine hd j u c hu ?_
        by_cases UE:j<off
        ·rw [List.getElem?_append_left (by simp only [List.length_append,List.length_take];omega),List.getElem?_append_left (by simp only [List.length_take];omega),List.getElem?_take,if_pos UE] at hc
         exact hc
        ·rw [List.getElem?_append_right (by simp only [List.length_append,List.length_take];omega),List.getElem?_drop] at hc
         rw [←hc];congr 1;simp only [List.length_append,List.length_take];omega)
     obtain ⟨us,E2,r⟩:=ih
     refine ⟨us,?_,r⟩
     have OW:v.cells.size=l.length:=by rw [DM];simpa using hlen
     unfold Instr.fill
     rw [pJ]
     simp only
     rw [if_neg (by rw [OW,←h1,hs];simp;omega),hz]
     exact E2
    ·cases hf
   ·cases hf
def sx (P:Program):List Field->Option (List (Nat×Nat))
 | []=>some []
 | f::l=>match dN P f.type,sx P l with|some z,some m=>some ((f.offset,z)::m)|_,_=>none
theorem run_places {P:Program} {w:World}:∀(l:List Field) (m:List (Nat×Nat)),sx P l=some m->(l.mapM fun f=>(do pure (f.offset,←sizeOf f.type):Sem (Nat×Nat))).run P w= .ok m w
 | [],m,h=>by cases h;rfl
 | f::l,m,h=>by
  simp only [sx] at h
  split at h
  ·rename_i z q hz hq
   cases h
   have:=run_places (w:=w) l q hq
   have z6:(sizeOf f.type).run P w= .ok z w:=run_sizeOf hz
   simp only [List.mapM_cons,Sem.run_bind,z6,Result.andThen_ok,Sem.run_pure,this]
  ·cases h
def partsOf (s:AS):List (Nat×Operand)->List (Nat×AV)
 | []=>[]
 | (i,x)::l=>(i,bj s x)::partsOf s l
def xT (P:Program) (s:AS) (t:TypeId) (parts:List (Nat×Operand)):Option (AV×List Prop) :=
 match (P.info? t).bind (·.zero),P.underlying t with
 | some z,some (.struct fields)=>(match sx P fields.toList with
  | some places=>(match AD (fun i=>places[i]?) (z.cells.toList.map bx) (partsOf s parts) with|some l=>some (.agg l,[])|none=>none)
  | none=>none)
 | some z,some (.array _ el)=>(match dN P el with
  | some k=>(match AD (fun i=>some (i*k,k)) (z.cells.toList.map bx) (partsOf s parts) with|some l=>some (.agg l,[])|none=>none)
  | none=>none)
 | _,_=>none
section
variable {P:Program} {s:AS} {o:Oper} {h:Hint} {r:AV×List Prop}
theorem rJ (parts:List (Nat×Operand)) (f:Operand->Value):(parts.map fun p=>(p.1,f p.2)).map (·.1)=(partsOf s parts).map (·.1):=by
 induction parts with
 | nil=>rfl
 | cons p l ih=>obtain ⟨i,x⟩:=p;simp only [List.map_cons,partsOf,ih]
theorem m5 {S0:bf} {w0 w:World} {n:Nat} {O:List Nat} {a:Act} {φ:Nat->Option Nat} (hs:aH S0 w0 n O s a w φ):∀(parts:List (Nat×Operand)) (j:Nat) (v:Nat×Value) (x:Nat×AV),(parts.map fun p=>(p.1,a.eval p.2))[j]?=some v->(partsOf s parts)[j]?=some x->Den (az s.H φ) (aJ S0 w φ O) w v.2 x.2
 | [],j,v,x,hv,hx=>by simp at hv
 | (i,y)::l,j,v,x,hv,hx=>by
  cases j with
  | zero=>simp [partsOf] at hv hx;subst hv;subst hx;exact hs.bj y
  | succ j=>exact m5 hs l j v x (by simpa using hv) (by simpa [partsOf] using hx)
theorem iE {w:World} {t:TypeId} {z:Value} (h:(P.info? t).bind (·.zero)=some z):(zeroValue t).run P w= .ok z w:=by
 cases hi:P.info? t with
 | none=>rw [hi] at h;cases h
 | some i=>rw [hi] at h;simp at h;simp [zeroValue,typeInfo,hi,h]
theorem sY {I:Info} {S:Nat->Prop} {w:World} (z:Value) (j:Nat) (u:Value) (c:AV) (hu:z.cells[j]?=some u) (hc:(z.cells.toList.map bx)[j]?=some c):Den I S w u c:=by
 rw [List.getElem?_map] at hc
 have:z.cells.toList[j]?=some u:=by simpa using hu
 rw [this] at hc
 injection hc with hc;subst hc
 exact .rep (fE u)
theorem Cw {t:TypeId} {parts:Array (Nat×Operand)} (ho:o.op= .build t parts) (hr:xT P s t parts.toList=some r):cS P s o r.1 r.2:=by
 intro hC S0 w0 n O a w φ hs
 unfold xT at hr
 have pJ:(parts.map fun p=>(p.1,a.eval p.2)).toList=parts.toList.map fun p=>(p.1,a.eval p.2):=by simp
 split at hr
 ·rename_i z fields hz hu
  split at hr
  ·rename_i places hp
   split at hr
   ·rename_i l hl
    injection hr with hr;subst hr
    obtain ⟨us,E2,hlen,dz⟩:=xC (I:=az s.H φ) (S:=aJ S0 w φ O) (w:=w) (fun i=>places[i]?) (partsOf s parts.toList) (parts.toList.map fun p=>(p.1,a.eval p.2)) _ l z.cells hl (rJ _ _) (m5 hs parts.toList) (by simp) (sY z)
    refine ⟨.agg us.toArray,?_,.agg us l hlen dz⟩
    have hm:(fields.mapM fun f=>(do pure (f.offset,←sizeOf f.type):Sem (Nat×Nat))).run P w= .ok places.toArray w:=by
     rw [Array.mapM_eq_mapM_toList,Sem.run_map,run_places _ _ hp];rfl
    have Pu:Instr.fill (fun i=>places.toArray[i]?) z.cells (parts.map fun p=>(p.1,a.eval p.2)).toList=some us.toArray:=by
     rw [pJ,←E2];congr 1;funext i;simp
    unfold execOp
    simp only [ho,Instr.build,Sem.run_bind,iE hz,Result.andThen_ok,run_underlying hu]
    rw [hm]
    simp only [Result.andThen_ok]
    rw [Pu]
    rfl
   ·cases hr
  ·cases hr
 ·rename_i z n' el hz hu
  split at hr
  ·rename_i k hk
   split at hr
   ·rename_i l hl
    injection hr with hr;subst hr
    obtain ⟨us,E2,hlen,dz⟩:=xC (I:=az s.H φ) (S:=aJ S0 w φ O) (w:=w) (fun i=>some (i*k,k)) (partsOf s parts.toList) (parts.toList.map fun p=>(p.1,a.eval p.2)) _ l z.cells hl (rJ _ _) (m5 hs parts.toList) (by simp) (sY z)
    refine ⟨.agg us.toArray,?_,.agg us l hlen dz⟩
    have oP:(sizeOf el).run P w= .ok k w:=run_sizeOf hk
    unfold execOp
    simp only [ho,Instr.build,Sem.run_bind,iE hz,Result.andThen_ok,run_underlying hu,oP]
    rw [pJ,E2]
    rfl
   ·cases hr
  ·cases hr
 ·cases hr
def pQ (P:Program) (s:AS) (o:Oper) (h:Hint):Option (AV×List Prop) :=
 match o.op with
 | .move x=>some (fin h (bj s x,[]))
 | .assign x=>some (fin h (bj s x,[]))
 | .binOp op t x y _=>(match bj s x,bj s y with
  | .val u,.val v=>(match IA P op t x y u v with|some r=>some (fin h r)|none=>none)
  | .agg cs,.agg ds=>(match xM P op t cs ds with|some r=>some (fin h r)|none=>none)
  | .arr cs,.arr ds=>xL P op t cs ds h
  | _,_=>none)
 | .unOp op _ x=>(match bj s x with| .val u=>(match Ni P op u with|some r=>some (fin h r)|none=>none)|_=>none)
 | .convert src dst x=>Ct P s src dst (bj s x) h
 | .load t x=>Ch P s t (bj s x) h
 | .fieldAddr t x f=>nu P t (bj s x) f
 | .indexAddr t x i=>(match bj s i with| .val (.int _ n)=>Iu P s t (bj s x) n h|_=>none)
 | .index t x i=>(match bj s i with| .val (.int _ n)=>xH P t (bj s x) n h|_=>none)
 | .slice t x lo hi mx=>(match uT s lo hi mx with|some c=>xF P s t (bj s x) c h|none=>none)
 | .field t x f=>xJ P t (bj s x) f h
 | .extract x i=>q7 (bj s x) i
 | .nilCheck x=>Ip (bj s x)
 | .pick c x y=>(match Ce s c x y h with|some r=>some (fin h r)|none=>none)
 | .build t parts=>xT P s t parts.toList
 | .sliceToArrayPointer t x=>xU P s t (bj s x)
 | .call ⟨.builtin .len,⟨[x]⟩,ts⟩=>Ir P s ts o.type (bj s x) h
 | .call ⟨.builtin b,xs,ts⟩=>(match td s xs.toList with|some us=>(match Nk P b ts o.type us with|some r=>some (fin h r)|none=>none)|none=>none)
 | _=>none
theorem kJ (hr:pQ P s o h=some r):cS P s o r.1 r.2:=by
 unfold pQ at hr
 split at hr
 ·rename_i x ho
  injection hr with hr;subst hr
  refine gm fun _ S0 w0 n O a w φ hs=>⟨a.eval x,?_,hs.bj x⟩
  unfold execOp;simp only [ho];rfl
 ·rename_i x ho
  injection hr with hr;subst hr
  refine gm fun _ S0 w0 n O a w φ hs=>⟨a.eval x,?_,hs.bj x⟩
  unfold execOp;simp only [ho];rfl
 ·rename_i op t x y t' ho
  split at hr
  ·rename_i u v hu hv
   split at hr
   ·rename_i q hq
    injection hr with hr;subst hr
    exact gm (Iz ho hu hv hq)
   ·cases hr
  ·rename_i cs ds hu hv
   split at hr
   ·rename_i q hq
    injection hr with hr;subst hr
    exact gm (Cm ho hu hv hq)
   ·cases hr
  ·rename_i cs ds hu hv
   exact Cl ho hu hv hr
  ·cases hr
 ·rename_i op t x ho
  split at hr
  ·rename_i u hu
   split at hr
   ·rename_i q hq
    injection hr with hr;subst hr
    exact gm (KT ho hu hq)
   ·cases hr
  ·cases hr
 ·rename_i ho;exact Fv ho hr
 ·rename_i ho;exact Fo ho hr
 ·rename_i ho;exact uM ho hr
 ·rename_i ho
  split at hr
  ·rename_i hi;exact Is ho hi hr
  ·cases hr
 ·rename_i ho
  split at hr
  ·rename_i hi;exact Ci ho hi hr
  ·cases hr
 ·rename_i ho
  split at hr
  ·rename_i hc;exact Cb ho hc hr
  ·cases hr
 ·rename_i ho;exact Ck ho hr
 ·rename_i ho;exact xK ho hr
 ·rename_i ho;exact Io ho hr
 ·rename_i ho
  split at hr
  ·rename_i q hq
   injection hr with hr;subst hr
   exact gm (Fk ho hq)
  ·cases hr
 ·rename_i ho;exact Cw ho hr
 ·rename_i ho;exact Cx ho hr
 ·rename_i ho;exact Iq ho hr
 ·rename_i b xs ts _ ho
  split at hr
  ·rename_i us hu
   split at hr
   ·rename_i q hq
    injection hr with hr;subst hr
    exact gm (KU ho hu hq)
   ·cases hr
  ·cases hr
 ·cases hr
end
def lV (P:Program) (n:Nat) (s:AS) (o:Oper) (s':AS) (C:List Prop):Prop :=
 bu C-> ∀S0 w0 a w Q,ib S0 w0 n s a w->o.wp P a w (fun a' w'=>ib S0 w0 n s' a' w') Q
def fZ (n:Nat) (s:AS) (d:Option Nat) (x:AV):Option AS :=
 match d with
 | none=>some s
 | some d=>(match Nat.blt d n,Nat.ble n 1000000000 with|true,true=>some (k9 s d x)|_,_=>none)
theorem dB {S0:bf} {w0 w:World} {n:Nat} {O:List Nat} {s s':AS} {a:Act} {φ:Nat->Option Nat} {d:Option Nat} {v:Value} {x:AV} (h:aH S0 w0 n O s a w φ) (hx:Den (az s.H φ) (aJ S0 w φ O) w v x) (hp:fZ n s d x=some s'):aH S0 w0 n O s' (a.put d v) w φ:=by
 unfold fZ at hp
 split at hp
 ·injection hp with hp;subst hp
  exact ⟨h.jF,h.jJ,h.cM,h.ct,h.rows,h.only,h.inj,h.cL,h.apart,h.new⟩
 ·split at hp
  ·rename_i d _ _ hb _
   injection hp with hp;subst hp
   have hd:d<n:=by simpa [Nat.blt_eq] using hb
   exact h.put hd hx
  ·cases hp
theorem cI {P:Program} {o:Oper} {a:Act} {w w':World} {v:Value} {next:Act->World->Prop} {Q:Exit->Act->World->Prop} (bZ:(execOp a.eval o).run P w= .ok (.value v) w') (hn:next (a.put o.dst v) w'):o.wp P a w next Q:=by
 unfold Oper.wp
 rw [bZ]
 exact hn
theorem iI {n:Nat} {s s':AS} {d:Nat} {x:AV} (hp:fZ n s (some d) x=some s'):d<1000000000000:=by
 unfold fZ at hp
 simp only at hp
 split at hp
 ·rename_i h1 h2
  have h1:d<n:=by simpa [Nat.blt_eq] using h1
  have h2:=Nat.le_of_ble_eq_true h2
  omega
 ·cases hp
theorem GY {P:Program} {n:Nat} {s s':AS} {o:Oper} {x:AV} {C:List Prop} (h:cS P s o x C) (hp:fZ n s o.dst x=some s'):lV P n s o s' C:=by
 intro hC S0 w0 a w Q ⟨φ,hs⟩
 obtain ⟨v,bZ,dz⟩:=h hC S0 w0 n [] a w φ hs
 unfold Oper.wp
 rw [bZ]
 exact ⟨φ,dB hs dz hp⟩
def named (h:Hint) (cells:List AV):List AV×List Prop:=match h.av with|some (.arr row)=>(row,[cells=row])|_=>(cells,[])
theorem gP {h:Hint} {cells:List AV} {C:List Prop} (hC:bu ((named h cells).2++C)):(named h cells).1=cells∧bu C:=by
 unfold named at *
 split at hC
 ·exact ⟨hC.1.symm,hC.2⟩
 ·exact ⟨rfl,hC⟩
def install (s:AS) (id:Nat) (r:Row):AS:=⟨(bX id s).F,(id,r)::(bX id s).H⟩
section
variable {S0:bf} {w0 w w':World} {n:Nat} {s:AS} {a:Act} {φ:Nat->Option Nat}
theorem aH.l3 (h:aH S0 w0 n [] s a w φ) (id:Nat):aH S0 w0 n [] (bX id s) a w (erase φ id):=by
 cases bY:φ id with
 | none=>exact h.jk id [] (by rw [bY])
 | some g=>exact (h.jk id [g] (by rw [bY])).uA
theorem cZ (id:Nat):look (bX id s).H id=none:=by
 unfold bX;rw [b7,bC,if_pos rfl];rfl
theorem aH.fresh (h:aH S0 w0 n [] s a w φ) (id:Nat) (r:Row) (hid:id<1000000000000) (HK:w'.os=w.os) (ug:w'.tape=w.tape) (uh:w'.output=w.output) (dc:w.heap.size<w'.heap.size) (hb:∀b,b<w.heap.size->w'.heap[b]?=w.heap[b]?)
  {cur:Array Value} {te:TypeId} {fr:Nat×Nat} (hg:w'.heap[w.heap.size]?=some (.cells cur te fr)) (gv:∀j,j<cur.size-> ¬(fr.1≤j∧j<fr.2)) (hl:r.cells.length≤cur.size) (mD:r.full=true->cur.size=r.cells.length)
  (hc:∀(j:Nat) u x,cur[j]?=some u->r.cells[j]?=some x->(r.pure=true->cp (aJ S0 w φ []) w u x)∧(r.pure=false-> ∃y,x=aQ id y∧Den (az s.H φ) (aJ S0 w φ []) w u y)) :
  aH S0 w0 n [] (install s id r) a w' (fm (erase φ id) id w.heap.size):=by
 have h1:=h.l3 id
 have h2:=h1.await w.heap.size (Nat.le_refl _)
 have h3:=h2.vD (w':=w') (fun g hg=>by simp at hg;rw [hg];exact .inl h.cM.size) HK ug uh (Nat.le_of_lt dc) (fun b Ju _=>hb b Ju)
 have TD:∀b,aJ S0 w φ [] b->aJ S0 w (erase φ id) [] b:=by
  intro b ⟨h1,h2,h3,h4⟩
  refine ⟨h1,h2,fun i hi=>?_,h4⟩
  unfold erase at hi
  split at hi
  ·cases hi
  ·exact h3 i hi
 have hF:∀b,aJ S0 w (erase φ id) [] b->aJ S0 w' (erase φ id) [w.heap.size] b∧w'.heap[b]?=w.heap[b]?:=by
  intro b ⟨h1,h2,h3⟩
  exact ⟨⟨ah,by simp;omega,h3⟩,hb b h1⟩
 refine h3.wF ⟨.inl hid,.inl h.cM.size⟩ dc (by simp) (cZ id) ⟨cur,te,fr,hg,gv,hl,mD,fun j u x hu hx=>?_⟩
 obtain ⟨hp,hi⟩:=hc j u x hu hx
 unfold a_
 cases pI:r.pure with
 | true=>exact ((hp pI).mono fun b hb=>⟨TD b hb,rfl⟩).mono hF
 | false =>
  obtain ⟨y,rfl,hy⟩:=hi pI
  have hk:=(uc id (ng id) TD).all hy
  exact hk.mono (fun _ _ h=>h) hF (fun i e m g hi=>by
   obtain ⟨q,-,-,-,hg⟩:=aL hi
   unfold aS;rw [hb g (h1.cL i g hg).2])
theorem eT (id:Nat) (r:Row) (g:Nat):az (install s id r).H (fm (erase φ id) id g) id=some (r.e,r.cells.length,some g):=by
 rw [bn (r:=r) (by unfold install;rw [aB,if_pos rfl])]
 unfold fm;rw [if_pos rfl]
end
def rj (P:Program) (t:TypeId):Nat:=match P.underlying t with|some (.array _ el)=>(match dN P el with|some k=>k|none=>1)|_=>1
theorem gX {α:Type} (f:Nat->α):(Array.range 0).map f= #[]:=Array.eq_empty_of_size_eq_zero (by simp)
def nO (P:Program) (n:Nat) (s:AS) (d t:Nat) (h:Hint):Option (AS×List Prop) :=
 match (P.info? t).bind (·.zero) with
 | some z=>(match h.av with
  | some (.arr row)=>(match fZ n (install s d ⟨rj P t,true,true,row⟩) (some d) (.addr d 0) with|some s'=>some (s',[z.cells.toList.map bx=row])|none=>none)
  | _=>(match fZ n (install s d ⟨rj P t,false,true,z.cells.toList.map bx⟩) (some d) (.addr d 0) with|some s'=>some (s',[])|none=>none))
 | none=>none
theorem dm (w:World) (o:Obj):({w with heap:=w.heap.push o}:World).heap[w.heap.size]?=some o:=by simp
theorem cB (w:World) (o:Obj) (b:Nat) (h:b<w.heap.size):({w with heap:=w.heap.push o}:World).heap[b]?=w.heap[b]?:=by
 show (w.heap.push o)[b]?=_
 rw [Array.getElem?_push,if_neg ah]
section
variable {P:Program} {n:Nat} {s:AS} {o:Oper} {h:Hint} {q:AS×List Prop}
theorem BO (id:Nat) (v:Value):aQ id (bx v)=bx v:=by
 unfold bx
 split<;>rfl
theorem uO {t d:Nat} (ho:o.op= .alloc t) (hd:o.dst=some d) (hr:nO P n s d t h=some q):lV P n s o q.1 q.2:=by
 intro hC S0 w0 a w Q ⟨φ,hs⟩
 unfold nO at hr
 split at hr
 ·rename_i z hz
  have bZ:(execOp a.eval o).run P w= .ok (.value (.pointer (some ⟨w.heap.size,0,none⟩))) {w with heap:=w.heap.push (.cells z.cells t (0,0))}:=by
   unfold execOp
   simp [ho,Instr.alloc,iE hz,newVar,newRow]
  refine cI bZ ?_
  rw [hd]
  split at hr
  ·rename_i row _
   split at hr
   ·rename_i s' bU
    injection hr with hr;subst hr
    have e:=hC.1
    have h1:=hs.fresh (w':={w with heap:=w.heap.push (.cells z.cells t (0,0))}) d ⟨rj P t,true,true,row⟩ (iI bU) rfl rfl rfl (by simp) (cB w _) (dm w _) (by simp) (by simp [←e]) (by simp [←e]) (fun j u x hu hx=>⟨fun _=>by
     simp only [←e,List.getElem?_map] at hx
     have:z.cells.toList[j]?=some u:=by simpa using hu
     rw [this] at hx;injection hx with hx;subst hx;exact fE u,fun h=>by cases h⟩)
    exact ⟨_,dB h1 (.addr d 0 _ _ _ (eT d _ _)) bU⟩
   ·cases hr
  ·split at hr
   ·rename_i s' bU
    injection hr with hr;subst hr
    have h1:=hs.fresh (w':={w with heap:=w.heap.push (.cells z.cells t (0,0))}) d ⟨rj P t,false,true,z.cells.toList.map bx⟩ (iI bU) rfl rfl rfl (by simp) (cB w _) (dm w _) (by simp) (by simp) (by simp) (fun j u x hu hx=>⟨fun h=>(by cases h),fun _=>by
     simp only [List.getElem?_map] at hx
     have:z.cells.toList[j]?=some u:=by simpa using hu
     rw [this] at hx;injection hx with hx;subst hx
     exact ⟨bx u,(BO d u).symm,.rep (fE u)⟩⟩)
    exact ⟨_,dB h1 (.addr d 0 _ _ _ (eT d _ _)) bU⟩
   ·cases hr
 ·cases hr
def Iy (P:Program) (n:Nat) (s:AS) (d t:Nat) (x:AV):Option (AS×List Prop) :=
 match x with
 | .arr row=>(match fZ n (install s d ⟨rj P t,true,true,row⟩) (some d) (.addr d 0) with|some s'=>some (s',[])|none=>none)
 | x=>(match kY x with
  | some l=>(match fZ n (install s d ⟨rj P t,false,true,l.map (aQ d)⟩) (some d) (.addr d 0) with|some s'=>some (s',[])|none=>none)
  | none=>none)
theorem Ix {t d:Nat} {x:Operand} (ho:o.op= .box t x) (hd:o.dst=some d) (hr:Iy P n s d t (bj s x)=some q):lV P n s o q.1 q.2:=by
 intro hC S0 w0 a w Q ⟨φ,hs⟩
 have hx:=hs.bj x
 have bZ:(execOp a.eval o).run P w= .ok (.value (.pointer (some ⟨w.heap.size,0,none⟩))) {w with heap:=w.heap.push (.cells (a.eval x).cells t (0,0))}:=by
  unfold execOp
  simp [ho,Instr.box,newVar,newRow]
 refine cI bZ ?_
 rw [hd]
 unfold Iy at hr
 split at hr
 ·rename_i row he
  split at hr
  ·rename_i s' bU
   injection hr with hr;subst hr
   rw [he] at hx
   obtain ⟨vs,hv,hl,bV⟩:=pZ hx
   have dn:(a.eval x).cells=vs.toArray:=by rw [hv];rfl
   rw [dn]
   have h1:=hs.fresh (w':={w with heap:=w.heap.push (.cells vs.toArray t (0,0))}) d ⟨rj P t,true,true,row⟩ (iI bU) rfl rfl rfl (by simp) (cB w _) (dm w _) (by simp) (by simp [hl]) (by simp [hl]) (fun j u x hu hx=>⟨fun _=>bV j u x (by simpa using hu) hx,fun h=>by cases h⟩)
   exact ⟨_,dB h1 (.addr d 0 _ _ _ (eT d _ _)) bU⟩
  ·cases hr
 ·split at hr
  ·rename_i l hl
   split at hr
   ·rename_i s' bU
    injection hr with hr;subst hr
    obtain ⟨vs,dn,hlen,dz⟩:=lS hx hl
    rw [dn]
    have h1:=hs.fresh (w':={w with heap:=w.heap.push (.cells vs.toArray t (0,0))}) d ⟨rj P t,false,true,l.map (aQ d)⟩ (iI bU) rfl rfl rfl (by simp) (cB w _) (dm w _) (by simp) (by simp [hlen]) (by simp [hlen]) (fun j u x hu hx=>⟨fun h=>(by cases h),fun _=>by
     simp only [List.getElem?_map] at hx
     cases hj:l[j]? with
     | none=>rw [hj] at hx;cases hx
     | some y=>rw [hj] at hx;injection hx with hx;subst hx;exact ⟨y,rfl,dz j u y (by simpa using hu) hj⟩⟩)
    exact ⟨_,dB h1 (.addr d 0 _ _ _ (eT d _ _)) bU⟩
   ·cases hr
  ·cases hr
def OQ:AV->List Nat
 | .ref i=>[i]
 | .pre i _=>[i]
 | .jg i _ _=>[i]
 | .addr i _=>[i]
 | _=>[]
def n0:AV->List Nat
 | .agg cs=>cs.flatMap OQ
 | x=>OQ x
def fB:AS->List Nat->Option AS
 | s,[]=>some s
 | s,i::l=>match look s.H i with
  | some r=>(match r.pure with|true=>fB (iR i r s) l|false=>none)
  | none=>fB s l
theorem fA {S0:bf} {w0 w:World} {a:Act}:∀(l:List Nat) (s s':AS) (φ:Nat->Option Nat),fB s l=some s'->aH S0 w0 n [] s a w φ-> ∃ ck,aH S0 w0 n [] s' a w ck
 | [],s,s',φ,h,hs=>by cases h;exact ⟨φ,hs⟩
 | i::l,s,s',φ,h,hs=>by
  simp only [fB] at h
  split at h
  ·rename_i r hr
   split at h
   ·rename_i hp
    exact fA l _ s' _ h (hs.Lm hr hp)
   ·cases h
  ·exact fA l s s' φ h hs
def gV:AV->Bool
 | .val u=>u.oneCell'
 | .nil=>true
 | .sl _ _=>true
 | .ptr _ _=>true
 | .lu _ _=>true
 | _=>false
def dD:List AV->Bool
 | []=>true
 | x::l=>match gV x with|true=>dD l|false=>false
theorem dY {I:Info} {S:Nat->Prop} {w:World} {v:Value} {x:AV} (hd:Den I S w v x) (hp:gV x=true):cp S w v x∧v.oneCell'=true:=by
 cases hd with
 | rep h=>refine ⟨h,?_⟩;cases h<;>first|exact hp|rfl|cases hp
 | _=>cases hp
theorem ik:∀ {l:List AV} {j:Nat} {x:AV},dD l=true->l[j]?=some x->gV x=true
 | [],j,x,_,h=>by simp at h
 | y::l,j,x,hp,h=>by
  simp only [dD] at hp
  split at hp
  ·rename_i hy
   cases j with
   | zero=>simp at h;subst h;exact hy
   | succ j=>exact ik hp (by simpa using h)
  ·cases hp
def fN (s:AS) (z:Nat):Nat->List (Nat×Operand)->Option (List AV)
 | _,[]=>some []
 | i,(j,x)::l=>match Nat.beq i j,kY (bj s x),fN s z (i+1) l with
  | true,some c,some m=>(match Nat.beq c.length z with|true=>some (c++m)|false=>none)
  | _,_,_=>none
def uJ (P:Program) (n:Nat) (s:AS) (d t len:Nat) (parts:List (Nat×Operand)) (h:Hint):Option (AS×List Prop) :=
 match P.underlying t with
 | some (.slice el)=>(match dN P el,(P.info? el).bind (·.zero),fB s (parts.flatMap fun p=>n0 (bj s p.2)) with
  | some (z+1),some zero,some s1=>(match fN s1 (z+1) 0 parts,Nat.beq parts.length len,Nat.ble (len*(z+1)) 16777216 with
   | some cells,true,true=>(match Nat.beq zero.cells.size (z+1) with
    | true=>(match h.av with
     | some (.arr row)=>(match dD cells,fZ n (install s1 d ⟨z+1,true,true,row⟩) (some d) (.ref d) with|true,some s'=>some (s',[cells=row])|_,_=>none)
     | _=>(match dD cells,fZ n (install s1 d ⟨z+1,true,true,cells⟩) (some d) (.ref d) with|true,some s'=>some (s',[])|_,_=>none))
    | false=>none)
   | _,_,_=>none)
  | _,_,_=>none)
 | _=>none
theorem BM {S0:bf} {w0 w:World} {a:Act} {φ:Nat->Option Nat} (hs:aH S0 w0 n [] s a w φ) (z:Nat):∀(parts:List (Nat×Operand)) (i:Nat) (cells:List AV) (cur:Array Value),fN s z i parts=some cells->dD cells=true->i*z+parts.length*z=cur.size ->
  cells.length=parts.length*z∧ ∃us:Array Value,Instr.fill (fun i=>some (i*z,z)) cur (parts.map fun p=>(p.1,a.eval p.2))=some us∧us.size=cur.size∧(∀j,j<i*z->us[j]?=cur[j]?)∧ ∀(j:Nat) u x,us[i*z+j]?=some u->cells[j]?=some x->cp (aJ S0 w φ []) w u x
 | [],i,cells,cur,hc,hp,dc=>by cases hc;exact ⟨by simp,cur,rfl,rfl,fun _ _=>rfl,fun j u x _ hx=>by simp at hx⟩
 | (j,x)::l,i,cells,cur,hc,hp,dc=>by
  simp only [fN] at hc
  split at hc
  ·rename_i c m MN KE hm
   split at hc
   ·rename_i KD
    cases hc
    have MN:=Nat.eq_of_beq_eq_true MN
    have KD:=Nat.eq_of_beq_eq_true KD
    subst MN
    obtain ⟨vs,hv,hlen,dz⟩:=lS (hs.bj x) KE
    have Rs:dD m=true:=by
     have key:∀(c m:List AV),dD (c++m)=true->dD m=true:=by
      intro c
      induction c with
      | nil=>intro m h;exact h
      | cons y c ih =>
       intro m h
       simp only [List.cons_append,dD] at h
       split at h
       ·exact ih m h
       ·cases h
     exact key c m hp
    simp only [List.length_cons] at dc
    have Kn:(l.length+1)*z=l.length*z+z:=by rw [Nat.add_mul,Nat.one_mul]
    have dM:(i+1)*z=i*z+z:=by rw [Nat.add_mul,Nat.one_mul]
    have H0:((a.eval x).cells.zipIdx.foldl (fun cs (cj:Value×Nat)=>cs.setIfInBounds (i*z+cj.2) cj.1) cur)=(vs.zipIdx.foldl (fun cs (cj:Value×Nat)=>cs.setIfInBounds (i*z+cj.2) cj.1) cur):=by rw [hv];simp
    obtain ⟨FU,us,E2,HC,HB,MD⟩:=BM hs z l (i+1) m (vs.zipIdx.foldl (fun cs (cj:Value×Nat)=>cs.setIfInBounds (i*z+cj.2) cj.1) cur) hm Rs (by rw [i9];omega)
    rw [i9] at HC
    refine ⟨by rw [List.length_append,List.length_cons,FU,KD];omega,us,?_,HC,fun j hj=>?_,fun j u y hu hy=>?_⟩
    ·rw [List.map_cons]
     unfold Instr.fill
     simp only
     have OW:(a.eval x).cells.size=z:=by rw [hv];simp;omega
     rw [if_neg (by rw [OW];simp;omega),H0]
     exact E2
    ·rw [HB j ah,kg,if_neg ah]
    ·by_cases hj:j<z
     ·rw [HB _ ah,kg,if_pos ah] at hu
      rw [List.getElem?_append_left ah] at hy
      have Ri:vs[j]?=some u:=by rw [←hu];congr 1;omega
      exact (dY (dz j u y Ri hy) (ik (l:=c++m) (j:=j) hp (by rw [List.getElem?_append_left ah];exact hy))).1
     ·rw [List.getElem?_append_right ah] at hy
      refine MD (j-z) u y ?_ (by rw [←hy,KD])
      rw [←hu];congr 1;omega
   ·cases hc
  ·cases hc
theorem AJ {t d len:Nat} {parts:Array (Nat×Operand)} (ho:o.op= .buildSlice t len parts) (hd:o.dst=some d) (hr:uJ P n s d t len parts.toList h=some q):lV P n s o q.1 q.2:=by
 intro hC S0 w0 a w Q ⟨QN,lr⟩
 unfold uJ at hr
 split at hr
 ·rename_i el hu
  split at hr
  ·rename_i z zero s1 hz hzero O3
   obtain ⟨φ,hs⟩:=fA _ _ _ _ O3 lr
   split at hr
   ·rename_i cells dn hlen Ai
    split at hr
    ·rename_i uf
     have uf:=Nat.eq_of_beq_eq_true uf
     have hlen:=Nat.eq_of_beq_eq_true hlen
     have Ai:len*(z+1)≤16777216:=Nat.le_of_ble_eq_true Ai
     have bZ:dD cells=true-> ∃us:Array Value,(execOp a.eval o).run P w= .ok (.value (.slice (some ⟨w.heap.size,0,none⟩) len len)) {w with heap:=w.heap.push (.cells us el (0,0))}∧us.size=cells.length∧cells.length=(z+1)*len∧ ∀(j:Nat) u x,us[j]?=some u->cells[j]?=some x->cp (aJ S0 w φ []) w u x:=by
      intro hp
      obtain ⟨h1,us,h2,h3,-,h4⟩:=BM hs (z+1) parts.toList 0 cells ((Array.range (len*(z+1))).map (zero.cells[· %zero.cells.size]!)) dn hp (by simp [←hlen])
      refine ⟨us,?_,by rw [h3,h1,hlen];simp,by rw [h1,hlen,Nat.mul_comm],fun j u x hu hx=>h4 j u x (by simpa using hu) hx⟩
      have z6:(sizeOf el).run P w= .ok (z+1) w:=run_sizeOf hz
      have pJ:(parts.map fun p=>(p.1,a.eval p.2)).toList=parts.toList.map fun p=>(p.1,a.eval p.2):=by simp
      unfold execOp
      simp only [ho,Instr.buildSlice,Sem.run_bind,run_underlying hu,Result.andThen_ok,z6,Sem.run_ite]
      rw [if_neg ah]
      by_cases h0:len*(z+1)=0
      ·rw [if_pos h0]
       simp only [Sem.run_pure,Result.andThen_ok]
       have:(Array.range (len*(z+1))).map (fun x=>(#[]:Array Value)[x%(#[]:Array Value).size]!)=(Array.range (len*(z+1))).map (fun x=>zero.cells[x%zero.cells.size]!):=by rw [h0,gX,gX]
       rw [this,pJ,h2]
       rfl
      ·rw [if_neg h0]
       simp only [iE hzero,Result.andThen_ok,Sem.run_pure]
       rw [pJ,h2]
       rfl
     have hm:len≤maxLen:=by
      have:len≤len*(z+1):=Nat.le_mul_of_pos_right _ ah
      unfold maxLen;omega
     split at hr
     ·rename_i row _
      split at hr
      ·rename_i s' hp bU
       injection hr with hr;subst hr
       obtain ⟨us,bZ,h1,h2,h3⟩:=bZ hp
       have e:=hC.1
       subst e
       refine cI bZ ?_
       rw [hd]
       have hf:=hs.fresh (w':={w with heap:=w.heap.push (.cells us el (0,0))}) d ⟨z+1,true,true,cells⟩ (iI bU) rfl rfl rfl (by simp) (cB w _) (dm w _) (by simp) (by simp [h1]) (by simp [h1]) (fun j u x hu hx=>⟨fun _=>h3 j u x hu hx,fun h=>by cases h⟩)
       exact ⟨_,dB hf (.ref d _ _ _ len len (eT d _ _) h2 (Nat.le_refl _) hm (by unfold aS;rw [dm];show us.size=_;rw [h1,h2])) bU⟩
      ·cases hr
     ·split at hr
      ·rename_i s' hp bU
       injection hr with hr;subst hr
       obtain ⟨us,bZ,h1,h2,h3⟩:=bZ hp
       refine cI bZ ?_
       rw [hd]
       have hf:=hs.fresh (w':={w with heap:=w.heap.push (.cells us el (0,0))}) d ⟨z+1,true,true,cells⟩ (iI bU) rfl rfl rfl (by simp) (cB w _) (dm w _) (by simp) (by simp [h1]) (by simp [h1]) (fun j u x hu hx=>⟨fun _=>h3 j u x hu hx,fun h=>by cases h⟩)
       exact ⟨_,dB hf (.ref d _ _ _ len len (eT d _ _) h2 (Nat.le_refl _) hm (by unfold aS;rw [dm];show us.size=_;rw [h1,h2])) bU⟩
      ·cases hr
    ·cases hr
   ·cases hr
  ·cases hr
 ·cases hr
def sX (zs:List AV) (k:Nat):List AV:=match zs with| [x]=>List.replicate k x|zs=>(List.replicate k zs).flatten
theorem D7 (zs:List AV) (e:Nat) (he:zs.length=e) (h0:0<e):∀(k j:Nat) (x:AV),((List.replicate k zs).flatten)[j]?=some x->zs[j%e]?=some x
 | 0,j,x,h=>by simp at h
 | k+1,j,x,h=>by
  rw [List.replicate_succ,List.flatten_cons] at h
  by_cases hj:j<e
  ·rw [List.getElem?_append_left ah] at h
   rw [Nat.mod_eq_of_lt hj];exact h
  ·rw [List.getElem?_append_right ah] at h
   have:=D7 zs e he h0 k _ x h
   rw [he] at this
   rw [show j%e=(j-e)%e from ?_]
   ·exact this
   ·rw [Nat.mod_eq_sub_mod ah]
theorem wL (zs:List AV) (e:Nat) (he:zs.length=e) (h0:0<e) (k j:Nat) (x:AV) (h:(sX zs k)[j]?=some x):zs[j%e]?=some x:=by
 unfold sX at h
 split at h
 ·simp at he
  subst he
  rw [List.getElem?_replicate] at h
  split at h
  ·injection h with h;subst h;simp [Nat.mod_one]
  ·cases h
 ·exact D7 zs e he h0 k j x h
theorem sW (zs:List AV) (e:Nat) (he:zs.length=e) (k:Nat):(sX zs k).length=e*k:=by
 unfold sX
 split
 ·simp at he;subst he;simp
 ·rw [List.length_flatten];simp [he,Nat.mul_comm]
def Cg (P:Program) (n:Nat) (s:AS) (d t:Nat) (L C:Int) (h:Hint):Option (AS×List Prop) :=
 match P.underlying t with
 | some (.slice el)=>(match P.info? el with
  | some i=>(match i.zero,i.size with
   | some zero,z+1=>(match Nat.beq zero.cells.size (z+1) with
    | true=>(match fZ n (install s d ⟨z+1,true,false,(named h (sX (zero.cells.toList.map bx) h.k)).1⟩) (some d) (.ref d) with
     | some s'=>some (s',(named h (sX (zero.cells.toList.map bx) h.k)).2++ [L=(h.k:Int),C=(h.m:Int),h.k≤h.m,i.bytes*h.m≤281474976710656,h.m≤maxLen])|none=>none)
    | false=>none)
   | _,_=>none)
  | none=>none)
 | _=>none
theorem run_make {P:Program} {o:Oper} {ev:Operand->Value} {t:Nat} {l c:Operand} {kl kc:IntKind} {L C:Int} {el:TypeId} {i:TypeInfo} {zero:Value} {z k m:Nat} (ho:o.op= .makeSlice t l c) (LP:ev l= .int kl L) (ec:ev c= .int kc C) (hu:P.underlying t=some (.slice el)) (hi:P.info? el=some i) (hz:i.zero=some zero) (dc:i.size=z+1) (hb:zero.cells.size=z+1)
  (h1:L=(k:Int)) (h2:C=(m:Int)) (h3:k≤m) (h4:i.bytes*m≤281474976710656) (h5:m≤maxLen) (w:World) :
  ∃cur:Array Value,(execOp ev o).run P w= .ok (.value (.slice (some ⟨w.heap.size,0,none⟩) k m)) {w with heap:=w.heap.push (.cells cur el (0,0))}∧cur.size=(z+1)*m∧ ∀(j:Nat) u,cur[j]?=some u->zero.cells[j%(z+1)]?=some u:=by
 have VV:m≤9223372036854775807:=by have:=h5;unfold maxLen at this;omega
 have wl:IntKind.i64.wrap L=(k:Int):=by rw [h1,IntKind.wrap_i64];omega
 have wc:IntKind.i64.wrap C=(m:Int):=by rw [h2,IntKind.wrap_i64];omega
 have U4:((i.bytes:Int)*(m:Int))≤281474976710656:=by
  have QF:((i.bytes*m:Nat):Int)≤281474976710656:=ah
  rw [Int.natCast_mul] at QF;exact QF
 have T3:(zeroValue el).run P w= .ok zero w:=iE (by rw [hi];exact hz)
 have S9:(sizeOf el).run P w= .ok (z+1) w:=by simp [sizeOf,typeInfo,hi,dc]
 have S7:(typeInfo el).run P w= .ok i w:=by simp [typeInfo,hi]
 have t1:¬((m:Int)<0):=ah
 have t2:¬(281474976710656<(i.bytes:Int)*(m:Int)):=ah
 have t3:¬((k:Int)<0):=ah
 have t4:¬((m:Int)<(k:Int)):=ah
 by_cases h0:m*(z+1)=0
 ·refine ⟨#[],?_,by rw [Nat.mul_comm];simp [h0],fun j u hu=>by simp at hu⟩
  unfold execOp
  simp [ho,LP,ec,Instr.makeSlice,run_underlying hu,S7,S9,asInt,asIntOf,wl,wc,t1,t2,t3,t4,newRow]
  have:m=0:=by
   rcases Nat.eq_zero_or_pos m with h6|h6
   ·exact h6
   ·have:=Nat.mul_pos h6 (ah:0<z+1);omega
  simp [this,gX]
 ·refine ⟨(Array.range (m*(z+1))).map (zero.cells[· %zero.cells.size]!),?_,by simp [Nat.mul_comm],fun j u hu=>?_⟩
  ·unfold execOp
   simp [ho,LP,ec,Instr.makeSlice,run_underlying hu,S7,S9,asInt,asIntOf,wl,wc,t1,t2,t3,t4,newRow,T3]
   exact fun e=>absurd e h0
  ·simp only [Array.getElem?_map] at hu
   cases hj:(Array.range (m*(z+1)))[j]? with
   | none=>rw [hj] at hu;cases hu
   | some k =>
    have hk:k=j:=by
     have:=Array.getElem?_eq_some_iff.1 hj
     obtain ⟨cW,he⟩:=this
     rw [←he];simp
    subst hk
    rw [hj] at hu
    injection hu with hu
    rw [hb] at hu
    have cW:k%(z+1)<zero.cells.size:=by rw [hb];exact Nat.mod_lt _ ah
    simp [getElem!_pos,cW] at hu
    simp [cW,hu]
theorem Fm {t d:Nat} {l c:Operand} {kl kc:IntKind} {L C:Int} (ho:o.op= .makeSlice t l c) (hl:bj s l= .val (.int kl L)) (hc:bj s c= .val (.int kc C)) (hd:o.dst=some d) (hr:Cg P n s d t L C h=some q):lV P n s o q.1 q.2:=by
 intro hC S0 w0 a w Q ⟨φ,hs⟩
 have LP:a.eval l= .int kl L:=bE (hl ▸ hs.bj l)
 have ec:a.eval c= .int kc C:=bE (hc ▸ hs.bj c)
 unfold Cg at hr
 split at hr
 ·rename_i el hu
  split at hr
  ·rename_i i hi
   split at hr
   ·rename_i zero z hz dc
    split at hr
    ·rename_i hb
     have hb:=Nat.eq_of_beq_eq_true hb
     split at hr
     ·rename_i s' bU
      injection hr with hr;subst hr
      obtain ⟨Ku,hC⟩:=gP hC
      rw [Ku] at bU
      obtain ⟨h1,h2,h3,h4,h5,-⟩:=hC
      have bZ:=run_make ho LP ec hu hi hz dc hb h1 h2 h3 h4 h5 w
      obtain ⟨cur,bZ,wm,bq⟩:=bZ
      refine cI bZ ?_
      rw [hd]
      have FO:(zero.cells.toList.map bx).length=z+1:=by simp [hb]
      have FR:=sW (zero.cells.toList.map bx) (z+1) FO h.k
      have hle:(z+1)*h.k≤(z+1)*h.m:=Nat.mul_le_mul_left _ h3
      have hf:=hs.fresh (w':={w with heap:=w.heap.push (.cells cur el (0,0))}) d ⟨z+1,true,false,sX (zero.cells.toList.map bx) h.k⟩ (iI bU) rfl rfl rfl (by simp) (cB w _) (dm w _) (by simp) (by simp only [FR,wm];exact hle) (fun h=>by cases h) (fun j u x hu hx=>⟨fun _=>by
       have h6:=wL _ (z+1) FO ah _ _ _ hx
       have h7:=bq j u hu
       rw [List.getElem?_map] at h6
       have h8:zero.cells.toList[j%(z+1)]?=some u:=by simpa using h7
       rw [h8] at h6;injection h6 with h6;subst h6;exact fE u,fun h=>by cases h⟩)
      exact ⟨_,dB hf (.ref d _ _ _ h.k h.m (eT d _ _) FR h3 h5 (by unfold aS;rw [dm];exact wm)) bU⟩
     ·cases hr
    ·cases hr
   ·cases hr
  ·cases hr
 ·cases hr
def xS (P:Program) (n:Nat) (s:AS) (d src dst:Nat) (b:ByteArray):Option (AS×List Prop) :=
 match P.underlying src,P.underlying dst with
 | some .string,some (.slice el)=>(match P.underlying el with
  | some (.int .u8)=>(match fZ n (install s d ⟨1,true,false,ag b.data.toList⟩) (some d) (.ref d) with|some s'=>some (s',[b.size≤maxLen])|none=>none)
  | _=>none)
 | _,_=>none
theorem Cv {src dst d:Nat} {x:Operand} {b:ByteArray} (ho:o.op= .convert src dst x) (hx:bj s x= .val (.string b)) (hd:o.dst=some d) (hr:xS P n s d src dst b=some q):lV P n s o q.1 q.2:=by
 intro hC S0 w0 a w Q ⟨φ,hs⟩
 have ex:a.eval x= .string b:=bE (hx ▸ hs.bj x)
 unfold xS at hr
 split at hr
 ·rename_i el h1 h2
  split at hr
  ·rename_i h3
   split at hr
   ·rename_i s' bU
    injection hr with hr;subst hr
    have dc:=hC.1
    have Ac:=vv.of_string w b el dc
    have bZ:(execOp a.eval o).run P w= .ok (.value (.slice (some ⟨w.heap.size,0,none⟩) b.size (grownCap w b.size 0 el))) (w.drew.alloc (.cells (bytesRow b (grownCap w b.size 0 el)) el ((bytesRow b (grownCap w b.size 0 el)).size,(bytesRow b (grownCap w b.size 0 el)).size+1))):=by
     unfold execOp
     simp [ho,ex,run_bytes_of_string w src dst el b h1 h2 h3]
    refine cI bZ ?_
    rw [hd]
    have u_:=grownCap_ge w b.size 0 el
    have sL:grownCap w b.size 0 el≤maxLen:=grownCap_le_maxLen w _ 0 el dc
    have PD:(bytesRow b (grownCap w b.size 0 el)).size=grownCap w b.size 0 el:=by
     unfold bytesRow;simp only [Array.size_append,Array.size_map,Array.size_replicate]
     show b.size+_=_
     omega
    have pK:(ag b.data.toList).length=b.size:=by rw [aA];rfl
    have lL:(w.drew.alloc (.cells (bytesRow b (grownCap w b.size 0 el)) el ((bytesRow b (grownCap w b.size 0 el)).size,(bytesRow b (grownCap w b.size 0 el)).size+1))).heap[w.heap.size]?=some (.cells (bytesRow b (grownCap w b.size 0 el)) el ((bytesRow b (grownCap w b.size 0 el)).size,(bytesRow b (grownCap w b.size 0 el)).size+1)):=heap_alloc_new w.drew _
    have hf:=hs.fresh (w':=w.drew.alloc (.cells (bytesRow b (grownCap w b.size 0 el)) el ((bytesRow b (grownCap w b.size 0 el)).size,(bytesRow b (grownCap w b.size 0 el)).size+1))) d ⟨1,true,false,ag b.data.toList⟩ (iI bU) rfl rfl rfl (by simp) (fun k hk=>Below.heap_alloc w.drew _ k hk) lL (fun j hj=>by simp only;omega) (by simp only [pK,PD];exact u_) (fun h=>by cases h) (fun j u x hu hx=>⟨fun _=>by
     have hj:j<b.size:=by have:=(List.getElem?_eq_some_iff.1 hx).1;rw [pK] at this;exact this
     have V2:j<b.data.toList.length:=hj
     have sJ:j<b.data.size:=hj
     have e1:(bytesRow b (grownCap w b.size 0 el))[j]?=some (.int .u8 (b.data.toList[j].toNat)):=by
      unfold bytesRow
      rw [Array.getElem?_append_left (by simpa using hj)]
      simp
      exact ⟨_,Array.getElem?_eq_getElem sJ,rfl⟩
     rw [e1] at hu;injection hu with hu;subst hu
     have e2:(ag b.data.toList)[j]?=some (.val (.int .u8 (bv b.data.toList[j]))):=by
      simp [ag]
      exact ⟨_,Array.getElem?_eq_getElem sJ,rfl⟩
     rw [e2] at hx;injection hx with hx;subst hx
     exact .val _,fun h=>by cases h⟩)
    exact ⟨_,dB hf (.ref d 1 _ _ b.size (grownCap w b.size 0 el) (eT d _ _) (by rw [Nat.one_mul];exact pK) u_ sL (by unfold aS;rw [lL];simp only [PD,Nat.one_mul])) bU⟩
   ·cases hr
  ·cases hr
 ·cases hr
end
section
variable {S0:bf} {w0 w w':World} {n:Nat} {s:AS} {a:Act} {φ:Nat->Option Nat}
theorem aH.stored (h:aH S0 w0 n [] s a w φ) {id:Nat} {r r':Row} {g:Nat} (hr:look s.H id=some r) (bY:φ id=some g) (he:r'.e=r.e) (hlen:r'.cells.length=r.cells.length) (HZ:r'.full=r.full)
  {cur cur':Array Value} {te:TypeId} {fr:Nat×Nat} (hg:w.heap[g]?=some (.cells cur te fr)) (iW:w'.heap[g]?=some (.cells cur' te fr)) (dc:cur'.size=cur.size)
  (HK:w'.os=w.os) (ug:w'.tape=w.tape) (uh:w'.output=w.output) (Ra:w'.heap.size=w.heap.size) (hb:∀b,b≠g->w'.heap[b]?=w.heap[b]?)
  (hc:∀(j:Nat) u x,cur'[j]?=some u->r'.cells[j]?=some x->a_ (az s.H φ) (aJ S0 w φ []) w r'.pure u x):aH S0 w0 n [] ⟨s.F,(id,r')::cF s.H id⟩ a w' φ:=by
 have hI:∀i x,az s.H φ i=some x->az ((id,r')::cF s.H id) φ i=some x:=by
  intro i x hi
  obtain ⟨e,m,b⟩:=x
  obtain ⟨q,hl,h1,h2,h3⟩:=aL hi
  by_cases cK:id=i
  ·subst cK
   rw [hr] at hl;injection hl with hl;subst hl
   rw [bn (r:=r') (by rw [aB,if_pos rfl]),he,hlen,h1,h2,h3]
  ·rw [bn (r:=q) (by rw [aB,if_neg cK,bC,if_neg cK,hl]),h1,h2,h3]
 have hF:∀b,aJ S0 w φ [] b->aJ S0 w' φ [] b∧w'.heap[b]?=w.heap[b]?:=fun b kE=>⟨⟨by rw [Ra];exact kE.1,kE.2⟩,hb b fun e=>kE.2.2.1 id (by rw [bY,e])⟩
 have hL:∀i e m g',az s.H φ i=some (e,m,some g')->aS w' g'=aS w g':=by
  intro i e m g' _
  unfold aS
  by_cases e:g'=g
  ·subst e;rw [hg,iW];exact dc
  ·rw [hb g' e]
 have aK:=h.rows id r hr
 unfold bJ at aK
 rw [bY] at aK
 obtain ⟨VB,VO,Wb,Af,gv,hle,mD,-⟩:=aK
 rw [hg] at Af
 injection Af with Af
 injection Af with e1 e2 e3
 subst e1;subst e2;subst e3
 refine ⟨h.jF,h.jJ,⟨HK.trans h.cM.os,ug.trans h.cM.tape,uh.trans h.cM.output,by rw [Ra];exact h.cM.size,fun k hk hx=>?_,h.cM.g0,h.cM.gx⟩,fun i av hi=>(h.ct i av hi).mono hI hF hL,fun i q hq=>?_,fun i hi=>?_,h.inj,fun i g' iW=>by rw [Ra];exact h.cL i g' iW,h.apart,h.new⟩
 ·rw [hb k (fun e=>by rcases (h.cL id g bY).1.2 with h|h;omega;rw [e] at hx;exact hx h)]
  exact h.cM.block k hk hx
 ·rw [aB] at hq
  by_cases cK:id=i
  ·rw [if_pos cK] at hq;injection hq with hq;subst hq;subst cK
   rw [bY]
   refine ⟨cur',te,fr,iW,fun j hj=>gv j ah,by rw [hlen,dc];exact hle,fun hf=>by rw [hlen,dc];exact mD (by rw [←HZ];exact hf),fun j u x hu hx=>?_⟩
   have:=hc j u x hu hx
   unfold a_ at this ⊢
   cases hp:r'.pure with
   | true=>rw [hp] at this;exact this.mono hF
   | false=>rw [hp] at this;exact this.mono hI hF hL
  ·rw [if_neg cK,bC,if_neg cK] at hq
   have gB:=h.rows i q hq
   unfold bJ at gB ⊢
   cases BS:φ i with
   | none=>rw [BS] at gB;exact gB
   | some g2 =>
    rw [BS] at gB
    obtain ⟨CN,TQ,Vx,Ps,FV,BW,RO,Oc⟩:=gB
    have Rw:g2≠g:=fun e=>cK (h.inj id i g bY (by rw [BS,e]))
    refine ⟨CN,TQ,Vx,(hb g2 Rw).trans Ps,FV,BW,RO,fun j u x hu hx=>?_⟩
    have:=Oc j u x hu hx
    unfold a_ at this ⊢
    cases hp:q.pure with
    | true=>rw [hp] at this;exact this.mono hF
    | false=>rw [hp] at this;exact this.mono hI hF hL
 ·rw [aB] at hi
  by_cases cK:id=i
  ·rw [if_pos cK] at hi;cases hi
  ·rw [if_neg cK,bC,if_neg cK] at hi
   exact h.only i hi
end
def CS:AV->Bool
 | .val u=>u.oneCell'
 | .nil=>true
 | .sl _ _=>true
 | .ptr _ _=>true
 | .ref _=>true
 | .pre _ _=>true
 | .jg _ _ _=>true
 | .addr _ _=>true
 | _=>false
def p_:List AV->Bool
 | []=>true
 | x::l=>match CS x with|true=>p_ l|false=>false
theorem CR {I:Info} {S:Nat->Prop} {w:World} {v:Value} {x:AV} (hd:Den I S w v x) (hp:CS x=true):v.oneCell'=true:=by
 cases hd with
 | rep h=>cases h<;>first|exact hp|rfl|cases hp
 | agg=>cases hp
 | br=>cases hp
 | dead=>cases hp
 | _=>rfl
theorem uX:∀ {l:List AV} {j:Nat} {x:AV},p_ l=true->l[j]?=some x->CS x=true
 | [],j,x,_,h=>by simp at h
 | y::l,j,x,hp,h=>by
  simp only [p_] at hp
  split at hp
  ·rename_i hy
   cases j with
   | zero=>simp at h;subst h;exact hy
   | succ j=>exact uX hp (by simpa using h)
  ·cases hp
def setCells (cells:List AV) (off:Nat) (l:List AV):List AV:=match l with| [x]=>cells.set off x|l=>cells.take off++l++cells.drop (off+l.length)
theorem mT (cells:List AV) (off:Nat) (l:List AV) (h:off+l.length≤cells.length):setCells cells off l=cells.take off++l++cells.drop (off+l.length):=by
 unfold setCells
 split
 ·rename_i x
  simp only [List.length_cons,List.length_nil] at h ⊢
  rw [List.set_eq_take_append_cons_drop,if_pos ah]
  simp
 ·rfl
theorem vK {α:Type} (l m:List α) (off j:Nat) (h:off+m.length≤l.length):(l.take off++m++l.drop (off+m.length))[j]?=if off≤j∧j<off+m.length then m[j-off]? else l[j]?:=by
 by_cases h1:j<off
 ·rw [List.getElem?_append_left (by simp only [List.length_append,List.length_take];omega),List.getElem?_append_left (by simp only [List.length_take];omega),List.getElem?_take,if_pos h1,if_neg ah]
 ·by_cases h2:j<off+m.length
  ·rw [List.getElem?_append_left (by simp only [List.length_append,List.length_take];omega),List.getElem?_append_right (by simp only [List.length_take];omega),if_pos ah]
   congr 1;simp only [List.length_take];omega
  ·rw [List.getElem?_append_right (by simp only [List.length_append,List.length_take];omega),List.getElem?_drop,if_neg ah]
   congr 1;simp only [List.length_append,List.length_take];omega
theorem oz {α:Type} (l m:List α) (off:Nat) (h:off+m.length≤l.length):(l.take off++m++l.drop (off+m.length)).length=l.length:=by
 simp only [List.length_append,List.length_take,List.length_drop];omega
def EB (s:AS) (id:Nat) (r:Row):AS:=⟨s.F,(id,r)::cF s.H id⟩
def uH (P:Program) (s:AS) (t:TypeId) (x:Operand) (cs:List AV) (h:Hint):Option (AS×List Prop) :=
 match bj s x with
 | .addr id off=>(match look s.H id,dN P t with
  | some r,some z=>(match r.pure with
   | true=>some (EB s id ⟨r.e,true,r.full,(named h (r.cells.take off++cs++r.cells.drop (off+cs.length))).1⟩,(named h (r.cells.take off++cs++r.cells.drop (off+cs.length))).2++ [cs.length=z,∀x∈cs,gV x=true,off+cs.length≤r.cells.length])
   | false=>none)
  | _,_=>none)
 | _=>none
def kH (P:Program) (s:AS) (t:TypeId) (x:Operand) (y:Operand) (h:Hint):Option (AS×List Prop) :=
 match bj s x with
 | .addr id off=>(match look s.H id,dN P t with
  | some r,some z=>(match r.pure with
   | true=>(match fB s (n0 (bj s y)) with
    | some s1=>(match look s1.H id,kY (bj s1 y),bj s1 x with
     | some r1,some l,.addr oM BI=>(match Nat.beq id oM,Nat.beq l.length z,dD l,r1.pure with
      | true,true,true,true=>some (EB s1 id ⟨r1.e,true,r1.full,(named h (setCells r1.cells BI l)).1⟩,(named h (setCells r1.cells BI l)).2++ [BI+l.length≤r1.cells.length])
      | _,_,_,_=>none)
     | _,_,_=>none)
    | none=>none)
   | false=>(match kY (bj s y) with
    | some l=>(match Nat.beq l.length z,p_ l with
     | true,true=>some (EB s id ⟨r.e,false,r.full,(named h (setCells r.cells off l)).1⟩,(named h (setCells r.cells off l)).2++ [off+l.length≤r.cells.length])
     | _,_=>none)
    | none=>none))
  | _,_=>none)
 | _=>none
def xE (P:Program) (s:AS) (t:TypeId) (x:Operand) (y:Operand) (h:Hint):Option (AS×List Prop) :=
 match bj s y,h.k with
 | .arr cs,1=>uH P s t x cs h
 | _,_=>kH P s t x y h
section
variable {P:Program} {n:Nat} {s:AS} {o:Oper} {h:Hint} {q:AS×List Prop}
theorem r8 {w:World} {t:TypeId} {g off z:Nat} {v:Value} {vs:List Value} {cur:Array Value} {te:TypeId} {fr:Nat×Nat} (hz:dN P t=some z) (hv:v.cells=vs.toArray) (hl:vs.length=z) (hg:w.heap[g]?=some (.cells cur te fr)) (hf:∀j,j<cur.size-> ¬(fr.1≤j∧j<fr.2)) (ml:off+vs.length≤cur.size) (h1:∀u∈vs,u.oneCell'=true) :
  (storeVar t ⟨g,off,none⟩ v).run P w= .ok () (w.setRow g (cur.toList.take off++vs++cur.toList.drop (off+vs.length)).toArray):=by
 have dI:=cN P g te fr cur.size hf off vs 0 cur w hg ah rfl h1
 simp only [Nat.add_zero] at dI
 unfold storeVar
 have z6:(sizeOf t).run P w= .ok z w:=run_sizeOf hz
 simp only [Sem.run_bind,z6,Result.andThen_ok,Sem.run_ite,hv]
 rw [if_neg (by simp [hl])]
 simp [dI]
theorem pf {w:World} {g:Nat} {cur cur':Array Value} {te:TypeId} {fr:Nat×Nat} (hg:w.heap[g]?=some (.cells cur te fr)):(w.setRow g cur').heap[g]?=some (.cells cur' te fr)∧(w.setRow g cur').heap.size=w.heap.size∧ ∀b,b≠g->(w.setRow g cur').heap[b]?=w.heap[b]? :=
 ⟨setRow_heap w g cur cur' te fr hg,by simp,fun b hb=>setRow_other w g b _ hb⟩
theorem aH.written {S0:bf} {w0 w:World} {a:Act} {φ:Nat->Option Nat} (hs:aH S0 w0 n [] s a w φ) {id off g:Nat} {r:Row} {l cells:List AV} {vs:List Value} {cur:Array Value} {te:TypeId} {fr:Nat×Nat} (hr:look s.H id=some r) (bY:φ id=some g) (hg:w.heap[g]?=some (.cells cur te fr)) (hle:r.cells.length≤cur.size)
  (hold:∀(j:Nat) u x,cur[j]?=some u->r.cells[j]?=some x->a_ (az s.H φ) (aJ S0 w φ []) w r.pure u x) (hlen:vs.length=l.length) (ml:off+l.length≤r.cells.length) (dn:cells=setCells r.cells off l)
  (lL:∀(j:Nat) u x,vs[j]?=some u->l[j]?=some x->a_ (az s.H φ) (aJ S0 w φ []) w r.pure u x) :
  aH S0 w0 n [] (EB s id ⟨r.e,r.pure,r.full,cells⟩) a (w.setRow g (cur.toList.take off++vs++cur.toList.drop (off+vs.length)).toArray) φ:=by
 obtain ⟨f1,f2,f3⟩:=pf (cur':=(cur.toList.take off++vs++cur.toList.drop (off+vs.length)).toArray) hg
 have gw:cur.toList.length=cur.size:=rfl
 rw [mT _ _ _ ml] at dn
 refine hs.stored (r':=⟨r.e,r.pure,r.full,cells⟩) hr bY rfl (by rw [dn,oz _ _ _ ml]) rfl hg f1 (by simp only [List.size_toArray];rw [oz _ _ _ ah];rfl) rfl rfl rfl f2 f3 fun j u x hu hx=>?_
 simp only [List.getElem?_toArray] at hu
 rw [vK _ _ _ _ ah] at hu
 simp only [dn] at hx
 rw [vK _ _ _ _ ml] at hx
 by_cases hj:off≤j∧j<off+l.length
 ·rw [if_pos hj] at hx
  rw [if_pos ah] at hu
  exact lL _ u x hu hx
 ·rw [if_neg hj] at hx
  rw [if_neg ah] at hu
  exact hold j u x (by simpa using hu) hx
theorem Bt {S0:bf} {w0 w:World} {a:Act} {φ:Nat->Option Nat} (hs:aH S0 w0 n [] s a w φ) {id g:Nat} {r:Row} (hr:look s.H id=some r) (bY:φ id=some g):∃cur te fr,w.heap[g]?=some (.cells cur te fr)∧(∀j,j<cur.size-> ¬(fr.1≤j∧j<fr.2))∧r.cells.length≤cur.size∧ ∀(j:Nat) u x,cur[j]?=some u->r.cells[j]?=some x->a_ (az s.H φ) (aJ S0 w φ []) w r.pure u x:=by
 have aK:=hs.rows id r hr
 unfold bJ at aK
 rw [bY] at aK
 obtain ⟨cur,te,fr,hg,hf,hl,-,hc⟩:=aK
 exact ⟨cur,te,fr,hg,hf,hl,hc⟩
theorem tq {S0:bf} {w0 w:World} {a:Act} {φ:Nat->Option Nat} {Q:Exit->Act->World->Prop} (hs:aH S0 w0 n [] s a w φ) {t:TypeId} {x y:Operand} (ho:o.op= .store t x y) (hd:o.dst=none) {id off z:Nat} {r:Row} {l cells:List AV} (hx:bj s x= .addr id off) (hr:look s.H id=some r) (hz:dN P t=some z) (hl:kY (bj s y)=some l) (VW:l.length=z) (ml:off+l.length≤r.cells.length) (dn:cells=setCells r.cells off l)
  (hp:(r.pure=true∧ ∀x∈l,gV x=true)∨(r.pure=false∧p_ l=true)):o.wp P a w (fun a' w'=>ib S0 w0 n (EB s id ⟨r.e,r.pure,r.full,cells⟩) a' w') Q:=by
 have SZ:=hs.bj x
 rw [hx] at SZ
 obtain ⟨e,m,g,hi,hv⟩:=jE SZ
 obtain ⟨r',gZ,-,-,bY⟩:=aL hi
 obtain ⟨cur,te,fr,hg,hf,hle,hold⟩:=Bt hs hr bY
 obtain ⟨vs,Ub,E1,dz⟩:=lS (hs.bj y) hl
 have ui:∀u∈vs,u.oneCell'=true:=by
  intro u hu
  obtain ⟨j,hj⟩:=List.getElem?_of_mem hu
  have ML:j<l.length:=by have:=(List.getElem?_eq_some_iff.1 hj).1;omega
  have RC:l[j]?=some l[j]:=List.getElem?_eq_getElem ML
  rcases hp with ⟨-,hp⟩|⟨-,hp⟩
  ·exact (dY (dz j u _ hj RC) (hp _ (List.getElem_mem ML))).2
  ·exact CR (dz j u _ hj RC) (uX hp RC)
 have bZ:=r8 (P:=P) (w:=w) (t:=t) (g:=g) (off:=off) hz Ub ah hg hf ah ui
 unfold Oper.wp
 have:(execOp a.eval o).run P w= .ok .skip (w.setRow g (cur.toList.take off++vs++cur.toList.drop (off+vs.length)).toArray):=by
  unfold execOp
  simp [ho,Instr.storeAt,Instr.sureAddr,hv,bZ]
 rw [this]
 show ib S0 w0 n _ (a.put o.dst undef) _
 rw [hd]
 refine ⟨φ,hs.written hr bY hg hle hold E1 ml dn fun j u x hu hx=>?_⟩
 unfold a_
 rcases hp with ⟨Lx,hp⟩|⟨Lx,hp⟩<;>rw [Lx]
 ·exact (dY (dz j u x hu hx) (hp x (List.mem_of_getElem? hx))).1
 ·exact dz j u x hu hx
theorem AE {t:TypeId} {x y:Operand} {cs:List AV} (ho:o.op= .store t x y) (hd:o.dst=none) (hy:bj s y= .arr cs) (hr:uH P s t x cs h=some q):lV P n s o q.1 q.2:=by
 intro hC S0 w0 a w Q ⟨φ,hs⟩
 unfold uH at hr
 split at hr
 ·rename_i id off hx
  split at hr
  ·rename_i r z aK hz
   split at hr
   ·rename_i pI
    injection hr with hr;subst hr
    obtain ⟨hn,hlen,hp,ml,-⟩:=gP hC
    have:=tq (Q:=Q) hs ho hd hx aK hz (l:=cs) (by rw [hy];rfl) hlen ml (hn.trans (mT _ _ _ ml).symm) (.inl ⟨pI,hp⟩)
    rw [pI] at this
    exact this
   ·cases hr
  ·cases hr
 ·cases hr
theorem rR {t:TypeId} {x y:Operand} (ho:o.op= .store t x y) (hd:o.dst=none) (hr:kH P s t x y h=some q):lV P n s o q.1 q.2:=by
 intro hC S0 w0 a w Q ⟨QN,lr⟩
 unfold kH at hr
 split at hr
 ·rename_i id off hx
  split at hr
  ·rename_i r z aK hz
   split at hr
   ·rename_i pI
    split at hr
    ·rename_i s1 HE
     obtain ⟨φ,hs⟩:=fA _ _ _ _ HE lr
     split at hr
     ·rename_i r1 l oM BI Pa hl Q_
      split at hr
      ·rename_i h1 h2 h3 h4
       injection hr with hr;subst hr
       have h1:=Nat.eq_of_beq_eq_true h1
       have h2:=Nat.eq_of_beq_eq_true h2
       subst h1
       obtain ⟨hn,ml,-⟩:=gP hC
       have:=tq (Q:=Q) hs ho hd Q_ Pa hz hl h2 ml hn (.inl ⟨h4,fun x hx=>by obtain ⟨j,hj⟩:=List.getElem?_of_mem hx;exact ik h3 hj⟩)
       rw [h4] at this
       exact this
      ·cases hr
     ·cases hr
    ·cases hr
   ·rename_i pI
    split at hr
    ·rename_i l hl
     split at hr
     ·rename_i h2 h3
      injection hr with hr;subst hr
      have h2:=Nat.eq_of_beq_eq_true h2
      obtain ⟨hn,ml,-⟩:=gP hC
      have:=tq (Q:=Q) lr ho hd hx aK hz hl h2 ml hn (.inr ⟨pI,h3⟩)
      rw [pI] at this
      exact this
     ·cases hr
    ·cases hr
  ·cases hr
 ·cases hr
theorem Ca {t:TypeId} {x y:Operand} (ho:o.op= .store t x y) (hd:o.dst=none) (hr:xE P s t x y h=some q):lV P n s o q.1 q.2:=by
 unfold xE at hr
 split at hr
 ·rename_i cs hy _;exact AE ho hd hy hr
 ·exact rR ho hd hr
def tu (s:AS):AV->Option (Nat×List AV)
 | .nil=>some (0,[])
 | .sl e row=>some (e,row)
 | .ref id=>(match look s.H id with|some ⟨e,true,_,cells⟩=>some (e,cells)|_=>none)
 | .pre id l=>(match look s.H id with|some ⟨e,true,_,cells⟩=>some (e,cells.take l)|_=>none)
 | .jg id o l=>(match look s.H id with|some ⟨e,true,_,cells⟩=>some (e,(cells.drop o).take l)|_=>none)
 | _=>none
theorem Mf {S0:bf} {w0 w:World} {a:Act} {φ:Nat->Option Nat} (hs:aH S0 w0 n [] s a w φ) {v:Value} {x:AV} (hx:Den (az s.H φ) (aJ S0 w φ []) w v x) {e:Nat} {row:List AV} (he:tu s x=some (e,row)) :
  ∃(A:Option Addr) (m c:Nat) (us:List Value),v= .slice A m c∧row.length=e*m∧us.length=row.length∧(0<row.length-> ∃ad,A=some ad∧ ∀(j:Nat) u,us[j]?=some u->w.cell? (ad.add j)=some u)∧(∀(j:Nat) u x,us[j]?=some u->row[j]?=some x->cp (aJ S0 w φ []) w u x)∧m≤maxLen:=by
 have K9:∀(id g:Nat) (r:Row),look s.H id=some r->r.pure=true->φ id=some g-> ∃us:List Value,r.cells.length≤us.length∧(∀(j:Nat) u,us[j]?=some u->w.cell? ⟨g,j,none⟩=some u)∧ ∀(j:Nat) u x,us[j]?=some u->r.cells[j]?=some x->cp (aJ S0 w φ []) w u x:=by
  intro id g r hr hp hg
  obtain ⟨cur,te,fr,iW,hf,hl,hc⟩:=ku hs hr hp hg
  exact ⟨cur.toList,hl,fun j u hu=>by rw [cell_of_row w g _ cur te fr iW];simpa using hu,fun j u x hu hx=>hc j u x (by simpa using hu) hx⟩
 cases hx with
 | rep h =>
  cases h with
  | nil=>injection he with he;injection he with h1 h2;subst h1;subst h2;exact ⟨none,0,0,[],rfl,rfl,rfl,fun h=>(by simp at h),fun j u x hu=>(by simp at hu),by simp⟩
  | sl A n c e' us EE hl hn hc hm ha h =>
   injection he with he;injection he with h1 h2;subst h1;subst h2
   exact ⟨A,n,c,us,rfl,hn,hl,fun h0=>by obtain ⟨ad,e1,_,e2⟩:=ha h0;exact ⟨ad,e1,e2⟩,h,ah⟩
  | _=>cases he
 | agg=>cases he
 | br=>cases he
 | dead=>cases he
 | addr=>cases he
 | ref id e' m g l c hi hm hc hx bU =>
  obtain ⟨r,hr,h1,h2,bY⟩:=aL hi
  obtain ⟨re,rp,rf,rc⟩:=r
  simp only [tu,hr] at he
  split at he
  ·rename_i heq
   injection heq with heq;cases heq
   injection he with he;injection he with h3 h4;subst h3;subst h4
   obtain ⟨us,OZ,HD,Lv⟩:=K9 id g _ hr rfl bY
   simp only at h1 h2 OZ Lv
   exact ⟨_,l,c,us.take rc.length,rfl,by rw [h2,hm,h1],by rw [List.length_take];omega,fun _=>⟨_,rfl,fun j u hu=>by rw [eJ];exact HD j u (bT _ _ _ _ hu)⟩,fun j u x hu hx=>Lv j u x (bT _ _ _ _ hu) hx,ah⟩
  ·cases he
 | cw id e' hi =>
  obtain ⟨r,hr,h1,h2,bY⟩:=aL hi
  obtain ⟨re,rp,rf,rc⟩:=r
  simp only [tu,hr] at he
  split at he
  ·rename_i heq
   injection heq with heq;cases heq
   injection he with he;injection he with h3 h4;subst h3;subst h4
   simp only at h2
   have:rc= []:=List.length_eq_zero_iff.1 h2
   subst this
   exact ⟨none,0,0,[],rfl,rfl,rfl,fun h=>(by simp at h),fun j u x hu=>(by simp at hu),by simp⟩
  ·cases he
 | pre id k e' m g l c hi hn hm hc hx bU =>
  obtain ⟨r,hr,h1,h2,bY⟩:=aL hi
  obtain ⟨re,rp,rf,rc⟩:=r
  simp only [tu,hr] at he
  split at he
  ·rename_i heq
   injection heq with heq;cases heq
   injection he with he;injection he with h3 h4;subst h3;subst h4
   obtain ⟨us,OZ,HD,Lv⟩:=K9 id g _ hr rfl bY
   simp only at h1 h2 OZ Lv
   have lg:(rc.take k).length=k:=by rw [List.length_take];omega
   exact ⟨_,l,c,us.take k,rfl,by rw [lg,hn,h1],by rw [lg,List.length_take];omega,fun _=>⟨_,rfl,fun j u hu=>by rw [eJ];exact HD j u (bT _ _ _ _ hu)⟩,fun j u x hu hx=>Lv j u x (bT _ _ _ _ hu) (bT _ _ _ _ hx),ah⟩
  ·cases he
 | df id e' hi =>
  obtain ⟨r,hr,h1,h2,bY⟩:=aL hi
  obtain ⟨re,rp,rf,rc⟩:=r
  simp only [tu,hr] at he
  split at he
  ·rename_i heq
   injection heq with heq;cases heq
   injection he with he;injection he with h3 h4;subst h3;subst h4
   simp only [List.take_zero]
   exact ⟨none,0,0,[],rfl,rfl,rfl,fun h=>(by simp at h),fun j u x hu=>(by simp at hu),by simp⟩
  ·cases he
 | jg id off k e' m l c g A hi hn hm hc hx ha =>
  obtain ⟨r,hr,h1,h2,bY⟩:=aL hi
  obtain ⟨re,rp,rf,rc⟩:=r
  simp only [tu,hr] at he
  split at he
  ·rename_i heq
   injection heq with heq;cases heq
   injection he with he;injection he with h3 h4;subst h3;subst h4
   simp only at h1 h2
   have lg:((rc.drop off).take k).length=k:=by rw [List.length_take,List.length_drop];omega
   by_cases hk:0<k
   ·obtain ⟨b,hb,hA⟩:=ha hk
    rw [hb] at bY
    obtain ⟨us,OZ,HD,Lv⟩:=K9 id b _ hr rfl bY
    simp only at OZ Lv
    exact ⟨A,l,c,(us.drop off).take k,rfl,by rw [lg,hn,h1],by rw [lg,List.length_take,List.length_drop];omega,fun _=>⟨_,hA,fun j u hu=>by rw [lU];exact HD _ u (bO _ _ _ _ _ hu)⟩,fun j u x hu hx=>Lv _ u x (bO _ _ _ _ _ hu) (bO _ _ _ _ _ hx),ah⟩
   ·have:(rc.drop off).take k= []:=List.length_eq_zero_iff.1 ah
    rw [this]
    exact ⟨A,l,c,[],rfl,by rw [h1];simp;omega,rfl,fun h=>(by simp at h),fun j u x hu=>(by simp at hu),ah⟩
  ·cases he
end
section
variable {P:Program} {w:World}
structure nA (P:Program) (w:World) (xt:TypeId) (e:Nat) (xv:Value) (m:Nat) (news:List Value):Prop where
 ty:(∃e2,P.underlying xt=some (.slice e2))∨P.underlying xt=some .string
 len:∀w',(Builtin.lenOf xv).run P w'= .ok m w'
 part:∀(w':World) (k:Nat),w'.heap=w.heap->k≤m->(Builtin.firstCells e k xv).run P w'= .ok (news.take (k*e)).toArray w'
 hl:news.length=m*e
 one:∀u∈news,u.oneCell'=true
theorem nA.cells {xt:TypeId} {e m:Nat} {xv:Value} {news:List Value} (h:nA P w xt e xv m news) (w':World) (hw:w'.heap=w.heap):(Builtin.firstCells e m xv).run P w'= .ok news.toArray w':=by
 have:=h.part w' m hw (Nat.le_refl _)
 rw [List.take_of_length_le (by rw [h.hl];exact Nat.le_refl _)] at this
 exact this
theorem pe {xt e2:TypeId} (ht:P.underlying xt=some (.slice e2)) {A:Option Addr} {m c e:Nat} {news:List Value} (hl:news.length=m*e) (hc:0<news.length-> ∃ad,A=some ad∧ ∀(j:Nat) u,news[j]?=some u->w.cell? (ad.add j)=some u) (h1:∀u∈news,u.oneCell'=true) :
  nA P w xt e (.slice A m c) m news:=by
 refine ⟨.inl ⟨e2,ht⟩,fun w'=>rfl,fun w' k hw hk=>?_,hl,h1⟩
 have bq:∀p:Addr,w'.cell? p=w.cell? p:=fun p=>kk (by rw [hw])
 have iw:(news.take (k*e)).length=k*e:=by
  have:=Nat.mul_le_mul_right e hk
  rw [List.length_take];omega
 by_cases h0:0<news.length
 ·obtain ⟨ad,rfl,dn⟩:=hc h0
  exact run_firstCells_some w' e k ad m c _ iw (fun j u hu=>(bq _).trans (dn j u (bT _ _ _ _ hu)))
 ·have hn:news= []:=List.length_eq_zero_iff.1 ah
  subst hn
  cases A with
  | none=>rw [run_firstCells_none];simp
  | some ad=>exact run_firstCells_some w' e k ad m c _ iw (fun j u hu=>by simp at hu)
theorem vc {xt:TypeId} (ht:P.underlying xt=some .string) (b:ByteArray):nA P w xt 1 (.string b) b.size (r6 b.data.toList):=by
 refine ⟨.inr ht,fun w'=>rfl,fun w' k _ hk=>?_,by rw [fY,Nat.mul_one];rfl,Ef _⟩
 simp only [Builtin.firstCells,Sem.run_pure,Nat.mul_one]
 congr 1
 apply Array.ext'
 simp [r6,bv,←List.map_take]
structure Jl (w w':World) (v':Value) (g0:Option Nat) (e N:Nat) (cells:List Value) (g':Nat):Prop where
 slice:∃c',v'= .slice (some ⟨g',0,none⟩) N c'∧N≤c'∧c'≤maxLen∧aS w' g'=e*c'
 K9:∃cur te fr,w'.heap[g']?=some (.cells cur te fr)∧(∀j,j<cur.size-> ¬(fr.1≤j∧j<fr.2))∧cells.length≤cur.size∧cur.toList.take cells.length=cells
 len:cells.length=e*N
 os:w'.os=w.os
 tape:w'.tape=w.tape
 output:w'.output=w.output
 size:w.heap.size≤w'.heap.size
 other:∀b,b<w.heap.size->some b≠g0->w'.heap[b]?=w.heap[b]?
 place:(g0=some g'∧g'<w.heap.size)∨(g'=w.heap.size∧w.heap.size<w'.heap.size)
theorem sZ (z:Value) (e k:Nat) (hz:z.cells.size=e):(Builtin.zeroCells z.cells k).size=k*e:=by unfold Builtin.zeroCells;simp [hz]
theorem rq {el:TypeId} {z:Value} {e l m old:Nat} {olds news:List Value} (g0:Option Nat) (hz:z.cells.size=e) (Ti:olds.length=l*e) (Kw:news.length=m*e) (hm:l+m≤maxLen) :
  Jl w (w.drew.alloc (.cells (olds.toArray++news.toArray++Builtin.zeroCells z.cells (grownCap w (l+m) old el-(l+m))) el)) (.slice (some ⟨w.heap.size,0,none⟩) (l+m) (grownCap w (l+m) old el)) g0 e (l+m) (olds++news) w.heap.size:=by
 have u_:=grownCap_ge w (l+m) old el
 have sL:grownCap w (l+m) old el≤maxLen:=grownCap_le_maxLen w _ old el hm
 have lL:(w.drew.alloc (.cells (olds.toArray++news.toArray++Builtin.zeroCells z.cells (grownCap w (l+m) old el-(l+m))) el)).heap[w.heap.size]?=some (.cells (olds.toArray++news.toArray++Builtin.zeroCells z.cells (grownCap w (l+m) old el-(l+m))) el (0,0)):=heap_alloc_new w.drew _
 have dc:(olds.toArray++news.toArray++Builtin.zeroCells z.cells (grownCap w (l+m) old el-(l+m))).size=e*grownCap w (l+m) old el:=by
  simp only [Array.size_append,List.size_toArray,sZ z e _ hz,Ti,Kw]
  rw [←Nat.add_mul,←Nat.add_mul,Nat.mul_comm]
  congr 1;omega
 have hlen:(olds++news).length=e*(l+m):=by rw [List.length_append,Ti,Kw,←Nat.add_mul,Nat.mul_comm]
 refine ⟨⟨_,rfl,u_,sL,by unfold aS;rw [lL];exact dc⟩,⟨_,_,_,lL,by simp,by rw [dc,hlen];exact Nat.mul_le_mul_left _ u_,?_⟩,hlen,rfl,rfl,rfl,by simp,fun b hb _=>Below.heap_alloc w.drew _ b hb,.inr ⟨rfl,by simp⟩⟩
 simp only [Array.toList_append,List.append_assoc]
 rw [←List.append_assoc]
 exact List.take_left
theorem AY (A B:List Value) (C:Array Value):A.toArray++(B.toArray++C)=(A++B).toArray++C:=by
 apply Array.ext'
 simp
theorem xd {e l m bytes q:Nat} (he:0<e) (hq:q=e*(l+m)) (hb:q*bytes≤e*140737488355328):(l+m)*bytes≤140737488355328:=by
 rw [hq,Nat.mul_assoc] at hb
 exact Nat.le_of_mul_le_mul_left hb he
theorem tS {l m bytes:Nat} (xw:0<bytes) (hb:(l+m)*bytes≤140737488355328):l+m≤maxLen∧((l+m:Nat):Int)≤9223372036854775807:=by
 have:l+m≤(l+m)*bytes:=Nat.le_mul_of_pos_right _ xw
 unfold maxLen;omega
theorem Gz {t xt ty el:TypeId} {i:TypeInfo} {z xv:Value} {m:Nat} {news:List Value} (ht:P.underlying t=some (.slice el)) (hi:P.info? el=some i) (hz:i.zero=some z) (uf:z.cells.size=i.size) (xw:0<i.bytes)
  (gk:nA P w xt i.size xv m news) (hb:m*i.bytes≤140737488355328) :
  (m=0∧(Builtin.append_ #[t,xt] ty #[.slice none 0 0,xv]).run P w= .ok (.slice none 0 0) w)∨ ∃v' w',(Builtin.append_ #[t,xt] ty #[.slice none 0 0,xv]).run P w= .ok v' w'∧Jl w w' v' none i.size m news w.heap.size:=by
 have hf:=gk.cells w.drew rfl
 by_cases h0:m=0
 ·left
  refine ⟨h0,?_⟩
  have LJ:=gk.cells w rfl
  have hn:news= []:=List.length_eq_zero_iff.1 (by rw [gk.hl,h0];simp)
  subst h0;subst hn
  rcases gk.ty with ⟨e2,hu⟩|hu<;>simp [Builtin.append_,run_underlying ht,run_underlying hu,sizeOf,typeInfo,hi,gk.len,LJ]
 ·right
  obtain ⟨E6,DS⟩:=tS (l:=0) xw (by rw [Nat.zero_add];exact hb)
  rw [Nat.zero_add] at E6
  have PL:¬(281474976710656<Builtin.nextslicecap m 0*i.bytes):=by rw [nextslicecap_zero ah];omega
  have PK:¬(9223372036854775807<(m:Int)):=by simp at DS;omega
  have hA:=rq (w:=w) (el:=el) (old:=0) (olds:=[]) (news:=news) (l:=0) none uf (by simp) gk.hl (by rw [Nat.zero_add];exact E6)
  simp only [Nat.zero_add,List.nil_append] at hA
  refine ⟨_,_,?_,hA⟩
  rcases gk.ty with ⟨e2,hu⟩|hu<;>simp [Builtin.append_,run_underlying ht,run_underlying hu,sizeOf,typeInfo,zeroValue,hi,hz,gk.len,hf,h0,PL,PK,Question.forced,run_firstCells_none,newRow,grownCap]
theorem Gy {t xt ty el:TypeId} {i:TypeInfo} {z xv:Value} {m:Nat} {news:List Value} (ht:P.underlying t=some (.slice el)) (hi:P.info? el=some i) (hz:i.zero=some z) (uf:z.cells.size=i.size) (xw:0<i.bytes)
  (gk:nA P w xt i.size xv m news) {g l c:Nat} {cur:Array Value} {te:TypeId} {fr:Nat×Nat} (hg:w.heap[g]?=some (.cells cur te fr)) (gv:∀j,j<cur.size-> ¬(fr.1≤j∧j<fr.2)) (dc:cur.size=i.size*c) (E7:l≤c) (sL:c≤maxLen) (hb:(l+m)*i.bytes≤140737488355328) :
  ∃v' w' g',(Builtin.append_ #[t,xt] ty #[.slice (some ⟨g,0,none⟩) l c,xv]).run P w= .ok v' w'∧Jl w w' v' (some g) i.size (l+m) (cur.toList.take (l*i.size)++news) g':=by
 have HY:g<w.heap.size:=(Array.getElem?_eq_some_iff.1 hg).1
 have gw:cur.toList.length=cur.size:=rfl
 have hle:l*i.size≤cur.size:=by rw [dc,Nat.mul_comm];exact Nat.mul_le_mul_left _ E7
 have HO:(cur.toList.take (l*i.size)).length=l*i.size:=by rw [List.length_take];omega
 by_cases mC:l+m≤c
 ·have LJ:=gk.cells w rfl
  have ml:l*i.size+news.length≤cur.size:=by rw [gk.hl,←Nat.add_mul,dc,Nat.mul_comm];exact Nat.mul_le_mul_left _ mC
  have dI:=cN P g te fr cur.size gv (l*i.size) news 0 cur w hg ah rfl gk.one
  simp only [Nat.add_zero] at dI
  obtain ⟨f1,f2,f3⟩:=pf (cur':=(cur.toList.take (l*i.size)++news++cur.toList.drop (l*i.size+news.length)).toArray) hg
  have E3:(cur.toList.take (l*i.size)++news++cur.toList.drop (l*i.size+news.length)).toArray.size=cur.size:=by
   simp only [List.size_toArray];rw [oz _ _ _ ah];rfl
  have hlen:(cur.toList.take (l*i.size)++news).length=i.size*(l+m):=by rw [List.length_append,HO,gk.hl,←Nat.add_mul,Nat.mul_comm]
  refine ⟨.slice (some ⟨g,0,none⟩) (l+m) c,_,g,?_,⟨c,rfl,mC,sL,by unfold aS;rw [f1];simp only;rw [E3,dc]⟩,⟨_,te,fr,f1,fun j hj=>gv j ah,by rw [E3,hlen,dc];exact Nat.mul_le_mul_left _ mC,by simp only;exact List.take_left⟩,hlen,rfl,rfl,rfl,by rw [f2];exact Nat.le_refl _,fun b hb cK=>f3 b fun e=>cK (by rw [e]),.inl ⟨rfl,HY⟩⟩
  rcases gk.ty with ⟨e2,hu⟩|hu<;>simp [Builtin.append_,run_underlying ht,run_underlying hu,sizeOf,typeInfo,hi,gk.len,mC,LJ,eJ,dI]
 ·obtain ⟨E6,DS⟩:=tS xw hb
  have PL:¬(281474976710656<Builtin.nextslicecap (l+m) c*i.bytes):=by have:=growslice_fits (need:=l+m) (old:=c) ah hb;omega
  have PK:¬(9223372036854775807<((l:Int)+(m:Int))):=ah
  have hA:=rq (w:=w) (el:=el) (old:=c) (some g) uf HO gk.hl E6
  have hf:=gk.cells w.drew rfl
  have H2:=run_firstCells_some (P:=P) w.drew i.size l ⟨g,0,none⟩ l c (cur.toList.take (l*i.size)) HO (fun j u hu=>by
   rw [eJ]
   have:w.drew.cell? ⟨g,j,none⟩=w.cell? ⟨g,j,none⟩:=kk rfl
   rw [this,cell_of_row w g _ cur te fr hg]
   have:=bT _ _ _ _ hu
   simpa using this)
  refine ⟨_,_,w.heap.size,?_,hA⟩
  rcases gk.ty with ⟨e2,hu⟩|hu<;>simp [Builtin.append_,run_underlying ht,run_underlying hu,sizeOf,typeInfo,zeroValue,hi,hz,gk.len,mC,hf,H2,PL,PK,Question.forced,newRow,grownCap]<;>rw [AY]
theorem GA {t xt ty el:TypeId} {i:TypeInfo} {z xv:Value} {m:Nat} {news:List Value} (ht:P.underlying t=some (.slice el)) (hi:P.info? el=some i) (hz:i.zero=some z) (uf:z.cells.size=i.size) (xw:0<i.bytes)
  (gk:nA P w xt i.size xv m news) {A:Option Addr} {l:Nat} {us:List Value} (z8:us.length=l*i.size) (hc:0<us.length-> ∃ad,A=some ad∧ ∀(j:Nat) u,us[j]?=some u->w.cell? (ad.add j)=some u) (LA:0<m) (hb:(l+m)*i.bytes≤140737488355328) :
  ∃v' w',(Builtin.append_ #[t,xt] ty #[.slice A l l,xv]).run P w= .ok v' w'∧Jl w w' v' none i.size (l+m) (us++news) w.heap.size:=by
 have mC:¬(l+m≤l):=ah
 obtain ⟨E6,DS⟩:=tS xw hb
 have PL:¬(281474976710656<Builtin.nextslicecap (l+m) l*i.bytes):=by have:=growslice_fits (need:=l+m) (old:=l) ah hb;omega
 have PK:¬(9223372036854775807<((l:Int)+(m:Int))):=ah
 have hA:=rq (w:=w) (el:=el) (old:=l) none uf z8 gk.hl E6
 have hf:=gk.cells w.drew rfl
 have H2:(Builtin.firstCells i.size l (.slice A l l)).run P w.drew= .ok us.toArray w.drew:=by
  by_cases h0:0<us.length
  ·obtain ⟨ad,rfl,dn⟩:=hc h0
   exact run_firstCells_some w.drew i.size l ad l l us z8 (fun j u hu=>(kk (w:=w) (w':=w.drew) rfl).trans (dn j u hu))
  ·have hn:us= []:=List.length_eq_zero_iff.1 ah
   subst hn
   cases A with
   | none=>rw [run_firstCells_none]
   | some ad=>exact run_firstCells_some w.drew i.size l ad l l _ z8 (fun j u hu=>by simp at hu)
 refine ⟨_,_,?_,hA⟩
 rcases gk.ty with ⟨e2,hu⟩|hu<;>simp [Builtin.append_,run_underlying ht,run_underlying hu,sizeOf,typeInfo,zeroValue,hi,hz,gk.len,mC,hf,H2,PL,PK,Question.forced,newRow,grownCap]<;>rw [AY]
end
section
variable {S0:bf} {w0 w w':World} {n:Nat} {s:AS} {a:Act} {φ:Nat->Option Nat}
theorem pB (id d:Nat) (h:look s.H d=none):look (bX id s).H d=none:=by
 unfold bX
 rw [b7,bC]
 split
 ·rfl
 ·rw [h];rfl
theorem aH.u0 {O:List Nat} {g0:Option Nat} (h:aH S0 w0 n O s a w φ) (hO:O=match g0 with|some g=>[g]|none=>[]) (Sb:∀g∈O,w0.heap.size≤g∨S0.X g) (M7:∀g∈O,g<w.heap.size) {d e N g':Nat} {v':Value} {cells:List Value} (Py:d<1000000000000) (hd:look s.H d=none) (hA:Jl w w' v' g0 e N cells g') {row:List AV} (hl:row.length=cells.length)
  (hc:∀(j:Nat) u x,cells[j]?=some u->row[j]?=some x->cp (aJ S0 w φ O) w u x) :
  ∃ ck,aH S0 w0 n [] ⟨s.F,(d,⟨e,true,false,row⟩)::s.H⟩ a w' ck∧Den (az ((d,⟨e,true,false,row⟩)::s.H) ck) (aJ S0 w' ck []) w' v' (.ref d):=by
 obtain ⟨c',hv,hN,sL,gw⟩:=hA.slice
 obtain ⟨cur,te,fr,hg,hf,hle,Lw⟩:=hA.K9
 have hb:∀b,b<w.heap.size->b ∉ O->w'.heap[b]?=w.heap[b]?:=fun b hb hn=>hA.other b hb fun e=>hn (by rw [hO,←e];simp)
 have hF:∀b,aJ S0 w φ O b->w'.heap[b]?=w.heap[b]?:=fun b h=>hb b h.1 h.2.1
 have rd:∀(S:Nat->Prop),(∀b,aJ S0 w φ O b->S b)-> ∀(j:Nat) u x,cur[j]?=some u->row[j]?=some x->cp S w' u x:=by
  intro S hS j u x hu hx
  have hj:j<cells.length:=by have:=(List.getElem?_eq_some_iff.1 hx).1;omega
  have:cells[j]?=some u:=by
   rw [←Lw,List.getElem?_take,if_pos hj];simpa using hu
  exact (hc j u x this hx).mono fun b hb=>⟨hS b hb,hF b hb⟩
 have fin:∀ ck,ck d=some g'->Den (az ((d,⟨e,true,false,row⟩)::s.H) ck) (aJ S0 w' ck []) w' v' (.ref d):=by
  intro ck bY
  rw [hv]
  exact .ref d e row.length g' N c' (by rw [bn (r:=⟨e,true,false,row⟩) (by rw [aB,if_pos rfl]),bY]) (by rw [hl];exact hA.len) hN sL gw
 rcases hA.place with ⟨Af,cW⟩|⟨rfl,cW⟩
 ·rw [Af] at hO
  subst hO
  have h2:=h.vD Sb hA.os hA.tape hA.output hA.size hb
  have h3:=h2.wF (id:=d) (r:=⟨e,true,false,row⟩) ⟨.inl Py,Sb g' (by simp)⟩ (by have:=hA.size;omega) (by simp) hd ⟨cur,te,fr,hg,hf,by simp only [hl];exact hle,fun h=>(by cases h),fun j u x hu hx=>by
   show cp _ _ _ _
   exact rd _ (fun b hb=>⟨by have:=hb.1;have:=hA.size;omega,hb.2⟩) j u x hu hx⟩
  exact ⟨_,h3,fin _ (by unfold fm;rw [if_pos rfl])⟩
 ·have h1:=h.await w.heap.size (Nat.le_refl _)
  have h2:=h1.vD (fun g hg=>by rcases List.mem_cons.1 hg with rfl|hg;exact .inl h.cM.size;exact Sb g hg) hA.os hA.tape hA.output hA.size (fun b Ju hn=>hb b Ju fun hm=>hn (by simp [hm]))
  have T8:w.heap.size ∉ O:=fun hm=>Nat.lt_irrefl _ (M7 _ hm)
  have h3:=h2.wF (id:=d) (r:=⟨e,true,false,row⟩) ⟨.inl Py,.inl h.cM.size⟩ cW T8 hd ⟨cur,te,fr,hg,hf,by simp only [hl];exact hle,fun h=>(by cases h),fun j u x hu hx=>by
   show cp _ _ _ _
   exact rd _ (fun b hb=>⟨by have:=hb.1;omega,by simp only [List.mem_cons,not_or];exact ⟨by have:=hb.1;omega,hb.2.1⟩,hb.2.2⟩) j u x hu hx⟩
  cases Af:g0 with
  | none =>
   rw [Af] at hO;subst hO
   exact ⟨_,h3,fin _ (by unfold fm;rw [if_pos rfl])⟩
  | some g =>
   rw [Af] at hO;subst hO
   exact ⟨_,h3.uA,fin _ (by unfold fm;rw [if_pos rfl])⟩
end
def dh (row:List AV):Prop:=∀x∈row,gV x=true
theorem fF (l:List UInt8):dh (ag l):=by
 intro x hx;simp only [ag,List.mem_map] at hx;obtain ⟨c,_,rfl⟩:=hx;rfl
theorem pr (l:List UInt64):dh (aj l):=by
 intro x hx;simp only [aj,List.mem_map] at hx;obtain ⟨c,_,rfl⟩:=hx;rfl
theorem zw (l:List Int):dh (ax l):=by
 intro x hx;simp only [ax,List.mem_map] at hx;obtain ⟨c,_,rfl⟩:=hx;rfl
theorem ij:∀ {l:List AV},dD l=true->dh l
 | [],_=>by intro x hx;simp at hx
 | y::l,h=>by
  simp only [dD] at h
  split at h
  ·rename_i hy
   intro x hx
   rcases List.mem_cons.1 hx with rfl|hx
   ·exact hy
   ·exact ij h x hx
  ·cases h
def xb (h:Hint) (row:List AV):Option (List Prop):=match h.b with|true=>(match dD row with|true=>some []|false=>none)|false=>some [dh row]
theorem vW {h:Hint} {row:List AV} {C D:List Prop} (hp:xb h row=some C) (hC:bu (C++D)):dh row∧bu D:=by
 unfold xb at hp
 split at hp
 ·split at hp
  ·rename_i h1;cases hp;exact ⟨ij h1,hC⟩
  ·cases hp
 ·cases hp;exact hC
def qq (P:Program) (s:AS) (xt:TypeId) (z:Nat) (x:AV):Option (List AV) :=
 match P.underlying xt with
 | some (.slice _)=>(match tu s x with|some (e,row)=>(match Nat.beq e z with|true=>some row|false=>(match x with| .nil=>some []|_=>none))|none=>none)
 | some .string=>(match x,z with| .val (.string b),1=>some (ag b.data.toList)|_,_=>none)
 | _=>none
def pV (s:AS) (e:Nat):AV->Option (List AV×AS)
 | .nil=>some ([],s)
 | .ref id=>(match look s.H id with|some ⟨e',true,_,cells⟩=>(match Nat.beq e e' with|true=>some (cells,bX id s)|false=>none)|_=>none)
 | .pre id l=>(match look s.H id with|some ⟨e',true,_,cells⟩=>(match Nat.beq e e' with|true=>some (cells.take l,bX id s)|false=>none)|_=>none)
 | .o8 e' row=>(match Nat.beq e e' with|true=>some (row,s)|false=>none)
 | _=>none
def So (x:AV) (row:List AV):List Prop:=match x with| .o8 _ _=>[0<row.length]|_=>[]
def kK (P:Program) (n:Nat) (s:AS) (d t xt:Nat) (x y:AV) (h:Hint):Option (AS×List Prop) :=
 match P.underlying t with
 | some (.slice el)=>(match P.info? el with
  | some i=>(match i.zero,i.size,i.bytes with
   | some zero,z+1,b+1=>(match Nat.beq zero.cells.size (z+1),pV s (z+1) x,qq P s xt (z+1) y with
    | true,some (cells,s1),some row=>(match xb h row,fZ n ⟨(bX d s1).F,(d,⟨z+1,true,false,(named h (cells++row)).1⟩)::(bX d s1).H⟩ (some d) (.ref d) with
     | some C,some s'=>some (s',(named h (cells++row)).2++(C++(((cells.length+row.length)*(b+1)≤(z+1)*140737488355328)::So x row)))
     | _,_=>none)
    | _,_,_=>none)
   | _,_,_=>none)
  | none=>none)
 | _=>none
section
variable {P:Program} {n:Nat} {s:AS} {o:Oper} {h:Hint} {q:AS×List Prop}
theorem Dr {S:Nat->Prop} {w:World} {v:Value} {x:AV} (h:cp S w v x) (hp:gV x=true):v.oneCell'=true:=(dY (I:=fun _=>none) (.rep h) hp).2
theorem vJ {S0:bf} {w0 w:World} {a:Act} {φ:Nat->Option Nat} (hs:aH S0 w0 n [] s a w φ) {xt:TypeId} {v:Value} {x:AV} (hx:Den (az s.H φ) (aJ S0 w φ []) w v x) {z:Nat} {row:List AV} (he:qq P s xt z x=some row) (ui:dh row) :
  ∃m us,nA P w xt z v m us∧us.length=row.length∧ ∀(j:Nat) u x,us[j]?=some u->row[j]?=some x->cp (aJ S0 w φ []) w u x:=by
 unfold qq at he
 split at he
 ·rename_i e2 hu
  split at he
  ·rename_i e EE gk
   split at he
   ·rename_i hb
    have hb:=Nat.eq_of_beq_eq_true hb
    cases he
    subst hb
    obtain ⟨A,m,c,us,rfl,h1,h2,h3,h4,h5⟩:=Mf hs hx gk
    have ho:∀u∈us,u.oneCell'=true:=by
     intro u hu
     obtain ⟨j,hj⟩:=List.getElem?_of_mem hu
     have ML:j<row.length:=by have:=(List.getElem?_eq_some_iff.1 hj).1;omega
     exact Dr (h4 j u _ hj (List.getElem?_eq_getElem ML)) (ui _ (List.getElem_mem ML))
    exact ⟨m,us,pe hu (by rw [h2,h1,Nat.mul_comm]) (fun h0=>h3 ah) ho,h2,h4⟩
   ·split at he
    ·cases he
     cases hx with|rep hx=>cases hx with|nil=>exact ⟨0,[],pe hu (by simp) (fun h=>by simp at h) (by simp),rfl,fun j u x hu=>by simp at hu⟩
    ·cases he
  ·cases he
 ·rename_i hu
  split at he
  ·rename_i b
   cases he
   have hv:=bE hx
   subst hv
   refine ⟨b.size,r6 b.data.toList,vc hu b,by rw [fY,aA],fun j u x hu hx=>?_⟩
   have hj:j<b.data.toList.length:=by have:=(List.getElem?_eq_some_iff.1 hu).1;rw [fY] at this;exact this
   rw [Nz _ _ hj] at hu
   injection hu with hu;subst hu
   have e2:(ag b.data.toList)[j]?=some (.val (.int .u8 (bv (b.data.toList.getD j 0)))):=by
    simp only [ag,List.getElem?_map,List.getElem?_eq_getElem hj,Option.map_some,List.getD_eq_getElem?_getD,Option.getD_some]
   rw [e2] at hx
   injection hx with hx;subst hx
   exact .val _
  ·cases he
 ·cases he
theorem IH {S0:bf} {w0 w:World} {a:Act} {φ:Nat->Option Nat} (hs:aH S0 w0 n [] s a w φ) {v:Value} {x:AV} (hx:Den (az s.H φ) (aJ S0 w φ []) w v x) {e:Nat} {cells:List AV} {s1:AS} (he:pV s e x=some (cells,s1)) :
  (v= .slice none 0 0∧cells= []∧ ∃ iy,aH S0 w0 n [] s1 a w iy∧ ∀b,aJ S0 w φ [] b->aJ S0 w iy [] b) ∨
  (∃(g l c:Nat) (iy:Nat->Option Nat),v= .slice (some ⟨g,0,none⟩) l c∧aH S0 w0 n [g] s1 a w iy∧(∀b,aJ S0 w φ [] b->aJ S0 w iy [g] b)∧l≤c∧c≤maxLen∧cells.length=e*l∧(w0.heap.size≤g∨S0.X g)∧g<w.heap.size ∧
   ∃cur te fr,w.heap[g]?=some (.cells cur te fr)∧(∀j,j<cur.size-> ¬(fr.1≤j∧j<fr.2))∧cur.size=e*c∧ ∀(j:Nat) u x,cur[j]?=some u->cells[j]?=some x->cp (aJ S0 w φ []) w u x) ∨
  ∃(A:Option Addr) (l:Nat) (us:List Value),(∃e',x= .o8 e' cells)∧v= .slice A l l∧s1=s∧us.length=cells.length∧cells.length=e*l∧(0<us.length-> ∃ad,A=some ad∧ ∀(j:Nat) u,us[j]?=some u->w.cell? (ad.add j)=some u) ∧
   ∀(j:Nat) u x,us[j]?=some u->cells[j]?=some x->cp (aJ S0 w φ []) w u x:=by
 have own:∀(id g l c m:Nat) (e':Nat) (fu:Bool) (rc:List AV),look s.H id=some ⟨e',true,fu,rc⟩->az s.H φ id=some (e',m,some g)->e=e'->l≤c->c≤maxLen->aS w g=e'*c->cells.length=e*l->(∀(j:Nat) x,cells[j]?=some x->rc[j]?=some x)->s1=bX id s->v= .slice (some ⟨g,0,none⟩) l c ->
   ∃(g l c:Nat) (iy:Nat->Option Nat),v= .slice (some ⟨g,0,none⟩) l c∧aH S0 w0 n [g] s1 a w iy∧(∀b,aJ S0 w φ [] b->aJ S0 w iy [g] b)∧l≤c∧c≤maxLen∧cells.length=e*l∧(w0.heap.size≤g∨S0.X g)∧g<w.heap.size ∧
   ∃cur te fr,w.heap[g]?=some (.cells cur te fr)∧(∀j,j<cur.size-> ¬(fr.1≤j∧j<fr.2))∧cur.size=e*c∧ ∀(j:Nat) u x,cur[j]?=some u->cells[j]?=some x->cp (aJ S0 w φ []) w u x:=by
  intro id g l c m e' fu rc hr hi RU E7 sL gw hlen BT gI hv
  subst gI;subst RU
  obtain ⟨r',gZ,-,-,bY⟩:=aL hi
  obtain ⟨cur,te,fr,hg,hf,hle,hc⟩:=ku hs hr rfl bY
  refine ⟨g,l,c,erase φ id,hv,hs.jk id [g] (by rw [bY]),fun b hb=>⟨hb.1,by simp;exact fun e=>hb.2.2.1 id (by rw [bY,e]),fun i hi=>?_,hb.2.2.2⟩,E7,sL,hlen,(hs.cL id g bY).1.2,(hs.cL id g bY).2,cur,te,fr,hg,hf,?_,fun j u x hu hx=>hc j u x hu (BT j x hx)⟩
  ·unfold erase at hi
   split at hi
   ·cases hi
   ·exact hb.2.2.1 i hi
  ·unfold aS at gw;rw [hg] at gw;exact gw
 have none_:∀id,φ id=none->s1=bX id s->v= .slice none 0 0->cells= []->v= .slice none 0 0∧cells= []∧ ∃ iy,aH S0 w0 n [] s1 a w iy∧ ∀b,aJ S0 w φ [] b->aJ S0 w iy [] b:=by
  intro id bY gI hv hc
  subst gI
  refine ⟨hv,hc,erase φ id,hs.jk id [] (by rw [bY]),fun b hb=>⟨hb.1,by simp,fun i hi=>?_,hb.2.2.2⟩⟩
  unfold erase at hi
  split at hi
  ·cases hi
  ·exact hb.2.2.1 i hi
 cases hx with
 | rep hx =>
  cases hx with
  | nil=>cases he;exact .inl ⟨rfl,rfl,φ,hs,fun _ h=>h⟩
  | o8 A k e' us row hl hn hm ha h =>
   simp only [pV] at he
   split at he
   ·rename_i hb
    have hb:=Nat.eq_of_beq_eq_true hb
    cases he
    exact .inr (.inr ⟨A,k,us,⟨e',rfl⟩,rfl,rfl,hl,by rw [hn,hb],fun h0=>by
     obtain ⟨ad,h1,-,h2⟩:=ha ah
     exact ⟨ad,h1,h2⟩,h⟩)
   ·cases he
  | _=>cases he
 | agg=>cases he
 | br=>cases he
 | dead=>cases he
 | addr=>cases he
 | jg=>cases he
 | ref id e' m g l c hi hm hc hx bU =>
  obtain ⟨r,hr,h1,h2,bY⟩:=aL hi
  obtain ⟨re,rp,rf,rc⟩:=r
  simp only [pV,hr] at he
  split at he
  ·rename_i heq
   injection heq with heq;cases heq
   split at he
   ·rename_i hb
    have hb:=Nat.eq_of_beq_eq_true hb
    cases he
    simp only at h1 h2
    subst h1
    exact .inr (.inl (own id g l c m _ _ _ hr hi hb hc hx bU (by rw [h2,hm,hb]) (fun _ _ h=>h) rfl rfl))
   ·cases he
  ·cases he
 | cw id e' hi =>
  obtain ⟨r,hr,h1,h2,bY⟩:=aL hi
  obtain ⟨re,rp,rf,rc⟩:=r
  simp only [pV,hr] at he
  split at he
  ·rename_i heq
   injection heq with heq;cases heq
   split at he
   ·cases he
    simp only at h2
    exact .inl (none_ id bY rfl rfl (List.length_eq_zero_iff.1 h2))
   ·cases he
  ·cases he
 | pre id k e' m g l c hi hn hm hc hx bU =>
  obtain ⟨r,hr,h1,h2,bY⟩:=aL hi
  obtain ⟨re,rp,rf,rc⟩:=r
  simp only [pV,hr] at he
  split at he
  ·rename_i heq
   injection heq with heq;cases heq
   split at he
   ·rename_i hb
    have hb:=Nat.eq_of_beq_eq_true hb
    cases he
    simp only at h1 h2
    subst h1
    exact .inr (.inl (own id g l c m _ _ _ hr hi hb hc hx bU (by rw [List.length_take,h2,hb,←hn];omega) (fun j x h=>bT _ _ _ _ h) rfl rfl))
   ·cases he
  ·cases he
 | df id e' hi =>
  obtain ⟨r,hr,h1,h2,bY⟩:=aL hi
  obtain ⟨re,rp,rf,rc⟩:=r
  simp only [pV,hr] at he
  split at he
  ·rename_i heq
   injection heq with heq;cases heq
   split at he
   ·cases he
    exact .inl (none_ id bY rfl rfl (by simp))
   ·cases he
  ·cases he
theorem rU {t xt d:Nat} {x y:Operand} (ho:o.op= .call ⟨.builtin .append,⟨[x,y]⟩,⟨[t,xt]⟩⟩) (hd:o.dst=some d) (hr:kK P n s d t xt (bj s x) (bj s y) h=some q):lV P n s o q.1 q.2:=by
 intro hC S0 w0 a w Q ⟨φ,hs⟩
 unfold kK at hr
 split at hr
 ·rename_i el hu
  split at hr
  ·rename_i i hi
   split at hr
   ·rename_i zero z b hz dc xw
    split at hr
    ·rename_i cells s1 row uf lj gk
     split at hr
     ·rename_i C s' pJ dL
      injection hr with hr;subst hr
      obtain ⟨hn,D0⟩:=gP hC
      obtain ⟨Pg,qi,mD⟩:=vW pJ D0
      have uf:=Nat.eq_of_beq_eq_true uf
      replace dc:i.size=z+1:=dc
      replace xw:i.bytes=b+1:=xw
      obtain ⟨m,us,E4,z8,bV⟩:=vJ (P:=P) hs (hs.bj y) gk Pg
      have aK:row.length=(z+1)*m:=by rw [←z8,E4.hl,Nat.mul_comm]
      rw [hn] at dL
      have wp:∀v' w',(Builtin.append_ #[t,xt] o.type #[a.eval x,a.eval y]).run P w= .ok v' w'->ib S0 w0 n s' (a.put o.dst v') w'->o.wp P a w (fun a' w'=>ib S0 w0 n s' a' w') Q:=by
       intro v' w' bZ fS
       refine cI (v:=v') (w':=w') ?_ fS
       unfold execOp
       simp [ho,resolve,invoke,builtin,bZ]
      have y5:∀s1:AS,look (bX d s1).H d=none:=fun s1=>cZ d
      rcases IH hs (hs.bj x) lj with ⟨hv,U1,iy,gI,hF⟩|⟨g,l,c,iy,hv,gI,hF,E7,sL,gw,Af,N9,cur,te,fr,hg,hf,wm,hold⟩|⟨A,l,ol,⟨e',T6⟩,hv,Ql,HP,gw,Vp,hold⟩
      ·subst U1
       simp only [List.nil_append,List.length_nil,Nat.zero_add] at dL qi
       have wh:m*i.bytes≤140737488355328:=by
        have:=xd (l:=0) (m:=m) ah (by rw [Nat.zero_add];exact aK) qi
        rw [Nat.zero_add] at this;rw [xw];exact this
       have mI:=gI.l3 d
       rcases Gz (ty:=o.type) hu hi hz (by rw [uf,dc]) ah (by rw [dc];exact E4) wh with ⟨hm,bZ⟩|⟨v',w',bZ,hA⟩
       ·have Um:row= []:=List.length_eq_zero_iff.1 (by rw [aK,hm];simp)
        subst Um
        refine wp (.slice none 0 0) w (by rw [hv];exact bZ) ⟨erase iy d,?_⟩
        rw [hd]
        exact dB (mI.rr (id:=d) (r:=⟨z+1,true,false,[]⟩) (y5 s1) rfl) (.cw d (z+1) (by rw [bn (r:=⟨z+1,true,false,[]⟩) (by rw [aB,if_pos rfl]),mI.only d (y5 s1)];rfl)) dL
       ·rw [dc] at hA
        obtain ⟨jT,h3,h4⟩:=mI.u0 (g0:=none) rfl (by simp) (by simp) (iI dL) (y5 s1) hA (row:=row) z8.symm (fun j u x hu hx=>(bV j u x hu hx).mono fun b hb=>⟨⟨hb.1,by simp,fun i hi=>by
         unfold erase at hi
         split at hi
         ·cases hi
         ·exact (hF b hb).2.2.1 i hi,hb.2.2.2⟩,rfl⟩)
        refine wp _ _ (by rw [hv];exact bZ) ⟨jT,?_⟩
        rw [hd]
        exact dB h3 h4 dL
      ·have Lw:(cur.toList.take (l*(z+1))).length=cells.length:=by
        have KF:cur.toList.length=cur.size:=rfl
        rw [List.length_take,gw,KF,wm,Nat.mul_comm]
        exact Nat.min_eq_left (Nat.mul_le_mul_left _ E7)
       have wh:(l+m)*i.bytes≤140737488355328:=by
        rw [xw];exact xd ah (by rw [gw,aK,←Nat.mul_add]) qi
       have mI:aH S0 w0 n [g] (bX d s1) a w (erase iy d):=by
        cases OS:iy d with
        | none=>exact gI.jk d [g] (by rw [OS])
        | some gd=>exact (gI.jk d [gd,g] (by rw [OS])).uA
       obtain ⟨v',w',g',bZ,hA⟩:=Gy (ty:=o.type) hu hi hz (by rw [uf,dc]) ah (by rw [dc];exact E4) hg hf (by rw [dc];exact wm) E7 sL wh
       rw [dc] at hA
       have Sf:∀b,aJ S0 w φ [] b->aJ S0 w (erase iy d) [g] b:=fun b hb=>⟨hb.1,(hF b hb).2.1,fun i hi=>by
        unfold erase at hi
        split at hi
        ·cases hi
        ·exact (hF b hb).2.2.1 i hi,hb.2.2.2⟩
       obtain ⟨jT,h3,h4⟩:=mI.u0 (g0:=some g) rfl (by simpa using Af) (by simpa using N9) (iI dL) (y5 s1) hA (row:=cells++row) (by rw [List.length_append,List.length_append,Lw,z8]) (fun j u x hu hx=>by
        refine cp.mono (fun b hb=>⟨Sf b hb,rfl⟩) (?_:cp (aJ S0 w φ []) w u x)
        by_cases hj:j<cells.length
        ·rw [List.getElem?_append_left ah] at hu
         rw [List.getElem?_append_left hj] at hx
         have:=bT _ _ _ _ hu
         exact hold j u x (by simpa using this) hx
        ·rw [List.getElem?_append_right ah] at hu
         rw [List.getElem?_append_right ah] at hx
         rw [Lw] at hu
         exact bV _ u x hu hx)
       refine wp _ _ (by rw [hv];exact bZ) ⟨jT,?_⟩
       rw [hd]
       exact dB h3 h4 dL
      ·subst Ql
       rw [T6] at mD
       have LA:0<m:=by
        have h0:0<row.length:=mD.1
        rw [aK] at h0
        exact Nat.pos_of_mul_pos_left h0
       have wh:(l+m)*i.bytes≤140737488355328:=by
        rw [xw];exact xd ah (by rw [gw,aK,←Nat.mul_add]) qi
       have mI:=hs.l3 d
       obtain ⟨v',w',bZ,hA⟩:=GA (ty:=o.type) hu hi hz (by rw [uf,dc]) ah (by rw [dc];exact E4) (by rw [HP,gw,dc,Nat.mul_comm]) Vp LA wh
       rw [dc] at hA
       have Sf:∀b,aJ S0 w φ [] b->aJ S0 w (erase φ d) [] b:=fun b hb=>⟨hb.1,by simp,fun i hi=>by
        unfold erase at hi
        split at hi
        ·cases hi
        ·exact hb.2.2.1 i hi,hb.2.2.2⟩
       obtain ⟨jT,h3,h4⟩:=mI.u0 (g0:=none) rfl (by simp) (by simp) (iI dL) (y5 _) hA (row:=cells++row) (by rw [List.length_append,List.length_append,HP,z8]) (fun j u x hu hx=>by
        refine cp.mono (fun b hb=>⟨Sf b hb,rfl⟩) (?_:cp (aJ S0 w φ []) w u x)
        by_cases hj:j<cells.length
        ·rw [List.getElem?_append_left ah] at hu
         rw [List.getElem?_append_left hj] at hx
         exact hold j u x hu hx
        ·rw [List.getElem?_append_right ah] at hu
         rw [List.getElem?_append_right ah] at hx
         rw [HP] at hu
         exact bV _ u x hu hx)
       refine wp _ _ (by rw [hv];exact bZ) ⟨jT,?_⟩
       rw [hd]
       exact dB h3 h4 dL
     ·cases hr
    ·cases hr
   ·cases hr
  ·cases hr
 ·cases hr
def IX (s:AS):AV->Option (Nat×Nat×Nat)
 | .ref id=>(match look s.H id with|some r=>some (id,0,r.cells.length)|none=>none)
 | .pre id l=>some (id,0,l)
 | .jg id o l=>some (id,o,l)
 | _=>none
def Cs (P:Program) (n:Nat) (s:AS) (d:Option Nat) (t xt:Nat) (x y:AV) (h:Hint):Option (AS×List Prop) :=
 match P.underlying t with
 | some (.slice el)=>(match dN P el,IX s x with
  | some (z+1),some (id,off,l)=>(match look s.H id,qq P s xt (z+1) y with
   | some ⟨e,true,fu,cells⟩,some row=>(match Nat.beq e (z+1),xb h row,fZ n (EB s id ⟨e,true,fu,(named h (setCells cells off (row.take (cJ h.k (z+1))))).1⟩) d (.val (.int .i64 h.k)) with
    | true,some C,some s'=>some (s',(named h (setCells cells off (row.take (cJ h.k (z+1))))).2++(C++ [min row.length l=cJ h.k (z+1),0<l]))
    | _,_,_=>none)
   | _,_=>none)
  | _,_=>none)
 | _=>none
theorem Fu {t xt:Nat} {x y:Operand} (ho:o.op= .call ⟨.builtin .copy,⟨[x,y]⟩,⟨[t,xt]⟩⟩) (hr:Cs P n s o.dst t xt (bj s x) (bj s y) h=some q):lV P n s o q.1 q.2:=by
 intro hC S0 w0 a w Q ⟨φ,hs⟩
 unfold Cs at hr
 split at hr
 ·rename_i el hu
  split at hr
  ·rename_i z id off l dc Jp
   split at hr
   ·rename_i e fu cells row aK gk
    split at hr
    ·rename_i C s' he pJ dL
     injection hr with hr;subst hr
     have he:=Nat.eq_of_beq_eq_true he
     obtain ⟨hn,D0⟩:=gP hC
     obtain ⟨Pg,BV,A9,-⟩:=vW pJ D0
     obtain ⟨m,us,E4,z8,bV⟩:=vJ (P:=P) hs (hs.bj y) gk Pg
     rw [bt] at BV
     have FR:row.length=(z+1)*m:=by rw [←z8,E4.hl,Nat.mul_comm]
     have hI:=bn (φ:=φ) aK
     have hx:=hs.bj x
     have lj:∃(g dl c:Nat),a.eval x= .slice (some ⟨g,off,none⟩) dl c∧φ id=some g∧l=(z+1)*dl∧off+l≤cells.length:=by
      generalize a.eval x=V at hx
      unfold IX at Jp
      split at Jp
      ·rename_i oM NT
       rw [NT] at hx
       split at Jp
       ·rename_i r' gZ
        cases Jp
        rw [aK] at gZ;injection gZ with gZ;subst gZ
        cases hx with
        | rep h=>cases h
        | ref _ e' m' g l' c hi hm hc hx bU =>
         rw [hI] at hi;injection hi with hi;injection hi with h1 hi;injection hi with h2 h3
         simp only at h1 h2 ⊢
         exact ⟨g,l',c,rfl,h3,by rw [h2,hm,←h1,he],ah⟩
        | cw _ e' hi =>
         rw [hI] at hi;injection hi with hi;injection hi with h1 hi;injection hi with h2 h3
         simp only at h2 A9;omega
       ·cases Jp
      ·rename_i oM l' NT
       rw [NT] at hx
       cases Jp
       cases hx with
       | rep h=>cases h
       | pre _ _ e' m' g l' c hi sf hm hc hx bU =>
        rw [hI] at hi;injection hi with hi;injection hi with h1 hi;injection hi with h2 h3
        simp only at h1 h2 ⊢
        exact ⟨g,l',c,rfl,h3,by rw [sf,←h1,he],ah⟩
       | df _ e' hi=>omega
      ·rename_i oM o' l' NT
       rw [NT] at hx
       cases Jp
       cases hx with
       | rep h=>cases h
       | jg _ _ _ e' m' l' c g A hi sf hm hc hx ha =>
        rw [hI] at hi;injection hi with hi;injection hi with h1 hi;injection hi with h2 h3
        obtain ⟨b,hb,rfl⟩:=ha A9
        simp only at h1 h2 ⊢
        exact ⟨b,l',c,rfl,by rw [h3,hb],by rw [sf,←h1,he],ah⟩
      ·cases Jp
     obtain ⟨g,dl,c,hv,bY,hl,ml⟩:=lj
     obtain ⟨cur,te,fr,hg,hf,hle,hold⟩:=Bt hs aK bY
     have UB:cells.length≤cur.size:=hle
     have Qx:min m dl=h.k:=by
      rw [FR,hl,Nat.mul_comm h.k,Nat.mul_min_mul_left] at BV
      exact Nat.eq_of_mul_eq_mul_left ah BV
     have iw:h.k*(z+1)≤l:=ah
     have VY:h.k*(z+1)≤row.length:=ah
     have z_:(row.take (cJ h.k (z+1))).length=h.k*(z+1):=by rw [bt,List.length_take];omega
     have S6:(us.take (h.k*(z+1))).length=h.k*(z+1):=by rw [List.length_take];omega
     have dn:(Builtin.firstCells (z+1) h.k (a.eval y)).run P w= .ok (us.take (h.k*(z+1))).toArray w:=E4.part w h.k rfl ah
     have ui:∀u∈us.take (h.k*(z+1)),u.oneCell'=true:=fun u hu=>E4.one u (List.mem_of_mem_take hu)
     have dI:=cN P g te fr cur.size hf off (us.take (h.k*(z+1))) 0 cur w hg (by rw [S6];omega) rfl ui
     simp only [Nat.add_zero] at dI
     have fS:=hs.written (off:=off) (l:=row.take (cJ h.k (z+1))) (vs:=us.take (h.k*(z+1))) aK bY hg hle hold (by rw [z_,S6]) (by rw [z_];simp only;omega) hn (fun j u x hu hx=>by
      show cp _ _ _ _
      exact bV j u x (bT _ _ _ _ hu) (bT _ _ _ _ hx))
     have Rk:(sizeOf el).run P w= .ok (z+1) w:=run_sizeOf dc
     refine cI (v:=.int .i64 h.k) (w':=w.setRow g (cur.toList.take off++us.take (h.k*(z+1))++cur.toList.drop (off+(us.take (h.k*(z+1))).length)).toArray) ?_ ⟨φ,dB fS (.rep (.val _)) dL⟩
     have Ku:Nat.min m dl=h.k:=Qx
     unfold execOp
     simp [ho,resolve,invoke,builtin,Builtin.copy_,run_underlying hu,hv,E4.len,Ku,Rk,dn,dI,goInt]
    ·cases hr
   ·cases hr
  ·cases hr
 ·cases hr
end
inductive gS (S:Nat->Prop) (w:World):Value->AV->List Nat->Prop
 | rep {v:Value} {x:AV} (h:cp S w v x):gS S w v x []
 | nil (e:Nat):gS S w (.slice none 0 0) (.own e []) []
 | own (g l c e:Nat) (row:List AV) (cur:Array Value) (te:TypeId) (fr:Nat×Nat) (hg:w.heap[g]?=some (.cells cur te fr)) (hf:∀j,j<cur.size-> ¬(fr.1≤j∧j<fr.2)) (hl:row.length=e*l) (hc:l≤c) (hm:c≤maxLen) (hs:cur.size=e*c)
   (h:∀(j:Nat) u x,cur[j]?=some u->row[j]?=some x->cp S w u x):gS S w (.slice (some ⟨g,0,none⟩) l c) (.own e row) [g]
 | box (g:Nat) (row:List AV) (cur:Array Value) (te:TypeId) (fr:Nat×Nat) (hg:w.heap[g]?=some (.cells cur te fr)) (hf:∀j,j<cur.size-> ¬(fr.1≤j∧j<fr.2)) (hs:cur.size=row.length)
   (h:∀(j:Nat) u x,cur[j]?=some u->row[j]?=some x->cp S w u x):gS S w (.pointer (some ⟨g,0,none⟩)) (.box row) [g]
inductive kP (R:Value->AV->List Nat->Prop):List Value->List AV->List Nat->Prop
 | nil:kP R [] [] []
 | cons {v:Value} {x:AV} {vs:List Value} {xs:List AV} {O1 O2:List Nat} (h:R v x O1) (t:kP R vs xs O2):kP R (v::vs) (x::xs) (O1++O2)
def nB (S:Nat->Prop) (w:World) (v:Value) (x:AV) (O:List Nat):Prop:=gS S w v x O∨ ∃vs cs,v= .agg (List.toArray vs)∧x= .agg cs∧kP (gS S w) vs cs O
def sq (S:Nat->Prop) (w:World) (v:Value) (x:AV) (O:List Nat):Prop:=nB S w v x O∨ ∃vs cs,v= .tuple (List.toArray vs)∧x= .br cs∧kP (nB S w) vs cs O
theorem kP.imp {R R':Value->AV->List Nat->Prop} (hR:∀v x O,R v x O->R' v x O) {vs:List Value} {xs:List AV} {O:List Nat} (h:kP R vs xs O):kP R' vs xs O:=by
 induction h with
 | nil=>exact .nil
 | cons h _ ih=>exact .cons (hR _ _ _ h) ih
section
variable {S S':Nat->Prop} {w:World}
theorem gS.mono (hS:∀b,S b->S' b) {v:Value} {x:AV} {O:List Nat} (h:gS S w v x O):gS S' w v x O:=by
 cases h with
 | rep h=>exact .rep (h.mono fun b hb=>⟨hS b hb,rfl⟩)
 | nil e=>exact .nil e
 | own g l c e row cur te fr hg hf hl hc hm hs h=>exact .own g l c e row cur te fr hg hf hl hc hm hs fun j u x hu hx=>(h j u x hu hx).mono fun b hb=>⟨hS b hb,rfl⟩
 | box g row cur te fr hg hf hs h=>exact .box g row cur te fr hg hf hs fun j u x hu hx=>(h j u x hu hx).mono fun b hb=>⟨hS b hb,rfl⟩
theorem nB.mono (hS:∀b,S b->S' b) {v:Value} {x:AV} {O:List Nat} (h:nB S w v x O):nB S' w v x O:=by
 rcases h with h|⟨vs,cs,h1,h2,h3⟩
 ·exact .inl (h.mono hS)
 ·exact .inr ⟨vs,cs,h1,h2,h3.imp fun _ _ _ h=>h.mono hS⟩
theorem sq.mono (hS:∀b,S b->S' b) {v:Value} {x:AV} {O:List Nat} (h:sq S w v x O):sq S' w v x O:=by
 rcases h with h|⟨vs,cs,h1,h2,h3⟩
 ·exact .inl (h.mono hS)
 ·exact .inr ⟨vs,cs,h1,h2,h3.imp fun _ _ _ h=>h.mono hS⟩
end
def bK (P:Program) (f:FuncId) (args:List AV) (r:AV):Prop :=
 ∀(w:World) (S:Nat->Prop) (vs:List Value),Good w->(∀b,S b->b<w.heap.size)->vs.length=args.length->(∀(j:Nat) v x,vs[j]?=some v->args[j]?=some x->cp S w v x) ->
  Calls P f vs.toArray w fun e w'=>∃v O,e= .returned v∧Below w.heap.size w w'∧O.Nodup∧(∀g∈O,w.heap.size≤g∧g<w'.heap.size)∧sq (fun b=>S b∨(w.heap.size≤b∧b<w'.heap.size∧b ∉ O)) w' v r O
def lC (row:List AV):Prop:=∀x∈row,∃v,x= .val v
theorem aV (l:List UInt8):lC (ag l):=by
 intro x hx;simp only [ag,List.mem_map] at hx;obtain ⟨c,_,rfl⟩:=hx;exact ⟨_,rfl⟩
theorem gg (l:List UInt64):lC (aj l):=by
 intro x hx;simp only [aj,List.mem_map] at hx;obtain ⟨c,_,rfl⟩:=hx;exact ⟨_,rfl⟩
theorem Et (l:List Int):lC (ax l):=by
 intro x hx;simp only [ax,List.mem_map] at hx;obtain ⟨c,_,rfl⟩:=hx;exact ⟨_,rfl⟩
def wy:AV->Option (List Prop)
 | .val _=>some []
 | .nil=>some []
 | .own _ row=>some [lC row]
 | .box row=>some [lC row]
 | _=>none
def pP (f:AV->Option (List Prop)):List AV->Option (List Prop)
 | []=>some []
 | x::l=>match f x,pP f l with|some a,some b=>some (a++b)|_,_=>none
def uD:AV->Option (List Prop)
 | .agg cs=>pP wy cs
 | x=>wy x
def flat:AV->Option (List Prop)
 | .br cs=>pP uD cs
 | x=>uD x
theorem bM {C D:List Prop}:bu (C++D)↔bu C∧bu D:=by
 induction C with
 | nil=>simp [bu]
 | cons p C ih=>simp only [List.cons_append,bu,ih,and_assoc]
section
variable {S S':Nat->Prop} {w:World}
theorem uE {v:Value} {x:AV} {O:List Nat} {C:List Prop} (hf:wy x=some C) (hC:bu C) (h:gS S w v x O):gS S' w v x O:=by
 cases h with
 | rep h=>cases h with
  | val v=>exact .rep (.val v)
  | nil=>exact .rep .nil
  | _=>cases hf
 | nil e=>exact .nil e
 | own g l c e row cur te fr hg gv hl hc hm hs h =>
  refine .own g l c e row cur te fr hg gv hl hc hm hs fun j u x hu hx=>?_
  have hv:lC row:=by injection hf with hf;subst hf;exact hC.1
  obtain ⟨v',rfl⟩:=hv x (List.mem_of_getElem? hx)
  have:=h j u _ hu hx
  cases this
  exact .val _
 | box g row cur te fr hg gv hs h =>
  refine .box g row cur te fr hg gv hs fun j u x hu hx=>?_
  have hv:lC row:=by injection hf with hf;subst hf;exact hC.1
  obtain ⟨v',rfl⟩:=hv x (List.mem_of_getElem? hx)
  have:=h j u _ hu hx
  cases this
  exact .val _
theorem AB {R R':Value->AV->List Nat->Prop} {f:AV->Option (List Prop)} (hR:∀v x O C,f x=some C->bu C->R v x O->R' v x O) {vs:List Value} {xs:List AV} {O:List Nat} (h:kP R vs xs O):∀C,pP f xs=some C->bu C->kP R' vs xs O:=by
 induction h with
 | nil=>intro _ _ _;exact .nil
 | cons h _ ih =>
  intro C hf hC
  simp only [pP] at hf
  split at hf
  ·rename_i a b ha hb
   cases hf
   obtain ⟨h1,h2⟩:=bM.1 hC
   exact .cons (hR _ _ _ _ ha h1 h) (ih b hb h2)
  ·cases hf
theorem uC {v:Value} {x:AV} {O:List Nat} {C:List Prop} (hf:uD x=some C) (hC:bu C) (h:nB S w v x O):nB S' w v x O:=by
 rcases h with h|⟨vs,cs,h1,rfl,h3⟩
 ·by_cases hx:∃cs,x= .agg cs
  ·obtain ⟨cs,rfl⟩:=hx
   cases h with
   | rep h=>cases h with
    | agg vs _ hl h =>
     right
     refine ⟨vs,cs,rfl,rfl,?_⟩
     have key:∀(vs:List Value) (cs:List AV) (C:List Prop),vs.length=cs.length->(∀(j:Nat) v c,vs[j]?=some v->cs[j]?=some c->cp S w v c)->pP wy cs=some C->bu C->kP (gS S' w) vs cs []:=by
      intro vs cs
      induction cs generalizing vs with
      | nil=>intro C hl _ _ _;cases vs with|nil=>exact .nil|cons=>simp at hl
      | cons c cs ih =>
       intro C hl hr hf hC
       cases vs with
       | nil=>simp at hl
       | cons v vs =>
        simp only [pP] at hf
        split at hf
        ·rename_i a b ha hb
         cases hf
         obtain ⟨h1,h2⟩:=bM.1 hC
         exact kP.cons (O1:=[]) (O2:=[]) (uE ha h1 (.rep (hr 0 v c rfl rfl))) (ih vs b (by simpa using hl) (fun j v c hv hc=>hr (j+1) v c (by simpa using hv) (by simpa using hc)) hb h2)
        ·cases hf
     exact key vs cs C hl h hf hC
  ·have:uD x=wy x:=by
    cases x with
    | agg cs=>exact absurd ⟨cs,rfl⟩ hx
    | _=>rfl
   rw [this] at hf
   exact .inl (uE hf hC h)
 ·exact .inr ⟨vs,cs,h1,rfl,AB (f:=wy) (R':=gS S' w) (fun _ _ _ _ a b c=>uE a b c) h3 C hf hC⟩
theorem sM {v:Value} {x:AV} {O:List Nat} {C:List Prop} (hf:flat x=some C) (hC:bu C) (h:sq S w v x O):sq S' w v x O:=by
 rcases h with h|⟨vs,cs,h1,rfl,h3⟩
 ·by_cases hx:∃cs,x= .br cs
  ·obtain ⟨cs,rfl⟩:=hx
   rcases h with h|⟨vs,JA,h1,h2,h3⟩
   ·cases h with
    | rep h=>cases h with
     | br vs _ hl h =>
      right
      refine ⟨vs,cs,rfl,rfl,?_⟩
      have key:∀(vs:List Value) (cs:List AV) (C:List Prop),vs.length=cs.length->(∀(j:Nat) v c,vs[j]?=some v->cs[j]?=some c->cp S w v c)->pP uD cs=some C->bu C->kP (nB S' w) vs cs []:=by
       intro vs cs
       induction cs generalizing vs with
       | nil=>intro C hl _ _ _;cases vs with|nil=>exact .nil|cons=>simp at hl
       | cons c cs ih =>
        intro C hl hr hf hC
        cases vs with
        | nil=>simp at hl
        | cons v vs =>
         simp only [pP] at hf
         split at hf
         ·rename_i a b ha hb
          cases hf
          obtain ⟨h1,h2⟩:=bM.1 hC
          exact kP.cons (O1:=[]) (O2:=[]) (uC ha h1 (.inl (.rep (hr 0 v c rfl rfl)))) (ih vs b (by simpa using hl) (fun j v c hv hc=>hr (j+1) v c (by simpa using hv) (by simpa using hc)) hb h2)
         ·cases hf
      exact key vs cs C hl h hf hC
   ·cases h2
  ·have:flat x=uD x:=by
    cases x with
    | br cs=>exact absurd ⟨cs,rfl⟩ hx
    | _=>rfl
   rw [this] at hf
   exact .inl (uC hf hC h)
 ·exact .inr ⟨vs,cs,h1,rfl,AB (f:=uD) (R':=nB S' w) (fun _ _ _ _ a b c=>uC a b c) h3 C hf hC⟩
end
def jf (id:Nat):AV->AV×List (Nat×Row)
 | .own e row=>(.ref id,[(id,⟨e,true,false,row⟩)])
 | .box row=>(.addr id 0,[(id,⟨1,false,true,row⟩)])
 | x=>(x,[])
def gH (f:Nat->AV->AV×List (Nat×Row)) (step:Nat):Nat->List AV->List AV×List (Nat×Row)
 | _,[]=>([],[])
 | id,x::l=>((f id x).1::(gH f step (id+step) l).1,(gH f step (id+step) l).2++(f id x).2)
def wI (id:Nat):AV->AV×List (Nat×Row)
 | .agg cs=>(.agg (gH jf 100000 (id+100000) cs).1,(gH jf 100000 (id+100000) cs).2)
 | x=>jf id x
def bG (d:Nat):AV->AV×List (Nat×Row)
 | .br cs=>(.br (gH wI 1000 (d+1000) cs).1,(gH wI 1000 (d+1000) cs).2)
 | x=>wI d x
section
variable {S0:bf} {w0 w:World} {n:Nat} {a:Act}
def Ext (S0:bf) (w:World) (s s':AS) (φ ck:Nat->Option Nat) (O O':List Nat):Prop :=
 (∀i y,az s.H φ i=some y->az s'.H ck i=some y)∧(∀b,aJ S0 w φ O b->aJ S0 w ck O' b)
theorem Ext.den {s s':AS} {φ ck:Nat->Option Nat} {O O':List Nat} (h:Ext S0 w s s' φ ck O O') {v:Value} {x:AV} (hd:Den (az s.H φ) (aJ S0 w φ O) w v x):Den (az s'.H ck) (aJ S0 w ck O') w v x :=
 hd.mono h.1 (fun b hb=>⟨h.2 b hb,rfl⟩) (fun _ _ _ _ _=>rfl)
theorem Ext.trans {s s1 s2:AS} {φ iy jT:Nat->Option Nat} {O O1 O2:List Nat} (h:Ext S0 w s s1 φ iy O O1) (k:Ext S0 w s1 s2 iy jT O1 O2):Ext S0 w s s2 φ jT O O2 :=
 ⟨fun i y hi=>k.1 i y (h.1 i y hi),fun b hb=>k.2 b (h.2 b hb)⟩
def Ej (S0:bf) (w0 w:World) (n:Nat) (a:Act) (R:(Nat->Prop)->Value->AV->List Nat->Prop) (f:Nat->AV->AV×List (Nat×Row)):Prop :=
 ∀(s:AS) (φ:Nat->Option Nat) (O1 O:List Nat) (v:Value) (x:AV) (id:Nat),aH S0 w0 n (O1++O) s a w φ->R (aJ S0 w φ (O1++O)) v x O1->(O1++O).Nodup->(∀g∈O1,(w0.heap.size≤g∨S0.X g)∧g<w.heap.size)->(∀i∈(f id x).2.map (·.1),look s.H i=none∧i<1000000000000)->((f id x).2.map (·.1)).Nodup ->
  ∃ ck,aH S0 w0 n O ⟨s.F,(f id x).2++s.H⟩ a w ck∧Den (az ((f id x).2++s.H) ck) (aJ S0 w ck O) w v (f id x).1∧Ext S0 w s ⟨s.F,(f id x).2++s.H⟩ φ ck (O1++O) O
theorem lZ:Ej S0 w0 w n a (fun S=>gS S w) jf:=by
 intro s φ O1 O v x id h hg g_ mh gv _
 cases hg with
 | rep bV =>
  have hx:jf id x=(x,[]):=by
   cases bV<;>rfl
  rw [hx]
  exact ⟨φ,h,.rep bV,fun _ _ h=>h,fun _ h=>h⟩
 | nil e =>
  have hid:look s.H id=none:=(gv id (by simp [jf])).1
  have h1:=h.rr (id:=id) (r:=⟨e,true,false,[]⟩) hid rfl
  refine ⟨φ,h1,.cw id e ?_,fun i y hi=>?_,fun _ h=>h⟩
  ·show az ((id,⟨e,true,false,[]⟩)::s.H) φ id=_
   rw [bn (r:=⟨e,true,false,[]⟩) (by rw [aB,if_pos rfl]),h.only id hid];rfl
  ·obtain ⟨e',m,b⟩:=y
   obtain ⟨q,hl,h1,h2,h3⟩:=aL hi
   show az ((id,_)::s.H) φ i=_
   have cK:id≠i:=fun e=>by subst e;rw [hid] at hl;cases hl
   rw [bn (r:=q) (by rw [aB,if_neg cK,hl]),h1,h2,h3]
 | own g l c e row cur te fr hg hf hl hc hm hs bV =>
  have hid:look s.H id=none:=(gv id (by simp [jf])).1
  have Pr:g ∉ O:=by
   have:=g_
   simp only [List.cons_append,List.nil_append,List.nodup_cons] at this
   exact this.1
  have h1:=aH.wF (g:=g) (id:=id) (r:=⟨e,true,false,row⟩) h ⟨.inl (gv id (by simp [jf])).2,(mh g (by simp)).1⟩ (mh g (by simp)).2 Pr hid ⟨cur,te,fr,hg,hf,by simp only [hl,hs];exact Nat.mul_le_mul_left _ hc,fun h=>(by cases h),fun j u x hu hx=>by show cp _ _ _ _;exact bV j u x hu hx⟩
  refine ⟨_,h1,.ref id e row.length g l c ?_ hl hc hm (by unfold aS;rw [hg];exact hs),fun i y hi=>?_,fun b hb=>(qV (h.only id hid) b).1 hb⟩
  ·show az ((id,⟨e,true,false,row⟩)::s.H) _ id=_
   rw [bn (r:=⟨e,true,false,row⟩) (by rw [aB,if_pos rfl])]
   unfold fm;rw [if_pos rfl]
  ·obtain ⟨e',m,b⟩:=y
   obtain ⟨q,hl,h1,h2,h3⟩:=aL hi
   show az ((id,_)::s.H) _ i=_
   have cK:id≠i:=fun e=>by subst e;rw [hid] at hl;cases hl
   rw [bn (r:=q) (by rw [aB,if_neg cK,hl]),h1,h2]
   unfold fm;rw [if_neg (Ne.symm cK),h3]
 | box g row cur te fr hg hf hs bV =>
  have hid:look s.H id=none:=(gv id (by simp [jf])).1
  have Pr:g ∉ O:=by
   have:=g_
   simp only [List.cons_append,List.nil_append,List.nodup_cons] at this
   exact this.1
  have h1:=aH.wF (g:=g) (id:=id) (r:=⟨1,false,true,row⟩) h ⟨.inl (gv id (by simp [jf])).2,(mh g (by simp)).1⟩ (mh g (by simp)).2 Pr hid ⟨cur,te,fr,hg,hf,by simp only [hs];exact Nat.le_refl _,fun _=>hs,fun j u x hu hx=>by show Den _ _ _ _ _;exact .rep (bV j u x hu hx)⟩
  refine ⟨_,h1,.addr id 0 1 row.length g ?_,fun i y hi=>?_,fun b hb=>(qV (h.only id hid) b).1 hb⟩
  ·show az ((id,⟨1,false,true,row⟩)::s.H) _ id=_
   rw [bn (r:=⟨1,false,true,row⟩) (by rw [aB,if_pos rfl])]
   unfold fm;rw [if_pos rfl]
  ·obtain ⟨e',m,b⟩:=y
   obtain ⟨q,hl,h1,h2,h3⟩:=aL hi
   show az ((id,_)::s.H) _ i=_
   have cK:id≠i:=fun e=>by subst e;rw [hid] at hl;cases hl
   rw [bn (r:=q) (by rw [aB,if_neg cK,hl]),h1,h2]
   unfold fm;rw [if_neg (Ne.symm cK),h3]
theorem kp {R:(Nat->Prop)->Value->AV->List Nat->Prop} (Ty:∀S S' v x O,(∀b,S b->S' b)->R S v x O->R S' v x O) {f:Nat->AV->AV×List (Nat×Row)} (hf:Ej S0 w0 w n a R f) (step:Nat):∀(xs:List AV) (vs:List Value) (s:AS) (φ:Nat->Option Nat) (O1 O:List Nat) (id:Nat),aH S0 w0 n (O1++O) s a w φ->kP (R (aJ S0 w φ (O1++O))) vs xs O1->(O1++O).Nodup->(∀g∈O1,(w0.heap.size≤g∨S0.X g)∧g<w.heap.size)->(∀i∈(gH f step id xs).2.map (·.1),look s.H i=none∧i<1000000000000)->((gH f step id xs).2.map (·.1)).Nodup ->
  ∃ ck,aH S0 w0 n O ⟨s.F,(gH f step id xs).2++s.H⟩ a w ck∧vs.length=(gH f step id xs).1.length∧(∀(j:Nat) v c,vs[j]?=some v->(gH f step id xs).1[j]?=some c->Den (az ((gH f step id xs).2++s.H) ck) (aJ S0 w ck O) w v c)∧Ext S0 w s ⟨s.F,(gH f step id xs).2++s.H⟩ φ ck (O1++O) O
 | [],vs,s,φ,O1,O,id,h,hg,g_,mh,gv,hn=>by
  cases hg
  exact ⟨φ,h,rfl,fun j v c hv=>by simp at hv,fun _ _ h=>h,fun _ h=>h⟩
 | x::xs,vs,s,φ,O1,O,id,h,hg,g_,mh,gv,hn=>by
  cases hg with
  | cons hx ht =>
   rename_i v vs Oa Ob
   rw [List.append_assoc] at h g_ hx ht
   simp only [gH,List.map_append] at gv hn ⊢
   obtain ⟨iy,h1,FW,LK⟩:=hf s φ Oa (Ob++O) v x id h hx g_ (fun g hg=>mh g (by simp [hg])) (fun i hi=>gv i (by simp [hi])) (List.nodup_append.1 hn).2.1
   have Rx:(Ob++O).Nodup:=(List.nodup_append.1 g_).2.1
   obtain ⟨jT,h2,BW,yk,KC⟩:=kp Ty hf step xs vs ⟨s.F,(f id x).2++s.H⟩ iy Ob O (id+step) h1 (ht.imp fun v x O hR=>Ty _ _ v x O (fun b hb=>LK.2 b hb) hR) Rx (fun g hg=>mh g (by simp [hg])) (fun i hi=>⟨by
    rw [bI]
    have h3:look (f id x).2 i=none:=by
     have gu:i ∉ (f id x).2.map (·.1):=fun hm=>(List.nodup_append.1 hn).2.2 i hi i hm rfl
     have key:∀(l:List (Nat×Row)),i ∉ l.map (·.1)->look l i=none:=by
      intro l
      induction l with
      | nil=>intro _;rfl
      | cons p l ih =>
       intro hm
       obtain ⟨k,r⟩:=p
       simp only [List.map_cons,List.mem_cons,not_or] at hm
       rw [aB,if_neg (Ne.symm hm.1),ih hm.2]
     exact key _ gu
    rw [h3,(gv i (by simp [hi])).1];rfl,(gv i (by simp [hi])).2⟩) (List.nodup_append.1 hn).1
   have e1:(gH f step (id+step) xs).2++((f id x).2++s.H)=((gH f step (id+step) xs).2++(f id x).2)++s.H:=by rw [List.append_assoc]
   rw [e1] at h2 yk KC
   rw [List.append_assoc Oa Ob O]
   refine ⟨jT,h2,by simp [BW],fun j v' c hv hc=>?_,LK.trans KC⟩
   cases j with
   | zero=>simp at hv hc;subst hv;subst hc;exact KC.den FW
   | succ j=>exact yk j v' c (by simpa using hv) (by simpa using hc)
theorem qm:Ej S0 w0 w n a (fun S=>nB S w) wI:=by
 intro s φ O1 O v x id h hg g_ mh gv hn
 rcases hg with hg|⟨vs,cs,rfl,rfl,hL⟩
 ·by_cases hx:∃cs,x= .agg cs
  ·obtain ⟨cs,rfl⟩:=hx
   cases hg with
   | rep bV=>cases bV with
    | agg vs _ hl bV =>
     have hL:kP (gS (aJ S0 w φ ([]++O)) w) vs cs []:=by
      have key:∀(vs:List Value) (cs:List AV),vs.length=cs.length->(∀(j:Nat) v c,vs[j]?=some v->cs[j]?=some c->cp (aJ S0 w φ ([]++O)) w v c)->kP (gS (aJ S0 w φ ([]++O)) w) vs cs []:=by
       intro vs cs
       induction cs generalizing vs with
       | nil=>intro hl _;cases vs with|nil=>exact .nil|cons=>simp at hl
       | cons c cs ih =>
        intro hl hr
        cases vs with
        | nil=>simp at hl
        | cons v vs=>exact kP.cons (O1:=[]) (O2:=[]) (.rep (hr 0 v c rfl rfl)) (ih vs (by simpa using hl) fun j v c hv hc=>hr (j+1) v c (by simpa using hv) (by simpa using hc))
      exact key vs cs hl bV
     obtain ⟨ck,h1,h2,h3,h4⟩:=kp (R:=fun S=>gS S w) (fun S S' v x O hS h=>h.mono hS) lZ 100000 cs vs s φ [] O (id+100000) h hL g_ mh gv hn
     exact ⟨ck,h1,.agg vs _ h2 h3,h4⟩
  ·have:wI id x=jf id x:=by
    cases x with
    | agg cs=>exact absurd ⟨cs,rfl⟩ hx
    | _=>rfl
   rw [this] at gv hn ⊢
   exact lZ s φ O1 O v x id h hg g_ mh gv hn
 ·obtain ⟨ck,h1,h2,h3,h4⟩:=kp (R:=fun S=>gS S w) (fun S S' v x O hS h=>h.mono hS) lZ 100000 cs vs s φ O1 O (id+100000) h hL g_ mh gv hn
  exact ⟨ck,h1,.agg vs _ h2 h3,h4⟩
theorem vG:Ej S0 w0 w n a (fun S=>sq S w) bG:=by
 intro s φ O1 O v x id h hg g_ mh gv hn
 rcases hg with hg|⟨vs,cs,rfl,rfl,hL⟩
 ·by_cases hx:∃cs,x= .br cs
  ·obtain ⟨cs,rfl⟩:=hx
   rcases hg with hg|⟨vs,JA,h1,h2,h3⟩
   ·cases hg with
    | rep bV=>cases bV with
     | br vs _ hl bV =>
      have hL:kP (nB (aJ S0 w φ ([]++O)) w) vs cs []:=by
       have key:∀(vs:List Value) (cs:List AV),vs.length=cs.length->(∀(j:Nat) v c,vs[j]?=some v->cs[j]?=some c->cp (aJ S0 w φ ([]++O)) w v c)->kP (nB (aJ S0 w φ ([]++O)) w) vs cs []:=by
        intro vs cs
        induction cs generalizing vs with
        | nil=>intro hl _;cases vs with|nil=>exact .nil|cons=>simp at hl
        | cons c cs ih =>
         intro hl hr
         cases vs with
         | nil=>simp at hl
         | cons v vs=>exact kP.cons (O1:=[]) (O2:=[]) (.inl (.rep (hr 0 v c rfl rfl))) (ih vs (by simpa using hl) fun j v c hv hc=>hr (j+1) v c (by simpa using hv) (by simpa using hc))
       exact key vs cs hl bV
      obtain ⟨ck,h1,h2,h3,h4⟩:=kp (R:=fun S=>nB S w) (fun S S' v x O hS h=>h.mono hS) qm 1000 cs vs s φ [] O (id+1000) h hL g_ mh gv hn
      exact ⟨ck,h1,.br vs _ h2 h3,h4⟩
   ·cases h2
  ·have:bG id x=wI id x:=by
    cases x with
    | br cs=>exact absurd ⟨cs,rfl⟩ hx
    | _=>rfl
   rw [this] at gv hn ⊢
   exact qm s φ O1 O v x id h hg g_ mh gv hn
 ·obtain ⟨ck,h1,h2,h3,h4⟩:=kp (R:=fun S=>nB S w) (fun S S' v x O hS h=>h.mono hS) qm 1000 cs vs s φ O1 O (id+1000) h hL g_ mh gv hn
  exact ⟨ck,h1,.br vs _ h2 h3,h4⟩
def aR:AS->List Nat->AS
 | s,[]=>s
 | s,i::l=>aR (bX i s) l
theorem jX:∀(l:List Nat) (s:AS) (φ:Nat->Option Nat) (O:List Nat),aH S0 w0 n O s a w φ-> ∃ ck,aH S0 w0 n O (aR s l) a w ck∧(∀b,aJ S0 w φ O b->aJ S0 w ck O b)∧(∀i,look s.H i=none∨i∈l->look (aR s l).H i=none)
 | [],s,φ,O,h=>⟨φ,h,fun _ h=>h,fun i hi=>hi.resolve_right (by simp)⟩
 | i::l,s,φ,O,h=>by
  have h1:aH S0 w0 n O (bX i s) a w (erase φ i):=by
   cases bY:φ i with
   | none=>exact h.jk i O (by rw [bY])
   | some g=>exact (h.jk i (g::O) (by rw [bY])).uA
  obtain ⟨ck,h2,h3,h4⟩:=jX l _ _ _ h1
  refine ⟨ck,h2,fun b hb=>h3 b ⟨hb.1,hb.2.1,fun j hj=>?_,hb.2.2.2⟩,fun j hj=>h4 j ?_⟩
  ·unfold erase at hj
   split at hj
   ·cases hj
   ·exact hb.2.2.1 j hj
  ·by_cases e:j=i
   ·subst e;exact .inl (cZ j)
   ·rcases hj with hj|hj
    ·exact .inl (pB i j hj)
    ·rcases List.mem_cons.1 hj with h|h
     ·exact absurd h e
     ·exact .inr h
theorem ny:∀(O' O:List Nat) (s:AS) (φ:Nat->Option Nat),aH S0 w0 n O s a w φ->(∀g∈O',w.heap.size≤g)->aH S0 w0 n (O'++O) s a w φ
 | [],O,s,φ,h,_=>h
 | g::O',O,s,φ,h,hg=>(ny O' O s φ h fun g hm=>hg g (by simp [hm])).await g (hg g (by simp))
end
def nodupB:List Nat->Bool
 | []=>true
 | i::l=>match l.any (Nat.beq i),Nat.ble i 999999999999 with|false,true=>nodupB l|_,_=>false
theorem im:∀ {l:List Nat},nodupB l=true->l.Nodup
 | [],_=>List.nodup_nil
 | i::l,h=>by
  simp only [nodupB] at h
  split at h
  ·rename_i hn _
   rw [List.nodup_cons]
   refine ⟨fun hm=>?_,im h⟩
   have:l.any (Nat.beq i)=true:=List.any_eq_true.2 ⟨i,hm,Nat.beq_refl i⟩
   rw [hn] at this;cases this
  ·cases h
theorem qF:∀ {l:List Nat},nodupB l=true-> ∀i∈l,i<1000000000000
 | [],_,i,h=>by cases h
 | j::l,h,i,hi=>by
  simp only [nodupB] at h
  split at h
  ·rename_i _ hb
   rcases List.mem_cons.1 hi with rfl|hi
   ·have:=Nat.le_of_ble_eq_true hb;omega
   ·exact qF h i hi
  ·cases h
def jG (s:AS):List AV->Option (List AV)
 | []=>some []
 | x::l=>match view s x,jG s l with|some y,some m=>some (y::m)|_,_=>none
def w8:AV->Bool
 | .agg cs=>dD cs
 | .arr _=>true
 | x=>gV x
def lb:List AV->Bool
 | []=>true
 | x::l=>match w8 x with|true=>lb l|false=>false
def gU (P : Program) (f : FuncId) : Bool := match P.funcs[f]? with | some fn => fn.body.isSome && !(fn.name == "runtime.NumGoroutine") | none => false
theorem oL {P:Program} {f:FuncId} (h:gU P f=true) (args:Array Value) (w:World):(callFunc f args).run P w= .ok (.enter f args) w:=by
 unfold gU at h
 split at h
 ·rename_i fn hf
  simp only [Bool.and_eq_true,Bool.not_eq_true',Option.isSome_iff_exists] at h
  obtain ⟨⟨c,hc⟩,hn⟩:=h
  have sf : ¬ fn.name = "runtime.NumGoroutine" := by simpa using hn
  simp [callFunc,hf,hc,sf]
 ·cases h
def callee (s:AS):Callee->Option FuncId
 | .value (.func f)=>some f
 | .value x=>(match bj s x with| .val (.func (.func f) ⟨[]⟩ ⟨[]⟩)=>some f|_=>none)
 | _=>none
def q8 (P:Program) (n:Nat) (s:AS) (d:Option Nat) (c:Callee) (args:List Operand) (h:Hint):Option (AS×List Prop) :=
 match callee s c,h.av with
 | some f,some r=>(match gU P f with
  | true=>(match h.b with
   | true=>(match jG s (args.map (bj s)),flat r,d with
    | some vs,some C,some d=>(match nodupB ((bG d r).2.map (·.1)),fZ n ⟨(aR s ((bG d r).2.map (·.1))).F,(bG d r).2++(aR s ((bG d r).2.map (·.1))).H⟩ (some d) (bG d r).1 with
     | true,some s'=>some (s',bK P f vs r::C)
     | _,_=>none)
    | some vs,some C,none=>some (s,bK P f vs r::C)
    | _,_,_=>none)
   | false=>(match fB s ((args.map (bj s)).flatMap n0) with
    | some s1=>(match lb (args.map (bj s1)),d with
     | true,some d=>(match nodupB ((bG d r).2.map (·.1)),fZ n ⟨(aR s1 ((bG d r).2.map (·.1))).F,(bG d r).2++(aR s1 ((bG d r).2.map (·.1))).H⟩ (some d) (bG d r).1 with
      | true,some s'=>some (s',[bK P f (args.map (bj s1)) r])
      | _,_=>none)
     | true,none=>some (s1,[bK P f (args.map (bj s1)) r])
     | _,_=>none)
    | none=>none))
  | false=>none)
 | _,_=>none
section
variable {P:Program} {n:Nat} {s:AS} {o:Oper} {h:Hint} {q:AS×List Prop}
theorem lA {S0:bf} {w0 w:World} {O:List Nat} {a:Act} {φ:Nat->Option Nat} (hs:aH S0 w0 n O s a w φ):∀(xs:List Operand) (ys:List AV),jG s (xs.map (bj s))=some ys->ys.length=xs.length∧ ∀(j:Nat) v y,(xs.map a.eval)[j]?=some v->ys[j]?=some y->cp (fun b=>b<w.heap.size) w v y
 | [],ys,h=>by cases h;exact ⟨rfl,fun j v y hv=>by simp at hv⟩
 | x::xs,ys,h=>by
  simp only [List.map_cons,jG] at h
  split at h
  ·rename_i y m hy hm
   cases h
   obtain ⟨h1,h2⟩:=lA hs xs m hm
   refine ⟨by simp [h1],fun j v y' hv Q9=>?_⟩
   cases j with
   | zero=>simp at hv Q9;subst hv;subst Q9;exact wM hs (hs.bj x) hy
   | succ j=>exact h2 j v y' (by simpa using hv) (by simpa using Q9)
  ·cases h
theorem nE {I:Info} {S:Nat->Prop} {w:World} {v:Value} {x:AV} (hd:Den I S w v x) (hr:w8 x=true):cp S w v x:=by
 by_cases hc:∃cs,x= .agg cs
 ·obtain ⟨cs,rfl⟩:=hc
  obtain ⟨vs,rfl,hl,hd⟩:=j8 hd
  exact .agg vs cs hl fun j v c hv hc=>(dY (hd j v c hv hc) (ik hr hc)).1
 ·by_cases ha:∃cs,x= .arr cs
  ·obtain ⟨cs,rfl⟩:=ha
   obtain ⟨vs,rfl,hl,hd⟩:=pZ hd
   exact .arr vs cs hl hd
  ·have:w8 x=gV x:=by
    cases x with
    | agg cs=>exact absurd ⟨cs,rfl⟩ hc
    | arr cs=>exact absurd ⟨cs,rfl⟩ ha
    | _=>rfl
   rw [this] at hr
   exact (dY hd hr).1
theorem lG:∀ {l:List AV} {j:Nat} {x:AV},lb l=true->l[j]?=some x->w8 x=true
 | [],j,x,_,h=>by simp at h
 | y::l,j,x,hp,h=>by
  simp only [lb] at hp
  split at hp
  ·rename_i hy
   cases j with
   | zero=>simp at h;subst h;exact hy
   | succ j=>exact lG hp (by simpa using h)
  ·cases hp
theorem jd {S0:bf} {w0 w:World} {O:List Nat} {a:Act} {φ:Nat->Option Nat} (hs:aH S0 w0 n O s a w φ) {c:Callee} {f:FuncId} (hc:callee s c=some f) {xs:Array Operand} {ts:Array TypeId} (ho:o.op= .call ⟨c,xs,ts⟩) (hE:gU P f=true) :
  (execOp a.eval o).run P w= .ok (.enter f (xs.map a.eval)) w:=by
 have key:∃x,c= .value x∧a.eval x= .func (.func f) #[] #[]:=by
  unfold callee at hc
  split at hc
  ·cases hc;exact ⟨_,rfl,rfl⟩
  ·rename_i x _
   split at hc
   ·rename_i f' he
    cases hc
    exact ⟨x,rfl,bE (he ▸ hs.bj x)⟩
   ·cases hc
  ·cases hc
 obtain ⟨x,rfl,hx⟩:=key
 unfold execOp
 simp [ho,resolve,hx,Deferred.ofValue,invoke,oL hE]
theorem uY {S0:bf} {w0 w:World} {a:Act} {φ:Nat->Option Nat} {Q:Exit->Act->World->Prop} (hs:aH S0 w0 n [] s a w φ) {f:FuncId} {us:List Value} (bZ:(execOp a.eval o).run P w= .ok (.enter f us.toArray) w) {S:Nat->Prop} {args:List AV} {r:AV} (ni:bK P f args r) (hS:∀b,S b->b<w.heap.size) (hl:us.length=args.length) (iq:∀(j:Nat) v x,us[j]?=some v->args[j]?=some x->cp S w v x)
  (hG:∀w' v O,Below w.heap.size w w'->(∀g∈O,w.heap.size≤g∧g<w'.heap.size)->sq (fun b=>S b∨(w.heap.size≤b∧b<w'.heap.size∧b ∉ O)) w' v r O->sq (aJ S0 w' φ O) w' v r O) {s':AS}
  (hd:(∃d,o.dst=some d∧nodupB ((bG d r).2.map (·.1))=true∧fZ n ⟨(aR s ((bG d r).2.map (·.1))).F,(bG d r).2++(aR s ((bG d r).2.map (·.1))).H⟩ (some d) (bG d r).1=some s')∨(o.dst=none∧s'=s)) :
  o.wp P a w (fun a' w'=>ib S0 w0 n s' a' w') Q:=by
 unfold Oper.wp
 rw [bZ]
 have mE:=ni w S us hs.cM.mm hS hl iq
 refine mE.mono ?_
 rintro en w' ⟨v,O,rfl,hb,g_,mh,um⟩
 show ib S0 w0 n s' (a.put o.dst v) w'
 have um:=hG w' v O hb mh um
 have h1:=ny O [] s φ hs (fun g hg=>(mh g hg).1)
 rw [List.append_nil] at h1
 have h2:=h1.vD (fun g hg=>.inl (Nat.le_trans hs.cM.size (mh g hg).1)) hb.os hb.tape hb.output hb.size (fun b Ju _=>hb.block b Ju)
 rcases hd with ⟨d,hd,wh,dL⟩|⟨hd,rfl⟩
 ·obtain ⟨jT,h3,hF,HR⟩:=jX ((bG d r).2.map (·.1)) s φ O h2
  have Vs:aH S0 w0 n (O++ []) (aR s ((bG d r).2.map (·.1))) a w' jT:=by rw [List.append_nil];exact h3
  obtain ⟨wK,h4,h5,h6⟩:=vG (aR s ((bG d r).2.map (·.1))) jT O [] v r d Vs (by rw [List.append_nil];exact um.mono hF) (by rw [List.append_nil];exact g_) (fun g hg=>⟨.inl (Nat.le_trans hs.cM.size (mh g hg).1),(mh g hg).2⟩) (fun i hi=>⟨HR i (.inr hi),qF wh i hi⟩) (im wh)
  rw [hd]
  exact ⟨wK,dB h4 h5 dL⟩
 ·rw [hd]
  have key:∀(O:List Nat),aH S0 w0 n O s' a w' φ->aH S0 w0 n [] s' a w' φ:=by
   intro O
   induction O with
   | nil=>exact fun h=>h
   | cons g O ih=>exact fun h=>ih h.uA
  have h3:=key O h2
  exact ⟨φ,⟨h3.jF,h3.jJ,h3.cM,h3.ct,h3.rows,h3.only,h3.inj,h3.cL,h3.apart,h3.new⟩⟩
theorem sU {S0:bf} {w0 w:World} {a:Act} {φ:Nat->Option Nat} {Q:Exit->Act->World->Prop} (hs:aH S0 w0 n [] s a w φ) {f:FuncId} {xs:Array Operand} (bZ:(execOp a.eval o).run P w= .ok (.enter f (xs.map a.eval)) w) {S:Nat->Prop} {args:List AV} {r:AV} (ni:bK P f args r) (hS:∀b,S b->b<w.heap.size) (hl:args.length=xs.toList.length) (iq:∀(j:Nat) v x,(xs.toList.map a.eval)[j]?=some v->args[j]?=some x->cp S w v x)
  (hG:∀w' v O,Below w.heap.size w w'->(∀g∈O,w.heap.size≤g∧g<w'.heap.size)->sq (fun b=>S b∨(w.heap.size≤b∧b<w'.heap.size∧b ∉ O)) w' v r O->sq (aJ S0 w' φ O) w' v r O) {s':AS}
  (hd:(∃d,o.dst=some d∧nodupB ((bG d r).2.map (·.1))=true∧fZ n ⟨(aR s ((bG d r).2.map (·.1))).F,(bG d r).2++(aR s ((bG d r).2.map (·.1))).H⟩ (some d) (bG d r).1=some s')∨(o.dst=none∧s'=s)) :
  o.wp P a w (fun a' w'=>ib S0 w0 n s' a' w') Q:=by
 have e:(xs.toList.map a.eval).toArray=xs.map a.eval:=by apply Array.ext';simp
 exact uY hs (us:=xs.toList.map a.eval) (by rw [e];exact bZ) ni hS (by simp [hl]) iq hG hd
theorem wB {c:Callee} {xs:Array Operand} {ts:Array TypeId} (ho:o.op= .call ⟨c,xs,ts⟩) (hr:q8 P n s o.dst c xs.toList h=some q):lV P n s o q.1 q.2:=by
 intro hC S0 w0 a w Q ⟨φ,hs⟩
 unfold q8 at hr
 split at hr
 ·rename_i f r hc _
  split at hr
  ·rename_i hE
   split at hr
   ·
    split at hr
    ·rename_i vs C d hv vo hd
     split at hr
     ·rename_i s' hn hp
      cases hr
      obtain ⟨ni,hC⟩:=hC
      obtain ⟨hl,bV⟩:=lA hs _ _ hv
      exact sU hs (jd hs hc ho hE) ni (S:=fun b=>b<w.heap.size) (fun _ h=>h) hl bV (fun w' v O _ _ hg=>sM vo hC hg) (.inl ⟨d,hd,hn,hp⟩)
     ·cases hr
    ·rename_i vs C hv vo hd
     cases hr
     obtain ⟨ni,hC⟩:=hC
     obtain ⟨hl,bV⟩:=lA hs _ _ hv
     exact sU hs (jd hs hc ho hE) ni (S:=fun b=>b<w.heap.size) (fun _ h=>h) hl bV (fun w' v O _ _ hg=>sM vo hC hg) (.inr ⟨hd,rfl⟩)
    ·cases hr
   ·split at hr
    ·rename_i s1 HE
     obtain ⟨iy,gI⟩:=fA _ _ _ _ HE hs
     have SM:lb (xs.toList.map (bj s1))=true-> ∀(j:Nat) v x,(xs.toList.map a.eval)[j]?=some v->(xs.toList.map (bj s1))[j]?=some x->cp (aJ S0 w iy []) w v x:=by
      intro vl j v x hv hx
      have MG:=lG vl hx
      rw [List.getElem?_map] at hv hx
      cases hj:xs.toList[j]? with
      | none=>rw [hj] at hv;cases hv
      | some y =>
       rw [hj] at hv hx
       injection hv with hv;injection hx with hx;subst hv;subst hx
       exact nE (gI.bj y) MG
     have hG:∀w' v O,Below w.heap.size w w'->(∀g∈O,w.heap.size≤g∧g<w'.heap.size)->sq (fun b=>aJ S0 w iy [] b∨(w.heap.size≤b∧b<w'.heap.size∧b ∉ O)) w' v r O->sq (aJ S0 w' iy O) w' v r O:=by
      intro w' v O hb mh hg
      refine hg.mono fun b kE=>?_
      rcases kE with kE|⟨h1,h2,h3⟩
      ·exact ⟨by have:=kE.1;have:=hb.size;omega,fun hm=>by have:=(mh b hm).1;have:=kE.1;omega,kE.2.2⟩
      ·exact ⟨h2,h3,fun i hi=>by have:=(gI.cL i b hi).2;omega,gI.new b (.inl (by have:=gI.cM.size;omega))⟩
     split at hr
     ·rename_i d vl hd
      split at hr
      ·rename_i s' hn hp
       cases hr
       obtain ⟨ni,-⟩:=hC
       exact sU gI (jd hs hc ho hE) ni (fun b hb=>hb.1) (by simp) (SM vl) hG (.inl ⟨d,hd,hn,hp⟩)
      ·cases hr
     ·rename_i vl hd
      cases hr
      obtain ⟨ni,-⟩:=hC
      exact sU gI (jd hs hc ho hE) ni (fun b hb=>hb.1) (by simp) (SM vl) hG (.inr ⟨hd,rfl⟩)
     ·cases hr
    ·cases hr
  ·cases hr
 ·cases hr
def BD (s:AS) (id:Nat):AS :=
 match look s.H id with
 | some ⟨e,false,f,cs⟩=>(match dD cs with|true=>⟨s.F,(id,⟨e,true,f,cs⟩)::cF s.H id⟩|false=>s)
 | _=>s
theorem EL {S0:bf} {w0 w:World} {O:List Nat} {a:Act} {φ:Nat->Option Nat} (id:Nat) (hs:aH S0 w0 n O s a w φ):aH S0 w0 n O (BD s id) a w φ:=by
 unfold BD
 split
 ·rename_i e f cs hr
  split
  ·rename_i hp
   have lg:∀i,look ((id,(⟨e,true,f,cs⟩:Row))::cF s.H id) i=if id=i then some ⟨e,true,f,cs⟩ else look s.H i:=by
    intro i
    rw [aB,bC]
    by_cases e:id=i<;>simp [e]
   have hI:az ((id,(⟨e,true,f,cs⟩:Row))::cF s.H id) φ=az s.H φ:=by
    funext i
    unfold az
    rw [lg]
    by_cases e:id=i
    ·subst e;rw [if_pos rfl,hr];rfl
    ·rw [if_neg e]
   refine ⟨hs.jF,hs.jJ,hs.cM,fun i av hi=>?_,fun i q hq=>?_,fun i hi=>?_,hs.inj,hs.cL,hs.apart,hs.new⟩
   ·simp only [hI];exact hs.ct i av hi
   ·simp only [hI]
    simp only [lg] at hq
    by_cases e:id=i
    ·subst e
     rw [if_pos rfl] at hq;injection hq with hq;subst hq
     have aK:=hs.rows id _ hr
     unfold bJ at aK ⊢
     cases bY:φ id with
     | none=>rw [bY] at aK;exact aK
     | some g =>
      rw [bY] at aK
      obtain ⟨cur,te,fr,hg,hf,hl,mD,hc⟩:=aK
      exact ⟨cur,te,fr,hg,hf,hl,mD,fun j u x hu hx=>(dY (hc j u x hu hx) (ik hp hx)).1⟩
    ·rw [if_neg e] at hq;exact hs.rows i q hq
   ·simp only [lg] at hi
    by_cases e:id=i
    ·rw [if_pos e] at hi;cases hi
    ·rw [if_neg e] at hi;exact hs.only i hi
  ·exact hs
 ·exact hs
def qA:AS->List Nat->AS
 | s,[]=>s
 | s,i::l=>qA (BD s i) l
theorem po {S0:bf} {w0 w:World} {O:List Nat} {a:Act} {φ:Nat->Option Nat}:∀(l:List Nat) (s:AS),aH S0 w0 n O s a w φ->aH S0 w0 n O (qA s l) a w φ
 | [],_,h=>h
 | i::l,_,h=>po l _ (EL i h)
def Cj (n:Nat) (s:AS) (d f:Nat) (xs:List Operand):Option (AS×List Prop) :=
 match fB (qA s ((xs.map (bj s)).flatMap n0)) ((xs.map (bj s)).flatMap n0) with
 | some s1=>(match lb (xs.map (bj s1)),fZ n s1 (some d) (.lu f (xs.map (bj s1))) with|true,some s'=>some (s',[])|_,_=>none)
 | none=>none
theorem l4 {S0:bf} {w0 w:World} {O:List Nat} {a:Act} {φ:Nat->Option Nat} (hs:aH S0 w0 n O s a w φ) {xs:List Operand} (h:lb (xs.map (bj s))=true) (j:Nat) (v:Value) (x:AV) (hv:(xs.map a.eval)[j]?=some v) (hx:(xs.map (bj s))[j]?=some x):cp (aJ S0 w φ O) w v x:=by
 have MG:=lG h hx
 rw [List.getElem?_map] at hv hx
 cases hj:xs[j]? with
 | none=>rw [hj] at hv;cases hv
 | some y =>
  rw [hj] at hv hx
  injection hv with hv;injection hx with hx;subst hv;subst hx
  exact nE (hs.bj y) MG
theorem Fq {d f:Nat} {xs:List Operand} (ho:o.op= .makeFunc (.func f) ⟨[]⟩ ⟨xs⟩) (hd:o.dst=some d) (hr:Cj n s d f xs=some q):lV P n s o q.1 q.2:=by
 intro hC S0 w0 a w Q ⟨φ,hs⟩
 unfold Cj at hr
 split at hr
 ·rename_i s1 HE
  obtain ⟨iy,gI⟩:=fA _ _ _ _ HE (po _ _ hs)
  split at hr
  ·rename_i s' vl hp
   cases hr
   have bZ:(execOp a.eval o).run P w= .ok (.value (.func (.func f) #[] (xs.map a.eval).toArray)) w:=by
    unfold execOp;simp [ho,Instr.makeFunc]
   refine cI bZ ⟨iy,?_⟩
   rw [hd]
   exact dB gI (.rep (.lu f _ _ (by simp) (l4 gI vl))) hp
  ·cases hr
 ·cases hr
def xR (P:Program) (n:Nat) (s:AS) (d:Option Nat) (c:Callee) (args:List Operand) (h:Hint):Option (AS×List Prop) :=
 match c,h.av,fB s ((args.map (bj s)).flatMap n0) with
 | .value x,some r,some s1=>(match bj s1 x with
  | .lu f lp=>(match gU P f,lb (args.map (bj s1)),d with
   | true,true,some d=>(match nodupB ((bG d r).2.map (·.1)),fZ n ⟨(aR s1 ((bG d r).2.map (·.1))).F,(bG d r).2++(aR s1 ((bG d r).2.map (·.1))).H⟩ (some d) (bG d r).1 with
    | true,some s'=>some (s',[bK P f (args.map (bj s1)++lp) r])
    | _,_=>none)
   | true,true,none=>some (s1,[bK P f (args.map (bj s1)++lp) r])
   | _,_,_=>none)
  | _=>none)
 | _,_,_=>none
theorem Ds {S:Nat->Prop} {I:Info} {w:World} {v:Value} {f:Nat} {cs:List AV} (h:Den I S w v (.lu f cs)):∃vs:List Value,v= .func (.func f) #[] vs.toArray∧vs.length=cs.length∧ ∀(j:Nat) v c,vs[j]?=some v->cs[j]?=some c->cp S w v c:=by
 cases h with|rep h=>cases h with|lu f vs cs hl h=>exact ⟨vs,rfl,hl,h⟩
theorem tB {S:Nat->Prop} {w:World} {vs us:List Value} {xs ys:List AV} (hl:vs.length=xs.length) (h1:∀(j:Nat) v x,vs[j]?=some v->xs[j]?=some x->cp S w v x) (h2:∀(j:Nat) v x,us[j]?=some v->ys[j]?=some x->cp S w v x) (j:Nat) (v:Value) (x:AV) (hv:(vs++us)[j]?=some v) (hx:(xs++ys)[j]?=some x):cp S w v x:=by
 rcases Nat.lt_or_ge j vs.length with h|h
 ·rw [List.getElem?_append_left h] at hv
  rw [List.getElem?_append_left ah] at hx
  exact h1 j v x hv hx
 ·rw [List.getElem?_append_right h] at hv
  rw [List.getElem?_append_right ah,←hl] at hx
  exact h2 _ v x hv hx
theorem Cu {c:Callee} {xs:Array Operand} {ts:Array TypeId} (ho:o.op= .call ⟨c,xs,ts⟩) (hr:xR P n s o.dst c xs.toList h=some q):lV P n s o q.1 q.2:=by
 intro hC S0 w0 a w Q ⟨φ,hs⟩
 unfold xR at hr
 split at hr
 ·rename_i x r s1 _ HE
  obtain ⟨iy,gI⟩:=fA _ _ _ _ HE hs
  split at hr
  ·rename_i f lp gw
   have dx:=gI.bj x
   rw [gw] at dx
   obtain ⟨cv,hv,R0,KF⟩:=Ds dx
   have bZ:gU P f=true->(execOp a.eval o).run P w= .ok (.enter f (xs.toList.map a.eval++cv).toArray) w:=by
    intro hE
    have e:(xs.toList.map a.eval++cv).toArray= #[]++xs.map a.eval++cv.toArray:=by apply Array.ext';simp
    rw [e]
    unfold execOp
    simp [ho,resolve,hv,Deferred.ofValue,invoke,oL hE]
   have hG:∀w' v O,Below w.heap.size w w'->(∀g∈O,w.heap.size≤g∧g<w'.heap.size)->sq (fun b=>aJ S0 w iy [] b∨(w.heap.size≤b∧b<w'.heap.size∧b ∉ O)) w' v r O->sq (aJ S0 w' iy O) w' v r O:=by
    intro w' v O hb mh hg
    refine hg.mono fun b kE=>?_
    rcases kE with kE|⟨h1,h2,h3⟩
    ·exact ⟨by have:=kE.1;have:=hb.size;omega,fun hm=>by have:=(mh b hm).1;have:=kE.1;omega,kE.2.2⟩
    ·exact ⟨h2,h3,fun i hi=>by have:=(gI.cL i b hi).2;omega,gI.new b (.inl (by have:=gI.cM.size;omega))⟩
   have hlen:(xs.toList.map a.eval++cv).length=(xs.toList.map (bj s1)++lp).length:=by simp [R0]
   split at hr
   ·rename_i d hE vl hd
    split at hr
    ·rename_i s' hn hp
     cases hr
     exact uY gI (bZ hE) hC.1 (fun b hb=>hb.1) hlen (tB (by simp) (l4 gI vl) KF) hG (.inl ⟨d,hd,hn,hp⟩)
    ·cases hr
   ·rename_i hE vl hd
    cases hr
    exact uY gI (bZ hE) hC.1 (fun b hb=>hb.1) hlen (tB (by simp) (l4 gI vl) KF) hG (.inr ⟨hd,rfl⟩)
   ·cases hr
  ·cases hr
 ·cases hr
end
end Go.Proofs.YtjgbhhnghedgdaaGreatDoor
