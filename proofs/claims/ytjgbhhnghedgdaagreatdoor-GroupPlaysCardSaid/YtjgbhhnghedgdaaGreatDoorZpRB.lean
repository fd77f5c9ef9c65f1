import Derived.Test.YtjgbhhnghedgdaaGreatDoorZpRA
import Derived.Laws.StructEq
import Derived.ChangeKeysEq
set_option linter.all false
namespace Go.Proofs.YtjgbhhnghedgdaaGreatDoor
open Go.RowKit
def IU (P:Program) (eq:TypeId->List AV->List AV->Option Bool) (cs ds:List AV):List Field->Option Bool
 | []=>some true
 | f :: fs => match f.name == "_", ea P f.type, IU P eq cs ds fs with
  | false,some z,some b=>(match eq f.type ((cs.drop f.offset).take z) ((ds.drop f.offset).take z) with|some a=>some (a && b)|none=>none)
  | _,_,_=>none
def Nf (P:Program):Nat->TypeId->List AV->List AV->Option Bool
 | 0,_,_,_=>none
 | d+1,t,cs,ds=>match P.underlying t with
  | some .bool=>(match cs,ds with| [.val (.bool a)],[.val (.bool b)]=>some (a == b)|_,_=>none)
  | some (.int _)=>(match cs,ds with| [.val (.int k a)],[.val (.int k' b)]=>if k=k' then some (a == b) else none|_,_=>none)
  | some .string=>(match cs,ds with| [.val (.string a)],[.val (.string b)]=>some (a.toList == b.toList)|_,_=>none)
  | some (.struct fs)=>(match P.stoodInHeld t with|true=>none|false=>IU P (Nf P d) cs ds fs.toList)
  | _=>none
def lK (P:Program) (t:TypeId) (vs:List Value) (x:Value):Prop:=match cD P t with|true=>x= .agg vs.toArray|false=>vs= [x]
theorem lV {I:Info} {S:Nat->Prop} {w:World} {vs:List Value} {u:Value} (hl:vs.length=1) (hd:∀(j:Nat) v c,vs[j]?=some v-> [AV.val u][j]?=some c->Den I S w v c):vs= [u]:=by
 match vs,hl with
 | [v],_=>rw [bJ (hd 0 v _ rfl rfl)]
section
variable {P:Program} {I:Info} {S:Nat->Prop} {w:World}
theorem tS {t:TypeId} {z:Nat} {cs:List AV} {vs:List Value} {off:Nat} (hz:ea P t=some z) (hu:∃d,P.underlying t=some d) (hl:vs.length=cs.length) (hs:cD P t=false-> ∃x,(cs.drop off).take z= [x]) :
  ∃v,(part t vs.toArray off).run P w= .ok v w∧lK P t ((vs.drop off).take z) v:=by
 cases ha:cD P t with
 | true =>
  refine ⟨.agg (vs.toArray.extract off (off+z)),?_,?_⟩
  ·simp [part,ix hu,ha,run_sizeOf hz]
  ·unfold lK;rw [ha];simp [List.extract_eq_take_drop]
 | false =>
  obtain ⟨x,hx⟩:=hs ha
  have hlen:=congrArg List.length hx
  rw [List.length_take,List.length_drop] at hlen
  simp at hlen
  have dd:off<vs.length:=aj
  refine ⟨vs[off],?_,?_⟩
  ·simp [part,ix hu,ha,dd]
  ·unfold lK;rw [ha]
   show (vs.drop off).take z= [vs[off]]
   rw [List.drop_eq_getElem_cons dd]
   obtain ⟨z',rfl⟩:∃z',z=z'+1:=⟨z-1,aj⟩
   rw [List.take_succ_cons]
   congr 1
   apply List.eq_nil_of_length_eq_zero
   rw [List.length_take,List.length_drop];omega
theorem Es {eq:TypeId->List AV->List AV->Option Bool} {D:Nat} (heq:∀t cs ds b vs us x y,eq t cs ds=some b->vs.length=cs.length->us.length=ds.length->(∀(j:Nat) v c,vs[j]?=some v->cs[j]?=some c->Den I S w v c)->(∀(j:Nat) v c,us[j]?=some v->ds[j]?=some c->Den I S w v c)->lK P t vs x->lK P t us y->(Op.equalIn D t x y).run P w= .ok b w)
  (uv:∀t cs ds b,eq t cs ds=some b->(∃d,P.underlying t=some d)∧(cD P t=false->(∃x,cs= [x])∧ ∃x,ds= [x])) {cs ds:List AV} {vs us:List Value} (hl:vs.length=cs.length) (qY:us.length=ds.length) (hd:∀(j:Nat) v c,vs[j]?=some v->cs[j]?=some c->Den I S w v c) (Fo:∀(j:Nat) v c,us[j]?=some v->ds[j]?=some c->Den I S w v c) :
  ∀(fs:List Field) (b:Bool),IU P eq cs ds fs=some b->(Op.eqFields D vs.toArray us.toArray fs).run P w= .ok b w
 | [],b,h=>by simp [IU] at h;subst h;simp [Op.eqFields]
 | f::fs,b,h=>by
  rw [IU] at h
  split at h
  ·rename_i z b' hn hz kF
   split at h
   ·rename_i a ha
    injection h with h;subst h
    obtain ⟨hu,ho⟩:=uv _ _ _ _ ha
    obtain ⟨x,hx,px⟩:=tS (w:=w) (off:=f.offset) hz hu hl (fun h0=>(ho h0).1)
    obtain ⟨y,hy,py⟩:=tS (w:=w) (off:=f.offset) hz hu qY (fun h0=>(ho h0).2)
    have he:=heq _ _ _ _ _ _ x y ha (by rw [List.length_take,List.length_drop,List.length_take,List.length_drop,hl]) (by rw [List.length_take,List.length_drop,List.length_take,List.length_drop,qY]) (fun j v c hv hc=>hd (f.offset+j) v c (bS _ _ _ _ _ hv) (bS _ _ _ _ _ hc)) (fun j v c hv hc=>Fo (f.offset+j) v c (bS _ _ _ _ _ hv) (bS _ _ _ _ _ hc)) px py
    have sr : f.name ≠ "_" := by simpa using hn
    simp only [Op.eqFields,if_pos sr,Sem.run_bind,hx,hy,he,Result.andThen_ok]
    cases a with
    | false=>simp
    | true =>
     have:=Es heq uv hl qY hd Fo fs b' kF
     simpa using this
   ·cases h
  ·cases h
theorem K1:∀(d:Nat) (t:TypeId) (cs ds:List AV) (b:Bool),Nf P d t cs ds=some b->(∃d,P.underlying t=some d)∧(cD P t=false->(∃x,cs= [x])∧ ∃x,ds= [x]):=by
 intro d t cs ds b h
 cases d with
 | zero=>cases h
 | succ d =>
  unfold Nf at h
  split at h
  ·rename_i hu;refine ⟨⟨_,hu⟩,fun _=>?_⟩
   split at h
   ·exact ⟨⟨_,rfl⟩,_,rfl⟩
   ·cases h
  ·rename_i hu;refine ⟨⟨_,hu⟩,fun _=>?_⟩
   split at h
   ·exact ⟨⟨_,rfl⟩,_,rfl⟩
   ·cases h
  ·rename_i hu;refine ⟨⟨_,hu⟩,fun _=>?_⟩
   split at h
   ·exact ⟨⟨_,rfl⟩,_,rfl⟩
   ·cases h
  ·rename_i hu;refine ⟨⟨_,hu⟩,fun ha=>?_⟩
   unfold cD at ha;rw [hu] at ha;cases ha
  ·cases h
theorem Nd (D:Nat):∀(d:Nat) (t:TypeId) (cs ds:List AV) (b:Bool) (vs us:List Value) (x y:Value),Nf P d t cs ds=some b->vs.length=cs.length->us.length=ds.length->(∀(j:Nat) v c,vs[j]?=some v->cs[j]?=some c->Den I S w v c)->(∀(j:Nat) v c,us[j]?=some v->ds[j]?=some c->Den I S w v c)->lK P t vs x->lK P t us y->(Op.equalIn (D+d) t x y).run P w= .ok b w:=by
 intro d
 induction d with
 | zero=>intro t cs ds b vs us x y h;cases h
 | succ d ih =>
  intro t cs ds b vs us x y h hl qY hd Fo px py
  unfold Nf at h
  split at h
  ·rename_i hu
   have ha:cD P t=false:=by unfold cD;rw [hu]
   unfold lK at px py;rw [ha] at px py
   split at h
   ·have h1:=lV hl hd
    have h2:=lV qY Fo
    rw [h1] at px;rw [h2] at py
    injection px with px;injection py with py
    injection h with h
    subst px py h
    exact run_equalIn_bool' w (D+d) t _ _ hu
   ·cases h
  ·rename_i hu
   have ha:cD P t=false:=by unfold cD;rw [hu]
   unfold lK at px py;rw [ha] at px py
   split at h
   ·have h1:=lV hl hd
    have h2:=lV qY Fo
    rw [h1] at px;rw [h2] at py
    injection px with px;injection py with py
    split at h
    ·rename_i hk
     injection h with h
     subst px py h hk
     exact run_equalIn_int w (D+d) t _ _ _ _ hu
    ·cases h
   ·cases h
  ·rename_i hu
   have ha:cD P t=false:=by unfold cD;rw [hu]
   unfold lK at px py;rw [ha] at px py
   split at h
   ·have h1:=lV hl hd
    have h2:=lV qY Fo
    rw [h1] at px;rw [h2] at py
    injection px with px;injection py with py
    injection h with h
    subst px py h
    exact run_equalIn_string w (D+d) t _ _ hu
   ·cases h
  ·rename_i fs hu
   have ha:cD P t=true:=by unfold cD;rw [hu]
   unfold lK at px py;rw [ha] at px py
   split at h
   ·cases h
   ·rename_i hp
    have hf:P.fieldsOf t=fs:=by simp [Program.fieldsOf,hu]
    simp only at px py
    subst px py
    rw [show D+(d+1)=(D+d)+1 from rfl,run_equalIn_struct w (D+d) t _ _ (by rw [hf];exact hu) hp,hf]
    exact Es (fun t cs ds b vs us x y h1 h2 h3 h4 h5 h6 h7=>ih t cs ds b vs us x y h1 h2 h3 h4 h5 h6 h7) (K1 d) hl qY hd Fo fs.toList b h
  ·cases h
end
def ya (P:Program) (op:BinOp) (t:TypeId) (cs ds:List AV):Option (AV×List Prop) :=
 match op,P.eqGuardType P.depth t,cD P t,Nf P 12 t cs ds with
 | .eql,false,true,some b=>some (.val (.bool b),[])
 | .neq,false,true,some b=>some (.val (.bool (!b)),[])
 | _,_,_,_=>none
section
variable {P:Program} {s:AS} {o:Oper} {h:Hint} {r:AV×List Prop}
theorem CH {op:BinOp} {t t':TypeId} {x y:Operand} {cs ds:List AV} (ho:o.op= .binOp op t x y t') (hx:bp s x= .agg cs) (hy:bp s y= .agg ds) (hr:ya P op t cs ds=some r):c_ P s o r.1 r.2:=by
 intro _ S0 w0 n O a w φ hs
 have dx:=hs.bp x
 have dy:=hs.bp y
 rw [hx] at dx;rw [hy] at dy
 obtain ⟨vs,ex,hl,hd⟩:=ka dx
 obtain ⟨us,ey,qY,Fo⟩:=ka dy
 have main:∀b,P.eqGuardType P.depth t=false->cD P t=true->Nf P 12 t cs ds=some b->(∀op,(eqGuard op t x y (a.eval x) (a.eval y)).run P w= .ok () w)∧(Op.equalIn 10000 t (.agg vs.toArray) (.agg us.toArray)).run P w= .ok b w:=by
  intro b hg ha he
  refine ⟨fun op=>by rw [ex,ey];exact run_eqGuard_agg w op t x y _ _ hg,?_⟩
  exact Nd 9988 12 t cs ds b vs us _ _ he hl qY hd Fo (by unfold lK;rw [ha]) (by unfold lK;rw [ha])
 unfold ya at hr
 split at hr
 ·rename_i hg ha he
  injection hr with hr;subst hr
  obtain ⟨h1,h2⟩:=main _ hg ha he
  refine ⟨.bool _,?_,.rep (.val _)⟩
  unfold execOp;simp only [ho,Sem.run_bind,h1,Result.andThen_ok]
  rw [ex,ey,run_eql_struct,h2];rfl
 ·rename_i hg ha he
  injection hr with hr;subst hr
  obtain ⟨h1,h2⟩:=main _ hg ha he
  refine ⟨.bool _,?_,.rep (.val _)⟩
  unfold execOp;simp only [ho,Sem.run_bind,h1,Result.andThen_ok]
  rw [ex,ey,run_neq_struct,h2];rfl
 ·cases hr
end
def Jv (k:IntKind) (n:Nat) (cs ds:List AV) (b:Bool):Prop:=∃l m:List Int,cs=l.map (fun x=>.val (.int k x))∧ds=m.map (fun x=>.val (.int k x))∧l.length=n∧m.length=n∧b=(l == m)
def x_ (P:Program) (op:BinOp) (t:TypeId) (cs ds:List AV) (h:Hint):Option (AV×List Prop) :=
 match P.underlying t,P.eqGuardType P.depth t,h.av with
 | some (.array n e),false,some (.val (.bool b))=>(match P.underlying e,ea P e,op with
  | some (.int k),some 1,.eql=>some (.val (.bool b),[Jv k n cs ds b])
  | some (.int k),some 1,.neq=>some (.val (.bool b),[Jv k n cs ds (!b)])
  | _,_,_=>none)
 | _,_,_=>none
section
variable {P:Program} {w:World}
theorem qb (d:Nat) {e:TypeId} {k k':IntKind} (he:P.underlying e=some (.int k')) {n:Nat} {l m:List Int} (hl:l.length=n) (hm:m.length=n):∀(is:List Nat),(∀i∈is,i<n) ->
  (Op.eqItems (d+1) e 1 (l.map (Value.int k)).toArray (m.map (Value.int k)).toArray is).run P w= .ok (is.all fun i=>l.getD i 0 == m.getD i 0) w
 | [],_=>by simp [Op.eqItems]
 | i::is,hi=>by
  have h1:i<n:=hi i (by simp)
  have ha:cD P e=false:=by unfold cD;rw [he]
  have p1:(part e (l.map (Value.int k)).toArray (i*1)).run P w= .ok (.int k (l.getD i 0)) w:=by
   simp [part,ix ⟨_,he⟩,ha,hl,h1]
  have p2:(part e (m.map (Value.int k)).toArray (i*1)).run P w= .ok (.int k (m.getD i 0)) w:=by
   simp [part,ix ⟨_,he⟩,ha,hm,h1]
  simp only [Op.eqItems,Sem.run_bind,p1,p2,run_equalIn_int w d e k k' _ _ he,Result.andThen_ok,List.all_cons]
  have ih:=qb d (k:=k) he hl hm is (fun j hj=>hi j (by simp [hj]))
  cases hb:l.getD i 0 == m.getD i 0 with
  | false=>simp
  | true=>simpa using ih
theorem Bn {l m:List Int} {n:Nat} (hl:l.length=n) (hm:m.length=n):((List.range n).all fun i=>l.getD i 0 == m.getD i 0)=(l == m):=by
 rw [Bool.eq_iff_iff,List.all_eq_true,beq_iff_eq]
 constructor
 ·intro h
  apply List.ext_getElem aj
  intro i h1 h2
  have:=h i (List.mem_range.2 aj)
  simpa [h1,h2] using this
 ·rintro rfl i _;simp
theorem zy {S:Nat->Prop} {k:IntKind} {l:List Int} {vs:List Value} (hl:vs.length=(l.map (fun x=>AV.val (.int k x))).length) (hd:∀(j:Nat) v c,vs[j]?=some v->(l.map (fun x=>AV.val (.int k x)))[j]?=some c->cA S w v c):vs=l.map (Value.int k):=by
 apply List.ext_getElem (by simpa using hl)
 intro i h1 h2
 have h3:i<l.length:=by simpa using h2
 have:=hd i vs[i] (.val (.int k l[i])) (List.getElem?_eq_getElem h1) (by simp [h3])
 generalize vs[i]=q at this
 cases this
 simp
end
section
variable {P:Program} {s:AS} {o:Oper} {h:Hint} {r:AV×List Prop}
theorem CG {op:BinOp} {t t':TypeId} {x y:Operand} {cs ds:List AV} (ho:o.op= .binOp op t x y t') (hx:bp s x= .arr cs) (hy:bp s y= .arr ds) (hr:x_ P op t cs ds h=some r):c_ P s o r.1 r.2:=by
 intro hC S0 w0 n O a w φ hs
 have dx:=hs.bp x
 have dy:=hs.bp y
 rw [hx] at dx;rw [hy] at dy
 obtain ⟨vs,ex,hl,hd⟩:=qh dx
 obtain ⟨us,ey,qY,Fo⟩:=qh dy
 have main:∀k N e b,P.underlying t=some (.array N e)->P.underlying e=some (.int k)->ea P e=some 1->P.eqGuardType P.depth t=false->Jv k N cs ds b->(∀op,(eqGuard op t x y (a.eval x) (a.eval y)).run P w= .ok () w)∧(Op.equalIn 10000 t (.agg vs.toArray) (.agg us.toArray)).run P w= .ok b w:=by
  intro k N e b hu he hz hg ⟨l,m,e1,e2,h1,h2,h3⟩
  refine ⟨fun op=>by rw [ex,ey];exact run_eqGuard_agg w op t x y _ _ hg,?_⟩
  subst e1 e2
  rw [zy hl hd,zy qY Fo]
  obtain ⟨i,hi,Qu⟩:∃i,P.info? e=some i∧i.size=1:=by
   unfold ea at hz
   cases hp:P.info? e with
   | none=>rw [hp] at hz;cases hz
   | some i=>rw [hp] at hz;exact ⟨i,rfl,by simpa using hz⟩
  rw [show 10000=9999+1 from rfl,run_equalIn_array w 9999 _ _ hu hi]
  have hc:P.cellsOf e=1:=by unfold Program.cellsOf;rw [hi];exact Qu
  rw [hc,show 9999=9998+1 from rfl,qb 9998 he h1 h2 _ (fun i hi=>List.mem_range.1 hi),Bn h1 h2,h3]
 unfold x_ at hr
 split at hr
 ·rename_i N e b hu hg _
  split at hr
  ·rename_i k he hz
   injection hr with hr;subst hr
   obtain ⟨h1,h2⟩:=main k N e _ hu he hz hg hC.1
   refine ⟨.bool _,?_,.rep (.val _)⟩
   unfold execOp;simp only [ho,Sem.run_bind,h1,Result.andThen_ok]
   rw [ex,ey,run_eql_struct,h2];rfl
  ·rename_i k he hz
   injection hr with hr;subst hr
   obtain ⟨h1,h2⟩:=main k N e _ hu he hz hg hC.1
   refine ⟨.bool _,?_,.rep (.val _)⟩
   unfold execOp;simp only [ho,Sem.run_bind,h1,Result.andThen_ok]
   rw [ex,ey,run_neq_struct,h2];simp
  ·cases hr
 ·cases hr
def yl (P:Program) (s:AS) (t:TypeId) (x:AV):Option (AV×List Prop) :=
 match P.underlying t,x with
 | some (.array (n+1) _),.sl (z+1) row=>some (.ptr row 0,[cS (n+1) (z+1)≤row.length])
 | some (.array (n+1) _),.ref id=>(match look s.H id with
  | some ⟨z+1,_,_,cells⟩=>some (.addr id 0,[cS (n+1) (z+1)≤cells.length])
  | _=>none)
 | _,_=>none
theorem rI {P:Program} {w:World} {t:TypeId} {n:Nat} {e:TypeId} (hu:P.underlying t=some (.array n e)) (A:Option Addr) (l c:Nat) (h:n≤l):(Instr.arrayAt t (.slice A l c)).run P w= .ok (.pointer A) w:=by
 have:¬l<n:=aj
 simp [Instr.arrayAt,run_underlying hu,this]
theorem CS {t:TypeId} {x:Operand} (ho:o.op= .sliceToArrayPointer t x) (hr:yl P s t (bp s x)=some r):c_ P s o r.1 r.2:=by
 intro hC S0 w0 n O a w φ hs
 have dx:=hs.bp x
 unfold yl at hr
 split at hr
 ·rename_i N e z row hu hx
  injection hr with hr;subst hr
  rw [hx] at dx
  have b7:=pa dx
  generalize hv:a.eval x=v at b7
  cases b7 with
  | sl A l c e' us ET hlen hn hc hm ha il =>
   have iH:=hC.1
   rw [bw] at iH
   rw [hn,Nat.mul_comm (z+1)] at iH
   have R9:N+1≤l:=Nat.le_of_mul_le_mul_right iH aj
   obtain ⟨ad,rfl,hS,bu⟩:=ha (by rw [hn];exact Nat.mul_pos aj aj)
   refine ⟨.pointer (some ad),?_,?_⟩
   ·unfold execOp;simp only [ho,hv,Sem.run_bind,rI hu (some ad) l c R9,Result.andThen_ok];rfl
   ·have:=cA.ptr (S:=aM S0 w φ O) (w:=w) ad us row 0 hlen hS bu il
    rw [du] at this
    exact .rep this
 ·rename_i N e id hu hx
  rw [hx] at dx
  split at hr
  ·rename_i z p f cells lu
   injection hr with hr;subst hr
   have iH:=hC.1
   rw [bw] at iH
   generalize hv:a.eval x=v at dx
   cases dx with
   | rep b7=>cases b7
   | ref _ e' m g l c hi hm hc Jz bZ =>
    have ns:=bq (φ:=φ) lu
    rw [hi] at ns
    simp at ns
    obtain ⟨h1,h2,h3⟩:=ns
    subst h1 h2
    rw [hm,Nat.mul_comm (z+1)] at iH
    have R9:N+1≤l:=Nat.le_of_mul_le_mul_right iH aj
    refine ⟨.pointer (some ⟨g,0,none⟩),?_,.addr id 0 _ _ g hi⟩
    unfold execOp;simp only [ho,hv,Sem.run_bind,rI hu _ l c R9,Result.andThen_ok];rfl
   | cC _ e' hi =>
    have ns:=bq (φ:=φ) lu
    rw [hi] at ns
    simp at ns
    rw [←ns.2.1] at iH
    simp at iH
  ·cases hr
 ·cases hr
end
def la:AV->Option (List AV)
 | .val u=>(match u.oneCell' with|true=>some [.val u]|false=>none)
 | .agg cs=>some cs
 | .arr cs=>some cs
 | .br _=>none
 | .dead=>none
 | .own _ _=>none
 | .box _=>none
 | x=>some [x]
theorem E5 {v:Value} (h:v.oneCell'=true):v.cells= [v].toArray:=by
 cases v<;>first|rfl|cases h
theorem lW {I:Info} {S:Nat->Prop} {w:World} {v:Value} {x:AV} {l:List AV} (hd:Den I S w v x) (hl:la x=some l) :
  ∃vs:List Value,v.cells=vs.toArray∧vs.length=l.length∧ ∀(j:Nat) u c,vs[j]?=some u->l[j]?=some c->Den I S w u c:=by
 have single:∀y,Den I S w v y->v.oneCell'=true->l= [y]-> ∃vs:List Value,v.cells=vs.toArray∧vs.length=l.length∧ ∀(j:Nat) u c,vs[j]?=some u->l[j]?=some c->Den I S w u c:=by
  intro y hy ho hl
  subst hl
  refine ⟨[v],E5 ho,rfl,fun j u c hu hc=>?_⟩
  cases j with
  | zero=>simp at hu hc;subst hu;subst hc;exact hy
  | succ j=>simp at hu
 have wC:=hd
 cases hd with
 | rep h=>cases h with
  | val v =>
   unfold la at hl
   simp only at hl
   split at hl
   ·rename_i ho;injection hl with hl;exact single _ wC ho hl.symm
   ·cases hl
  | nil=>injection hl with hl;exact single _ wC rfl hl.symm
  | agg vs cs hlen h=>injection hl with hl;subst hl;exact ⟨vs,rfl,hlen,fun j u c hu hc=>.rep (h j u c hu hc)⟩
  | br vs cs hlen h=>cases hl
  | arr vs cs hlen h=>injection hl with hl;subst hl;exact ⟨vs,rfl,hlen,fun j u c hu hc=>.rep (h j u c hu hc)⟩
  | sl=>injection hl with hl;exact single _ wC rfl hl.symm
  | pt=>injection hl with hl;exact single _ wC rfl hl.symm
  | ptr=>injection hl with hl;exact single _ wC rfl hl.symm
  | lB=>injection hl with hl;exact single _ wC rfl hl.symm
 | agg vs cs hlen h=>injection hl with hl;subst hl;exact ⟨vs,rfl,hlen,h⟩
 | br=>cases hl
 | dead=>cases hl
 | ref=>injection hl with hl;exact single _ wC rfl hl.symm
 | cC=>injection hl with hl;exact single _ wC rfl hl.symm
 | pre=>injection hl with hl;exact single _ wC rfl hl.symm
 | dw=>injection hl with hl;exact single _ wC rfl hl.symm
 | jl=>injection hl with hl;exact single _ wC rfl hl.symm
 | addr=>injection hl with hl;exact single _ wC rfl hl.symm
def A3 (place:Nat->Option (Nat×Nat)) (cells:List AV):List (Nat×AV)->Option (List AV)
 | []=>some cells
 | (i,x)::rest=>match place i,la x with
  | some (off,size),some l=>(match Nat.beq l.length size,Nat.ble (off+l.length) cells.length with
   | true,true=>A3 place (cells.take off++l++cells.drop (off+l.length)) rest
   | _,_=>none)
  | _,_=>none
theorem kj (off:Nat):∀(vs:List Value) (k:Nat) (cells:Array Value) (p:Nat),((vs.zipIdx k).foldl (fun cs (cj:Value×Nat)=>cs.setIfInBounds (off+cj.2) cj.1) cells)[p]?=if off+k≤p∧p<off+k+vs.length∧p<cells.size then vs[p-(off+k)]? else cells[p]?
 | [],k,cells,p=>by simp;omega
 | v::vs,k,cells,p=>by
  simp only [List.zipIdx_cons,List.foldl_cons]
  rw [kj off vs (k+1)]
  simp only [Array.size_setIfInBounds,List.length_cons]
  by_cases h1:off+(k+1)≤p∧p<off+(k+1)+vs.length∧p<cells.size
  ·rw [if_pos h1,if_pos aj]
   rw [show p-(off+k)=(p-(off+(k+1)))+1 by omega,List.getElem?_cons_succ]
  ·rw [if_neg h1]
   by_cases h2:off+k=p
   ·subst h2
    by_cases h3:off+k<cells.size
    ·rw [Array.getElem?_setIfInBounds_self_of_lt h3,if_pos aj];simp
    ·rw [if_neg aj,Array.getElem?_eq_none (by simp;omega),Array.getElem?_eq_none aj]
   ·rw [Array.getElem?_setIfInBounds_ne h2,if_neg aj]
theorem jf (off:Nat):∀(vs:List (Value×Nat)) (cells:Array Value),(vs.foldl (fun cs (cj:Value×Nat)=>cs.setIfInBounds (off+cj.2) cj.1) cells).size=cells.size
 | [],_=>rfl
 | v::vs,cells=>by rw [List.foldl_cons,jf off vs];simp
theorem xU {I:Info} {S:Nat->Prop} {w:World} (place:Nat->Option (Nat×Nat)):∀(parts:List (Nat×AV)) (l5:List (Nat×Value)) (cells out:List AV) (cs:Array Value),A3 place cells parts=some out->l5.map (·.1)=parts.map (·.1) ->
  (∀(j:Nat) v x,l5[j]?=some v->parts[j]?=some x->Den I S w v.2 x.2)->cs.size=cells.length->(∀(j:Nat) u c,cs[j]?=some u->cells[j]?=some c->Den I S w u c) ->
  ∃us:List Value,Instr.fill place cs l5=some us.toArray∧us.length=out.length∧ ∀(j:Nat) u c,us[j]?=some u->out[j]?=some c->Den I S w u c
 | [],l5,cells,out,cs,hf,hm,hp,hs,hd=>by
  have:l5= []:=by simpa using hm
  subst this
  injection hf with hf;subst hf
  exact ⟨cs.toList,by simp [Instr.fill],by simpa using hs,fun j u c hu hc=>hd j u c (by simpa using hu) hc⟩
 | (i,x)::parts,l5,cells,out,cs,hf,hm,hp,hs,hd=>by
  cases l5 with
  | nil=>simp at hm
  | cons p l5 =>
   obtain ⟨i',v⟩:=p
   simp only [List.map_cons,List.cons.injEq] at hm
   obtain ⟨hi,hm⟩:=hm
   subst hi
   have hv:=hp 0 (i',v) (i',x) rfl rfl
   simp only [A3] at hf
   split at hf
   ·rename_i off size l oG hl
    split at hf
    ·rename_i JE q7
     have h1:=Nat.eq_of_beq_eq_true JE
     have h2:off+l.length≤cells.length:=Nat.le_of_ble_eq_true q7
     obtain ⟨vs,D6,hlen,dM⟩:=lW hv hl
     have hz:v.cells.zipIdx.foldl (fun cs (cj:Value×Nat)=>cs.setIfInBounds (off+cj.2) cj.1) cs=(vs.zipIdx).foldl (fun cs (cj:Value×Nat)=>cs.setIfInBounds (off+cj.2) cj.1) cs:=by
      rw [D6];simp
     have ih:=xU (I:=I) (S:=S) (w:=w) place parts l5 (cells.take off++l++cells.drop (off+l.length)) out ((vs.zipIdx).foldl (fun cs (cj:Value×Nat)=>cs.setIfInBounds (off+cj.2) cj.1) cs) hf hm (fun j v x hv hx=>hp (j+1) v x (by simpa using hv) (by simpa using hx)) (by
       rw [jf,hs];simp only [List.length_append,List.length_take,List.length_drop];omega) (fun j u c hu hc=>by
       rw [kj off vs 0 cs j] at hu
       simp only [Nat.add_zero] at hu
       split at hu
       ·rename_i hj
        rw [List.getElem?_append_left (by simp only [List.length_append,List.length_take];omega),List.getElem?_append_right (by simp only [List.length_take];omega)] at hc
        refine dM _ u c hu ?_
        rw [←hc];congr 1;simp only [List.length_take];omega
       ·rename_i hj
        have VR:j<cs.size:=by
         rcases Nat.lt_or_ge j cs.size with h|h
         ·exact h
         ·rw [Array.getElem?_eq_none h] at hu;cases hu
        refine hd j u c hu ?_
        by_cases Uv:j<off
        ·rw [List.getElem?_append_left (by simp only [List.length_append,List.length_take];omega),List.getElem?_append_left (by simp only [List.length_take];omega),List.getElem?_take,if_pos Uv] at hc
         exact hc
        ·rw [List.getElem?_append_right (by simp only [List.length_append,List.length_take];omega),List.getElem?_drop] at hc
         rw [←hc];congr 1;simp only [List.length_append,List.length_take];omega)
     obtain ⟨us,Ff,r⟩:=ih
     refine ⟨us,?_,r⟩
     have OV:v.cells.size=l.length:=by rw [D6];simpa using hlen
     unfold Instr.fill
     rw [oG]
     simp only
     rw [if_neg (by rw [OV,←h1,hs];simp;omega),hz]
     exact Ff
    ·cases hf
   ·cases hf
def sI (P:Program):List Field->Option (List (Nat×Nat))
 | []=>some []
 | f::l=>match ea P f.type,sI P l with|some z,some m=>some ((f.offset,z)::m)|_,_=>none
theorem run_places {P:Program} {w:World}:∀(l:List Field) (m:List (Nat×Nat)),sI P l=some m->(l.mapM fun f=>(do pure (f.offset,←sizeOf f.type):Sem (Nat×Nat))).run P w= .ok m w
 | [],m,h=>by cases h;rfl
 | f::l,m,h=>by
  simp only [sI] at h
  split at h
  ·rename_i z q hz hq
   cases h
   have:=run_places (w:=w) l q hq
   have Ar:(sizeOf f.type).run P w= .ok z w:=run_sizeOf hz
   simp only [List.mapM_cons,Sem.run_bind,Ar,Result.andThen_ok,Sem.run_pure,this]
  ·cases h
def partsOf (s:AS):List (Nat×Operand)->List (Nat×AV)
 | []=>[]
 | (i,x)::l=>(i,bp s x)::partsOf s l
def yk (P:Program) (s:AS) (t:TypeId) (parts:List (Nat×Operand)):Option (AV×List Prop) :=
 match (P.info? t).bind (·.zero),P.underlying t with
 | some z,some (.struct fields)=>(match sI P fields.toList with
  | some places=>(match A3 (fun i=>places[i]?) (z.cells.toList.map bB) (partsOf s parts) with|some l=>some (.agg l,[])|none=>none)
  | none=>none)
 | some z,some (.array _ el)=>(match ea P el with
  | some k=>(match A3 (fun i=>some (i*k,k)) (z.cells.toList.map bB) (partsOf s parts) with|some l=>some (.agg l,[])|none=>none)
  | none=>none)
 | _,_=>none
section
variable {P:Program} {s:AS} {o:Oper} {h:Hint} {r:AV×List Prop}
theorem rR (parts:List (Nat×Operand)) (f:Operand->Value):(parts.map fun p=>(p.1,f p.2)).map (·.1)=(partsOf s parts).map (·.1):=by
 induction parts with
 | nil=>rfl
 | cons p l ih=>obtain ⟨i,x⟩:=p;simp only [List.map_cons,partsOf,ih]
theorem nh {S0:bm} {w0 w:World} {n:Nat} {O:List Nat} {a:Act} {φ:Nat->Option Nat} (hs:aG S0 w0 n O s a w φ):∀(parts:List (Nat×Operand)) (j:Nat) (v:Nat×Value) (x:Nat×AV),(parts.map fun p=>(p.1,a.eval p.2))[j]?=some v->(partsOf s parts)[j]?=some x->Den (az s.H φ) (aM S0 w φ O) w v.2 x.2
 | [],j,v,x,hv,hx=>by simp at hv
 | (i,y)::l,j,v,x,hv,hx=>by
  cases j with
  | zero=>simp [partsOf] at hv hx;subst hv;subst hx;exact hs.bp y
  | succ j=>exact nh hs l j v x (by simpa using hv) (by simpa [partsOf] using hx)
theorem iM {w:World} {t:TypeId} {z:Value} (h:(P.info? t).bind (·.zero)=some z):(zeroValue t).run P w= .ok z w:=by
 cases hi:P.info? t with
 | none=>rw [hi] at h;cases h
 | some i=>rw [hi] at h;simp at h;simp [zeroValue,typeInfo,hi,h]
theorem ta {I:Info} {S:Nat->Prop} {w:World} (z:Value) (j:Nat) (u:Value) (c:AV) (hu:z.cells[j]?=some u) (hc:(z.cells.toList.map bB)[j]?=some c):Den I S w u c:=by
 rw [List.getElem?_map] at hc
 have:z.cells.toList[j]?=some u:=by simpa using hu
 rw [this] at hc
 injection hc with hc;subst hc
 exact .rep (fP u)
theorem CR {t:TypeId} {parts:Array (Nat×Operand)} (ho:o.op= .build t parts) (hr:yk P s t parts.toList=some r):c_ P s o r.1 r.2:=by
 intro hC S0 w0 n O a w φ hs
 unfold yk at hr
 have oG:(parts.map fun p=>(p.1,a.eval p.2)).toList=parts.toList.map fun p=>(p.1,a.eval p.2):=by simp
 split at hr
 ·rename_i z fields hz hu
  split at hr
  ·rename_i places hp
   split at hr
   ·rename_i l hl
    injection hr with hr;subst hr
    obtain ⟨us,Ff,hlen,dM⟩:=xU (I:=az s.H φ) (S:=aM S0 w φ O) (w:=w) (fun i=>places[i]?) (partsOf s parts.toList) (parts.toList.map fun p=>(p.1,a.eval p.2)) _ l z.cells hl (rR _ _) (nh hs parts.toList) (by simp) (ta z)
    refine ⟨.agg us.toArray,?_,.agg us l hlen dM⟩
    have hm:(fields.mapM fun f=>(do pure (f.offset,←sizeOf f.type):Sem (Nat×Nat))).run P w= .ok places.toArray w:=by
     rw [Array.mapM_eq_mapM_toList,Sem.run_map,run_places _ _ hp];rfl
    have Pw:Instr.fill (fun i=>places.toArray[i]?) z.cells (parts.map fun p=>(p.1,a.eval p.2)).toList=some us.toArray:=by
     rw [oG,←Ff];congr 1;funext i;simp
    unfold execOp
    simp only [ho,Instr.build,Sem.run_bind,iM hz,Result.andThen_ok,run_underlying hu]
    rw [hm]
    simp only [Result.andThen_ok]
    rw [Pw]
    rfl
   ·cases hr
  ·cases hr
 ·rename_i z n' el hz hu
  split at hr
  ·rename_i k hk
   split at hr
   ·rename_i l hl
    injection hr with hr;subst hr
    obtain ⟨us,Ff,hlen,dM⟩:=xU (I:=az s.H φ) (S:=aM S0 w φ O) (w:=w) (fun i=>some (i*k,k)) (partsOf s parts.toList) (parts.toList.map fun p=>(p.1,a.eval p.2)) _ l z.cells hl (rR _ _) (nh hs parts.toList) (by simp) (ta z)
    refine ⟨.agg us.toArray,?_,.agg us l hlen dM⟩
    have oq:(sizeOf el).run P w= .ok k w:=run_sizeOf hk
    unfold execOp
    simp only [ho,Instr.build,Sem.run_bind,iM hz,Result.andThen_ok,run_underlying hu,oq]
    rw [oG,Ff]
    rfl
   ·cases hr
  ·cases hr
 ·cases hr
def p_ (P:Program) (s:AS) (o:Oper) (h:Hint):Option (AV×List Prop) :=
 match o.op with
 | .move x=>some (fin h (bp s x,[]))
 | .assign x=>some (fin h (bp s x,[]))
 | .binOp op t x y _=>(match bp s x,bp s y with
  | .val u,.val v=>(match IP P op t x y u v with|some r=>some (fin h r)|none=>none)
  | .agg cs,.agg ds=>(match ya P op t cs ds with|some r=>some (fin h r)|none=>none)
  | .arr cs,.arr ds=>x_ P op t cs ds h
  | _,_=>none)
 | .unOp op _ x=>(match bp s x with| .val u=>(match Na P op u with|some r=>some (fin h r)|none=>none)|_=>none)
 | .convert src dst x=>CO P s src dst (bp s x) h
 | .load t x=>CB P s t (bp s x) h
 | .fieldAddr t x f=>nB P t (bp s x) f
 | .indexAddr t x i=>(match bp s i with| .val (.int _ n)=>IH P s t (bp s x) n h|_=>none)
 | .index t x i=>(match bp s i with| .val (.int _ n)=>x6 P t (bp s x) n h|_=>none)
 | .slice t x lo hi mx=>(match u6 s lo hi mx with|some c=>xY P s t (bp s x) c h|none=>none)
 | .field t x f=>x8 P t (bp s x) f h
 | .extract x i=>rk (bp s x) i
 | .nilCheck x=>ID (bp s x)
 | .pick c x y=>(match Cy s c x y h with|some r=>some (fin h r)|none=>none)
 | .build t parts=>yk P s t parts.toList
 | .sliceToArrayPointer t x=>yl P s t (bp s x)
 | .call ⟨.builtin .len,⟨[x]⟩,ts⟩=>IF P s ts o.type (bp s x) h
 | .call ⟨.builtin b,xs,ts⟩=>(match tq s xs.toList with|some us=>(match Nc P b ts o.type us with|some r=>some (fin h r)|none=>none)|none=>none)
 | _=>none
theorem kK (hr:p_ P s o h=some r):c_ P s o r.1 r.2:=by
 unfold p_ at hr
 split at hr
 ·rename_i x ho
  injection hr with hr;subst hr
  refine gw fun _ S0 w0 n O a w φ hs=>⟨a.eval x,?_,hs.bp x⟩
  unfold execOp;simp only [ho];rfl
 ·rename_i x ho
  injection hr with hr;subst hr
  refine gw fun _ S0 w0 n O a w φ hs=>⟨a.eval x,?_,hs.bp x⟩
  unfold execOp;simp only [ho];rfl
 ·rename_i op t x y t' ho
  split at hr
  ·rename_i u v hu hv
   split at hr
   ·rename_i q hq
    injection hr with hr;subst hr
    exact gw (IM ho hu hv hq)
   ·cases hr
  ·rename_i cs ds hu hv
   split at hr
   ·rename_i q hq
    injection hr with hr;subst hr
    exact gw (CH ho hu hv hq)
   ·cases hr
  ·rename_i cs ds hu hv
   exact CG ho hu hv hr
  ·cases hr
 ·rename_i op t x ho
  split at hr
  ·rename_i u hu
   split at hr
   ·rename_i q hq
    injection hr with hr;subst hr
    exact gw (KZ ho hu hq)
   ·cases hr
  ·cases hr
 ·rename_i ho;exact FH ho hr
 ·rename_i ho;exact FC ho hr
 ·rename_i ho;exact uU ho hr
 ·rename_i ho
  split at hr
  ·rename_i hi;exact IG ho hi hr
  ·cases hr
 ·rename_i ho
  split at hr
  ·rename_i hi;exact CD ho hi hr
  ·cases hr
 ·rename_i ho
  split at hr
  ·rename_i hc;exact Cx ho hc hr
  ·cases hr
 ·rename_i ho;exact CF ho hr
 ·rename_i ho;exact x9 ho hr
 ·rename_i ho;exact IC ho hr
 ·rename_i ho
  split at hr
  ·rename_i q hq
   injection hr with hr;subst hr
   exact gw (Fz ho hq)
  ·cases hr
 ·rename_i ho;exact CR ho hr
 ·rename_i ho;exact CS ho hr
 ·rename_i ho;exact IE ho hr
 ·rename_i b xs ts _ ho
  split at hr
  ·rename_i us hu
   split at hr
   ·rename_i q hq
    injection hr with hr;subst hr
    exact gw (K0 ho hu hq)
   ·cases hr
  ·cases hr
 ·cases hr
end
def lZ (P:Program) (n:Nat) (s:AS) (o:Oper) (s':AS) (C:List Prop):Prop :=
 bx C-> ∀S0 w0 a w Q,iv S0 w0 n s a w->o.wp P a w (fun a' w'=>iv S0 w0 n s' a' w') Q
def gg (n:Nat) (s:AS) (d:Option Nat) (x:AV):Option AS :=
 match d with
 | none=>some s
 | some d=>(match Nat.blt d n,Nat.ble n 1000000000 with|true,true=>some (lg s d x)|_,_=>none)
theorem dO {S0:bm} {w0 w:World} {n:Nat} {O:List Nat} {s s':AS} {a:Act} {φ:Nat->Option Nat} {d:Option Nat} {v:Value} {x:AV} (h:aG S0 w0 n O s a w φ) (hx:Den (az s.H φ) (aM S0 w φ O) w v x) (hp:gg n s d x=some s'):aG S0 w0 n O s' (a.put d v) w φ:=by
 unfold gg at hp
 split at hp
 ·injection hp with hp;subst hp
  exact ⟨h.jL,h.jO,h.cV,h.cB,h.rows,h.only,h.inj,h.cU,h.apart,h.new⟩
 ·split at hp
  ·rename_i d _ _ hb _
   injection hp with hp;subst hp
   have hd:d<n:=by simpa [Nat.blt_eq] using hb
   exact h.put hd hx
  ·cases hp
theorem cR {P:Program} {o:Oper} {a:Act} {w w':World} {v:Value} {next:Act->World->Prop} {Q:Exit->Act->World->Prop} (ct:(execOp a.eval o).run P w= .ok (.value v) w') (hn:next (a.put o.dst v) w'):o.wp P a w next Q:=by
 unfold Oper.wp
 rw [ct]
 exact hn
theorem iQ {n:Nat} {s s':AS} {d:Nat} {x:AV} (hp:gg n s (some d) x=some s'):d<1000000000000:=by
 unfold gg at hp
 simp only at hp
 split at hp
 ·rename_i h1 h2
  have h1:d<n:=by simpa [Nat.blt_eq] using h1
  have h2:=Nat.le_of_ble_eq_true h2
  omega
 ·cases hp
theorem Ha {P:Program} {n:Nat} {s s':AS} {o:Oper} {x:AV} {C:List Prop} (h:c_ P s o x C) (hp:gg n s o.dst x=some s'):lZ P n s o s' C:=by
 intro hC S0 w0 a w Q ⟨φ,hs⟩
 obtain ⟨v,ct,dM⟩:=h hC S0 w0 n [] a w φ hs
 unfold Oper.wp
 rw [ct]
 exact ⟨φ,dO hs dM hp⟩
def named (h:Hint) (cells:List AV):List AV×List Prop:=match h.av with|some (.arr row)=>(row,[cells=row])|_=>(cells,[])
theorem gZ {h:Hint} {cells:List AV} {C:List Prop} (hC:bx ((named h cells).2++C)):(named h cells).1=cells∧bx C:=by
 unfold named at *
 split at hC
 ·exact ⟨hC.1.symm,hC.2⟩
 ·exact ⟨rfl,hC⟩
def install (s:AS) (id:Nat) (r:Row):AS:=⟨(cm id s).F,(id,r)::(cm id s).H⟩
section
variable {S0:bm} {w0 w w':World} {n:Nat} {s:AS} {a:Act} {φ:Nat->Option Nat}
theorem aG.l9 (h:aG S0 w0 n [] s a w φ) (id:Nat):aG S0 w0 n [] (cm id s) a w (erase φ id):=by
 cases cp:φ id with
 | none=>exact h.js id [] (by rw [cp])
 | some g=>exact (h.js id [g] (by rw [cp])).uK
theorem di (id:Nat):look (cm id s).H id=none:=by
 unfold cm;rw [cw,bH,if_pos rfl];rfl
theorem aG.fresh (h:aG S0 w0 n [] s a w φ) (id:Nat) (r:Row) (hid:id<1000000000000) (HW:w'.os=w.os) (ur:w'.tape=w.tape) (uu:w'.output=w.output) (dq:w.heap.size<w'.heap.size) (hb:∀b,b<w.heap.size->w'.heap[b]?=w.heap[b]?)
  {cur:Array Value} {te:TypeId} {fr:Nat×Nat} (hg:w'.heap[w.heap.size]?=some (.cells cur te fr)) (gH:∀j,j<cur.size-> ¬(fr.1≤j∧j<fr.2)) (hl:r.cells.length≤cur.size) (mI:r.full=true->cur.size=r.cells.length)
  (hc:∀(j:Nat) u x,cur[j]?=some u->r.cells[j]?=some x->(r.pure=true->cA (aM S0 w φ []) w u x)∧(r.pure=false-> ∃y,x=aR id y∧Den (az s.H φ) (aM S0 w φ []) w u y)) :
  aG S0 w0 n [] (install s id r) a w' (fD (erase φ id) id w.heap.size):=by
 have h1:=h.l9 id
 have h2:=h1.await w.heap.size (Nat.le_refl _)
 have h3:=h2.vP (w':=w') (fun g hg=>by simp at hg;rw [hg];exact .inl h.cV.size) HW ur uu (Nat.le_of_lt dq) (fun b JE _=>hb b JE)
 have TA:∀b,aM S0 w φ [] b->aM S0 w (erase φ id) [] b:=by
  intro b ⟨h1,h2,h3,h4⟩
  refine ⟨h1,h2,fun i hi=>?_,h4⟩
  unfold erase at hi
  split at hi
  ·cases hi
  ·exact h3 i hi
 have hF:∀b,aM S0 w (erase φ id) [] b->aM S0 w' (erase φ id) [w.heap.size] b∧w'.heap[b]?=w.heap[b]?:=by
  intro b ⟨h1,h2,h3⟩
  exact ⟨⟨aj,by simp;omega,h3⟩,hb b h1⟩
 refine h3.wQ ⟨.inl hid,.inl h.cV.size⟩ dq (by simp) (di id) ⟨cur,te,fr,hg,gH,hl,mI,fun j u x hu hx=>?_⟩
 obtain ⟨hp,hi⟩:=hc j u x hu hx
 unfold bh
 cases pY:r.pure with
 | true=>exact ((hp pY).mono fun b hb=>⟨TA b hb,rfl⟩).mono hF
 | false =>
  obtain ⟨y,rfl,hy⟩:=hi pY
  have hk:=(uj id (np id) TA).all hy
  exact hk.mono (fun _ _ h=>h) hF (fun i e m g hi=>by
   obtain ⟨q,-,-,-,hg⟩:=aO hi
   unfold aV;rw [hb g (h1.cU i g hg).2])
theorem fe (id:Nat) (r:Row) (g:Nat):az (install s id r).H (fD (erase φ id) id g) id=some (r.e,r.cells.length,some g):=by
 rw [bq (r:=r) (by unfold install;rw [aD,if_pos rfl])]
 unfold fD;rw [if_pos rfl]
end
def rv (P:Program) (t:TypeId):Nat:=match P.underlying t with|some (.array _ el)=>(match ea P el with|some k=>k|none=>1)|_=>1
theorem ij {α:Type} (f:Nat->α):(Array.range 0).map f= #[]:=Array.eq_empty_of_size_eq_zero (by simp)
def nW (P:Program) (n:Nat) (s:AS) (d t:Nat) (h:Hint):Option (AS×List Prop) :=
 match (P.info? t).bind (·.zero) with
 | some z=>(match h.av with
  | some (.arr row)=>(match gg n (install s d ⟨rv P t,true,true,row⟩) (some d) (.addr d 0) with|some s'=>some (s',[z.cells.toList.map bB=row])|none=>none)
  | _=>(match gg n (install s d ⟨rv P t,false,true,z.cells.toList.map bB⟩) (some d) (.addr d 0) with|some s'=>some (s',[])|none=>none))
 | none=>none
theorem dE (w:World) (o:Obj):({w with heap:=w.heap.push o}:World).heap[w.heap.size]?=some o:=by simp
theorem cJ (w:World) (o:Obj) (b:Nat) (h:b<w.heap.size):({w with heap:=w.heap.push o}:World).heap[b]?=w.heap[b]?:=by
 show (w.heap.push o)[b]?=_
 rw [Array.getElem?_push,if_neg aj]
section
variable {P:Program} {n:Nat} {s:AS} {o:Oper} {h:Hint} {q:AS×List Prop}
theorem B8 (id:Nat) (v:Value):aR id (bB v)=bB v:=by
 unfold bB
 split<;>rfl
theorem uW {t d:Nat} (ho:o.op= .alloc t) (hd:o.dst=some d) (hr:nW P n s d t h=some q):lZ P n s o q.1 q.2:=by
 intro hC S0 w0 a w Q ⟨φ,hs⟩
 unfold nW at hr
 split at hr
 ·rename_i z hz
  have ct:(execOp a.eval o).run P w= .ok (.value (.pointer (some ⟨w.heap.size,0,none⟩))) {w with heap:=w.heap.push (.cells z.cells t (0,0))}:=by
   unfold execOp
   simp [ho,Instr.alloc,iM hz,newVar,newRow]
  refine cR ct ?_
  rw [hd]
  split at hr
  ·rename_i row _
   split at hr
   ·rename_i s' bZ
    injection hr with hr;subst hr
    have e:=hC.1
    have h1:=hs.fresh (w':={w with heap:=w.heap.push (.cells z.cells t (0,0))}) d ⟨rv P t,true,true,row⟩ (iQ bZ) rfl rfl rfl (by simp) (cJ w _) (dE w _) (by simp) (by simp [←e]) (by simp [←e]) (fun j u x hu hx=>⟨fun _=>by
     simp only [←e,List.getElem?_map] at hx
     have:z.cells.toList[j]?=some u:=by simpa using hu
     rw [this] at hx;injection hx with hx;subst hx;exact fP u,fun h=>by cases h⟩)
    exact ⟨_,dO h1 (.addr d 0 _ _ _ (fe d _ _)) bZ⟩
   ·cases hr
  ·split at hr
   ·rename_i s' bZ
    injection hr with hr;subst hr
    have h1:=hs.fresh (w':={w with heap:=w.heap.push (.cells z.cells t (0,0))}) d ⟨rv P t,false,true,z.cells.toList.map bB⟩ (iQ bZ) rfl rfl rfl (by simp) (cJ w _) (dE w _) (by simp) (by simp) (by simp) (fun j u x hu hx=>⟨fun h=>(by cases h),fun _=>by
     simp only [List.getElem?_map] at hx
     have:z.cells.toList[j]?=some u:=by simpa using hu
     rw [this] at hx;injection hx with hx;subst hx
     exact ⟨bB u,(B8 d u).symm,.rep (fP u)⟩⟩)
    exact ⟨_,dO h1 (.addr d 0 _ _ _ (fe d _ _)) bZ⟩
   ·cases hr
 ·cases hr
def IL (P:Program) (n:Nat) (s:AS) (d t:Nat) (x:AV):Option (AS×List Prop) :=
 match x with
 | .arr row=>(match gg n (install s d ⟨rv P t,true,true,row⟩) (some d) (.addr d 0) with|some s'=>some (s',[])|none=>none)
 | x=>(match la x with
  | some l=>(match gg n (install s d ⟨rv P t,false,true,l.map (aR d)⟩) (some d) (.addr d 0) with|some s'=>some (s',[])|none=>none)
  | none=>none)
theorem IK {t d:Nat} {x:Operand} (ho:o.op= .box t x) (hd:o.dst=some d) (hr:IL P n s d t (bp s x)=some q):lZ P n s o q.1 q.2:=by
 intro hC S0 w0 a w Q ⟨φ,hs⟩
 have hx:=hs.bp x
 have ct:(execOp a.eval o).run P w= .ok (.value (.pointer (some ⟨w.heap.size,0,none⟩))) {w with heap:=w.heap.push (.cells (a.eval x).cells t (0,0))}:=by
  unfold execOp
  simp [ho,Instr.box,newVar,newRow]
 refine cR ct ?_
 rw [hd]
 unfold IL at hr
 split at hr
 ·rename_i row he
  split at hr
  ·rename_i s' bZ
   injection hr with hr;subst hr
   rw [he] at hx
   obtain ⟨vs,hv,hl,b7⟩:=qh hx
   have dF:(a.eval x).cells=vs.toArray:=by rw [hv];rfl
   rw [dF]
   have h1:=hs.fresh (w':={w with heap:=w.heap.push (.cells vs.toArray t (0,0))}) d ⟨rv P t,true,true,row⟩ (iQ bZ) rfl rfl rfl (by simp) (cJ w _) (dE w _) (by simp) (by simp [hl]) (by simp [hl]) (fun j u x hu hx=>⟨fun _=>b7 j u x (by simpa using hu) hx,fun h=>by cases h⟩)
   exact ⟨_,dO h1 (.addr d 0 _ _ _ (fe d _ _)) bZ⟩
  ·cases hr
 ·split at hr
  ·rename_i l hl
   split at hr
   ·rename_i s' bZ
    injection hr with hr;subst hr
    obtain ⟨vs,dF,hlen,dM⟩:=lW hx hl
    rw [dF]
    have h1:=hs.fresh (w':={w with heap:=w.heap.push (.cells vs.toArray t (0,0))}) d ⟨rv P t,false,true,l.map (aR d)⟩ (iQ bZ) rfl rfl rfl (by simp) (cJ w _) (dE w _) (by simp) (by simp [hlen]) (by simp [hlen]) (fun j u x hu hx=>⟨fun h=>(by cases h),fun _=>by
     simp only [List.getElem?_map] at hx
     cases hj:l[j]? with
     | none=>rw [hj] at hx;cases hx
     | some y=>rw [hj] at hx;injection hx with hx;subst hx;exact ⟨y,rfl,dM j u y (by simpa using hu) hj⟩⟩)
    exact ⟨_,dO h1 (.addr d 0 _ _ _ (fe d _ _)) bZ⟩
   ·cases hr
  ·cases hr
def OO:AV->List Nat
 | .ref i=>[i]
 | .pre i _=>[i]
 | .jl i _ _=>[i]
 | .addr i _=>[i]
 | _=>[]
def oo:AV->List Nat
 | .agg cs=>cs.flatMap OO
 | x=>OO x
def fN:AS->List Nat->Option AS
 | s,[]=>some s
 | s,i::l=>match look s.H i with
  | some r=>(match r.pure with|true=>fN (gp i r s) l|false=>none)
  | none=>fN s l
theorem fM {S0:bm} {w0 w:World} {a:Act}:∀(l:List Nat) (s s':AS) (φ:Nat->Option Nat),fN s l=some s'->aG S0 w0 n [] s a w φ-> ∃ cz,aG S0 w0 n [] s' a w cz
 | [],s,s',φ,h,hs=>by cases h;exact ⟨φ,hs⟩
 | i::l,s,s',φ,h,hs=>by
  simp only [fN] at h
  split at h
  ·rename_i r hr
   split at h
   ·rename_i hp
    exact fM l _ s' _ h (hs.Lq hr hp)
   ·cases h
  ·exact fM l s s' φ h hs
def ic:AV->Bool
 | .val u=>u.oneCell'
 | .nil=>true
 | .sl _ _=>true
 | .ptr _ _=>true
 | .lB _ _=>true
 | _=>false
def dR:List AV->Bool
 | []=>true
 | x::l=>match ic x with|true=>dR l|false=>false
theorem eE {I:Info} {S:Nat->Prop} {w:World} {v:Value} {x:AV} (hd:Den I S w v x) (hp:ic x=true):cA S w v x∧v.oneCell'=true:=by
 cases hd with
 | rep h=>refine ⟨h,?_⟩;cases h<;>first|exact hp|rfl|cases hp
 | _=>cases hp
theorem iz:∀ {l:List AV} {j:Nat} {x:AV},dR l=true->l[j]?=some x->ic x=true
 | [],j,x,_,h=>by simp at h
 | y::l,j,x,hp,h=>by
  simp only [dR] at hp
  split at hp
  ·rename_i hy
   cases j with
   | zero=>simp at h;subst h;exact hy
   | succ j=>exact iz hp (by simpa using h)
  ·cases hp
def fW (s:AS) (z:Nat):Nat->List (Nat×Operand)->Option (List AV)
 | _,[]=>some []
 | i,(j,x)::l=>match Nat.beq i j,la (bp s x),fW s z (i+1) l with
  | true,some c,some m=>(match Nat.beq c.length z with|true=>some (c++m)|false=>none)
  | _,_,_=>none
def uR (P:Program) (n:Nat) (s:AS) (d t len:Nat) (parts:List (Nat×Operand)) (h:Hint):Option (AS×List Prop) :=
 match P.underlying t with
 | some (.slice el)=>(match ea P el,(P.info? el).bind (·.zero),fN s (parts.flatMap fun p=>oo (bp s p.2)) with
  | some (z+1),some zero,some s1=>(match fW s1 (z+1) 0 parts,Nat.beq parts.length len,Nat.ble (len*(z+1)) 16777216 with
   | some cells,true,true=>(match Nat.beq zero.cells.size (z+1) with
    | true=>(match h.av with
     | some (.arr row)=>(match dR cells,gg n (install s1 d ⟨z+1,true,true,row⟩) (some d) (.ref d) with|true,some s'=>some (s',[cells=row])|_,_=>none)
     | _=>(match dR cells,gg n (install s1 d ⟨z+1,true,true,cells⟩) (some d) (.ref d) with|true,some s'=>some (s',[])|_,_=>none))
    | false=>none)
   | _,_,_=>none)
  | _,_,_=>none)
 | _=>none
theorem B6 {S0:bm} {w0 w:World} {a:Act} {φ:Nat->Option Nat} (hs:aG S0 w0 n [] s a w φ) (z:Nat):∀(parts:List (Nat×Operand)) (i:Nat) (cells:List AV) (cur:Array Value),fW s z i parts=some cells->dR cells=true->i*z+parts.length*z=cur.size ->
  cells.length=parts.length*z∧ ∃us:Array Value,Instr.fill (fun i=>some (i*z,z)) cur (parts.map fun p=>(p.1,a.eval p.2))=some us∧us.size=cur.size∧(∀j,j<i*z->us[j]?=cur[j]?)∧ ∀(j:Nat) u x,us[i*z+j]?=some u->cells[j]?=some x->cA (aM S0 w φ []) w u x
 | [],i,cells,cur,hc,hp,dq=>by cases hc;exact ⟨by simp,cur,rfl,rfl,fun _ _=>rfl,fun j u x _ hx=>by simp at hx⟩
 | (j,x)::l,i,cells,cur,hc,hp,dq=>by
  simp only [fW] at hc
  split at hc
  ·rename_i c m MI KK hm
   split at hc
   ·rename_i KJ
    cases hc
    have MI:=Nat.eq_of_beq_eq_true MI
    have KJ:=Nat.eq_of_beq_eq_true KJ
    subst MI
    obtain ⟨vs,hv,hlen,dM⟩:=lW (hs.bp x) KK
    have Rn:dR m=true:=by
     have key:∀(c m:List AV),dR (c++m)=true->dR m=true:=by
      intro c
      induction c with
      | nil=>intro m h;exact h
      | cons y c ih =>
       intro m h
       simp only [List.cons_append,dR] at h
       split at h
       ·exact ih m h
       ·cases h
     exact key c m hp
    simp only [List.length_cons] at dq
    have Kt:(l.length+1)*z=l.length*z+z:=by rw [Nat.add_mul,Nat.one_mul]
    have dD:(i+1)*z=i*z+z:=by rw [Nat.add_mul,Nat.one_mul]
    have Ia:((a.eval x).cells.zipIdx.foldl (fun cs (cj:Value×Nat)=>cs.setIfInBounds (i*z+cj.2) cj.1) cur)=(vs.zipIdx.foldl (fun cs (cj:Value×Nat)=>cs.setIfInBounds (i*z+cj.2) cj.1) cur):=by rw [hv];simp
    obtain ⟨Gb,us,Ff,HO,HN,Mz⟩:=B6 hs z l (i+1) m (vs.zipIdx.foldl (fun cs (cj:Value×Nat)=>cs.setIfInBounds (i*z+cj.2) cj.1) cur) hm Rn (by rw [jf];omega)
    rw [jf] at HO
    refine ⟨by rw [List.length_append,List.length_cons,Gb,KJ];omega,us,?_,HO,fun j hj=>?_,fun j u y hu hy=>?_⟩
    ·rw [List.map_cons]
     unfold Instr.fill
     simp only
     have OV:(a.eval x).cells.size=z:=by rw [hv];simp;omega
     rw [if_neg (by rw [OV];simp;omega),Ia]
     exact Ff
    ·rw [HN j aj,kj,if_neg aj]
    ·by_cases hj:j<z
     ·rw [HN _ aj,kj,if_pos aj] at hu
      rw [List.getElem?_append_left aj] at hy
      have Rd:vs[j]?=some u:=by rw [←hu];congr 1;omega
      exact (eE (dM j u y Rd hy) (iz (l:=c++m) (j:=j) hp (by rw [List.getElem?_append_left aj];exact hy))).1
     ·rw [List.getElem?_append_right aj] at hy
      refine Mz (j-z) u y ?_ (by rw [←hy,KJ])
      rw [←hu];congr 1;omega
   ·cases hc
  ·cases hc
theorem A8 {t d len:Nat} {parts:Array (Nat×Operand)} (ho:o.op= .buildSlice t len parts) (hd:o.dst=some d) (hr:uR P n s d t len parts.toList h=some q):lZ P n s o q.1 q.2:=by
 intro hC S0 w0 a w Q ⟨QK,kT⟩
 unfold uR at hr
 split at hr
 ·rename_i el hu
  split at hr
  ·rename_i z zero s1 hz hzero OZ
   obtain ⟨φ,hs⟩:=fM _ _ _ _ OZ kT
   split at hr
   ·rename_i cells dF hlen AE
    split at hr
    ·rename_i uo
     have uo:=Nat.eq_of_beq_eq_true uo
     have hlen:=Nat.eq_of_beq_eq_true hlen
     have AE:len*(z+1)≤16777216:=Nat.le_of_ble_eq_true AE
     have ct:dR cells=true-> ∃us:Array Value,(execOp a.eval o).run P w= .ok (.value (.slice (some ⟨w.heap.size,0,none⟩) len len)) {w with heap:=w.heap.push (.cells us el (0,0))}∧us.size=cells.length∧cells.length=(z+1)*len∧ ∀(j:Nat) u x,us[j]?=some u->cells[j]?=some x->cA (aM S0 w φ []) w u x:=by
      intro hp
      obtain ⟨h1,us,h2,h3,-,h4⟩:=B6 hs (z+1) parts.toList 0 cells ((Array.range (len*(z+1))).map (zero.cells[· %zero.cells.size]!)) dF hp (by simp [←hlen])
      refine ⟨us,?_,by rw [h3,h1,hlen];simp,by rw [h1,hlen,Nat.mul_comm],fun j u x hu hx=>h4 j u x (by simpa using hu) hx⟩
      have Ar:(sizeOf el).run P w= .ok (z+1) w:=run_sizeOf hz
      have oG:(parts.map fun p=>(p.1,a.eval p.2)).toList=parts.toList.map fun p=>(p.1,a.eval p.2):=by simp
      unfold execOp
      simp only [ho,Instr.buildSlice,Sem.run_bind,run_underlying hu,Result.andThen_ok,Ar,Sem.run_ite]
      rw [if_neg aj]
      by_cases h0:len*(z+1)=0
      ·rw [if_pos h0]
       simp only [Sem.run_pure,Result.andThen_ok]
       have:(Array.range (len*(z+1))).map (fun x=>(#[]:Array Value)[x%(#[]:Array Value).size]!)=(Array.range (len*(z+1))).map (fun x=>zero.cells[x%zero.cells.size]!):=by rw [h0,ij,ij]
       rw [this,oG,h2]
       rfl
      ·rw [if_neg h0]
       simp only [iM hzero,Result.andThen_ok,Sem.run_pure]
       rw [oG,h2]
       rfl
     have hm:len≤maxLen:=by
      have:len≤len*(z+1):=Nat.le_mul_of_pos_right _ aj
      unfold maxLen;omega
     split at hr
     ·rename_i row _
      split at hr
      ·rename_i s' hp bZ
       injection hr with hr;subst hr
       obtain ⟨us,ct,h1,h2,h3⟩:=ct hp
       have e:=hC.1
       subst e
       refine cR ct ?_
       rw [hd]
       have hf:=hs.fresh (w':={w with heap:=w.heap.push (.cells us el (0,0))}) d ⟨z+1,true,true,cells⟩ (iQ bZ) rfl rfl rfl (by simp) (cJ w _) (dE w _) (by simp) (by simp [h1]) (by simp [h1]) (fun j u x hu hx=>⟨fun _=>h3 j u x hu hx,fun h=>by cases h⟩)
       exact ⟨_,dO hf (.ref d _ _ _ len len (fe d _ _) h2 (Nat.le_refl _) hm (by unfold aV;rw [dE];show us.size=_;rw [h1,h2])) bZ⟩
      ·cases hr
     ·split at hr
      ·rename_i s' hp bZ
       injection hr with hr;subst hr
       obtain ⟨us,ct,h1,h2,h3⟩:=ct hp
       refine cR ct ?_
       rw [hd]
       have hf:=hs.fresh (w':={w with heap:=w.heap.push (.cells us el (0,0))}) d ⟨z+1,true,true,cells⟩ (iQ bZ) rfl rfl rfl (by simp) (cJ w _) (dE w _) (by simp) (by simp [h1]) (by simp [h1]) (fun j u x hu hx=>⟨fun _=>h3 j u x hu hx,fun h=>by cases h⟩)
       exact ⟨_,dO hf (.ref d _ _ _ len len (fe d _ _) h2 (Nat.le_refl _) hm (by unfold aV;rw [dE];show us.size=_;rw [h1,h2])) bZ⟩
      ·cases hr
    ·cases hr
   ·cases hr
  ·cases hr
 ·cases hr
def s_ (zs:List AV) (k:Nat):List AV:=match zs with| [x]=>List.replicate k x|zs=>(List.replicate k zs).flatten
theorem Em (zs:List AV) (e:Nat) (he:zs.length=e) (h0:0<e):∀(k j:Nat) (x:AV),((List.replicate k zs).flatten)[j]?=some x->zs[j%e]?=some x
 | 0,j,x,h=>by simp at h
 | k+1,j,x,h=>by
  rw [List.replicate_succ,List.flatten_cons] at h
  by_cases hj:j<e
  ·rw [List.getElem?_append_left aj] at h
   rw [Nat.mod_eq_of_lt hj];exact h
  ·rw [List.getElem?_append_right aj] at h
   have:=Em zs e he h0 k _ x h
   rw [he] at this
   rw [show j%e=(j-e)%e from ?_]
   ·exact this
   ·rw [Nat.mod_eq_sub_mod aj]
theorem wV (zs:List AV) (e:Nat) (he:zs.length=e) (h0:0<e) (k j:Nat) (x:AV) (h:(s_ zs k)[j]?=some x):zs[j%e]?=some x:=by
 unfold s_ at h
 split at h
 ·simp at he
  subst he
  rw [List.getElem?_replicate] at h
  split at h
  ·injection h with h;subst h;simp [Nat.mod_one]
  ·cases h
 ·exact Em zs e he h0 k j x h
theorem s9 (zs:List AV) (e:Nat) (he:zs.length=e) (k:Nat):(s_ zs k).length=e*k:=by
 unfold s_
 split
 ·simp at he;subst he;simp
 ·rw [List.length_flatten];simp [he,Nat.mul_comm]
def CA (P:Program) (n:Nat) (s:AS) (d t:Nat) (L C:Int) (h:Hint):Option (AS×List Prop) :=
 match P.underlying t with
 | some (.slice el)=>(match P.info? el with
  | some i=>(match i.zero,i.size with
   | some zero,z+1=>(match Nat.beq zero.cells.size (z+1) with
    | true=>(match gg n (install s d ⟨z+1,true,false,(named h (s_ (zero.cells.toList.map bB) h.k)).1⟩) (some d) (.ref d) with
     | some s'=>some (s',(named h (s_ (zero.cells.toList.map bB) h.k)).2++ [L=(h.k:Int),C=(h.m:Int),h.k≤h.m,i.bytes*h.m≤281474976710656,h.m≤maxLen])|none=>none)
    | false=>none)
   | _,_=>none)
  | none=>none)
 | _=>none
theorem run_make {P:Program} {o:Oper} {ev:Operand->Value} {t:Nat} {l c:Operand} {kl kc:IntKind} {L C:Int} {el:TypeId} {i:TypeInfo} {zero:Value} {z k m:Nat} (ho:o.op= .makeSlice t l c) (LP:ev l= .int kl L) (ec:ev c= .int kc C) (hu:P.underlying t=some (.slice el)) (hi:P.info? el=some i) (hz:i.zero=some zero) (dq:i.size=z+1) (hb:zero.cells.size=z+1)
  (h1:L=(k:Int)) (h2:C=(m:Int)) (h3:k≤m) (h4:i.bytes*m≤281474976710656) (h5:m≤maxLen) (w:World) :
  ∃cur:Array Value,(execOp ev o).run P w= .ok (.value (.slice (some ⟨w.heap.size,0,none⟩) k m)) {w with heap:=w.heap.push (.cells cur el (0,0))}∧cur.size=(z+1)*m∧ ∀(j:Nat) u,cur[j]?=some u->zero.cells[j%(z+1)]?=some u:=by
 have VN:m≤9223372036854775807:=by have:=h5;unfold maxLen at this;omega
 have wl:IntKind.i64.wrap L=(k:Int):=by rw [h1,IntKind.wrap_i64];omega
 have wc:IntKind.i64.wrap C=(m:Int):=by rw [h2,IntKind.wrap_i64];omega
 have US:((i.bytes:Int)*(m:Int))≤281474976710656:=by
  have QB:((i.bytes*m:Nat):Int)≤281474976710656:=aj
  rw [Int.natCast_mul] at QB;exact QB
 have TY:(zeroValue el).run P w= .ok zero w:=iM (by rw [hi];exact hz)
 have S6:(sizeOf el).run P w= .ok (z+1) w:=by simp [sizeOf,typeInfo,hi,dq]
 have SZ:(typeInfo el).run P w= .ok i w:=by simp [typeInfo,hi]
 have t1:¬((m:Int)<0):=aj
 have t2:¬(281474976710656<(i.bytes:Int)*(m:Int)):=aj
 have t3:¬((k:Int)<0):=aj
 have t4:¬((m:Int)<(k:Int)):=aj
 by_cases h0:m*(z+1)=0
 ·refine ⟨#[],?_,by rw [Nat.mul_comm];simp [h0],fun j u hu=>by simp at hu⟩
  unfold execOp
  simp [ho,LP,ec,Instr.makeSlice,run_underlying hu,SZ,S6,asInt,asIntOf,wl,wc,t1,t2,t3,t4,newRow]
  have:m=0:=by
   rcases Nat.eq_zero_or_pos m with h6|h6
   ·exact h6
   ·have:=Nat.mul_pos h6 (aj:0<z+1);omega
  simp [this,ij]
 ·refine ⟨(Array.range (m*(z+1))).map (zero.cells[· %zero.cells.size]!),?_,by simp [Nat.mul_comm],fun j u hu=>?_⟩
  ·unfold execOp
   simp [ho,LP,ec,Instr.makeSlice,run_underlying hu,SZ,S6,asInt,asIntOf,wl,wc,t1,t2,t3,t4,newRow,TY]
   exact fun e=>absurd e h0
  ·simp only [Array.getElem?_map] at hu
   cases hj:(Array.range (m*(z+1)))[j]? with
   | none=>rw [hj] at hu;cases hu
   | some k =>
    have hk:k=j:=by
     have:=Array.getElem?_eq_some_iff.1 hj
     obtain ⟨dd,he⟩:=this
     rw [←he];simp
    subst hk
    rw [hj] at hu
    injection hu with hu
    rw [hb] at hu
    have dd:k%(z+1)<zero.cells.size:=by rw [hb];exact Nat.mod_lt _ aj
    simp [getElem!_pos,dd] at hu
    simp [dd,hu]
theorem FB {t d:Nat} {l c:Operand} {kl kc:IntKind} {L C:Int} (ho:o.op= .makeSlice t l c) (hl:bp s l= .val (.int kl L)) (hc:bp s c= .val (.int kc C)) (hd:o.dst=some d) (hr:CA P n s d t L C h=some q):lZ P n s o q.1 q.2:=by
 intro hC S0 w0 a w Q ⟨φ,hs⟩
 have LP:a.eval l= .int kl L:=bJ (hl ▸ hs.bp l)
 have ec:a.eval c= .int kc C:=bJ (hc ▸ hs.bp c)
 unfold CA at hr
 split at hr
 ·rename_i el hu
  split at hr
  ·rename_i i hi
   split at hr
   ·rename_i zero z hz dq
    split at hr
    ·rename_i hb
     have hb:=Nat.eq_of_beq_eq_true hb
     split at hr
     ·rename_i s' bZ
      injection hr with hr;subst hr
      obtain ⟨Kz,hC⟩:=gZ hC
      rw [Kz] at bZ
      obtain ⟨h1,h2,h3,h4,h5,-⟩:=hC
      have ct:=run_make ho LP ec hu hi hz dq hb h1 h2 h3 h4 h5 w
      obtain ⟨cur,ct,wE,bu⟩:=ct
      refine cR ct ?_
      rw [hd]
      have F6:(zero.cells.toList.map bB).length=z+1:=by simp [hb]
      have F9:=s9 (zero.cells.toList.map bB) (z+1) F6 h.k
      have hle:(z+1)*h.k≤(z+1)*h.m:=Nat.mul_le_mul_left _ h3
      have hf:=hs.fresh (w':={w with heap:=w.heap.push (.cells cur el (0,0))}) d ⟨z+1,true,false,s_ (zero.cells.toList.map bB) h.k⟩ (iQ bZ) rfl rfl rfl (by simp) (cJ w _) (dE w _) (by simp) (by simp only [F9,wE];exact hle) (fun h=>by cases h) (fun j u x hu hx=>⟨fun _=>by
       have h6:=wV _ (z+1) F6 aj _ _ _ hx
       have h7:=bu j u hu
       rw [List.getElem?_map] at h6
       have h8:zero.cells.toList[j%(z+1)]?=some u:=by simpa using h7
       rw [h8] at h6;injection h6 with h6;subst h6;exact fP u,fun h=>by cases h⟩)
      exact ⟨_,dO hf (.ref d _ _ _ h.k h.m (fe d _ _) F9 h3 h5 (by unfold aV;rw [dE];exact wE)) bZ⟩
     ·cases hr
    ·cases hr
   ·cases hr
  ·cases hr
 ·cases hr
def yj (P:Program) (n:Nat) (s:AS) (d src dst:Nat) (b:ByteArray):Option (AS×List Prop) :=
 match P.underlying src,P.underlying dst with
 | some .string,some (.slice el)=>(match P.underlying el with
  | some (.int .u8)=>(match gg n (install s d ⟨1,true,false,ag b.data.toList⟩) (some d) (.ref d) with|some s'=>some (s',[b.size≤maxLen])|none=>none)
  | _=>none)
 | _,_=>none
theorem CQ {src dst d:Nat} {x:Operand} {b:ByteArray} (ho:o.op= .convert src dst x) (hx:bp s x= .val (.string b)) (hd:o.dst=some d) (hr:yj P n s d src dst b=some q):lZ P n s o q.1 q.2:=by
 intro hC S0 w0 a w Q ⟨φ,hs⟩
 have ex:a.eval x= .string b:=bJ (hx ▸ hs.bp x)
 unfold yj at hr
 split at hr
 ·rename_i el h1 h2
  split at hr
  ·rename_i h3
   split at hr
   ·rename_i s' bZ
    injection hr with hr;subst hr
    have dq:=hC.1
    have Ax:=vD.of_string w b el dq
    have ct:(execOp a.eval o).run P w= .ok (.value (.slice (some ⟨w.heap.size,0,none⟩) b.size (grownCap w b.size 0 el))) (w.drew.alloc (.cells (bytesRow b (grownCap w b.size 0 el)) el ((bytesRow b (grownCap w b.size 0 el)).size,(bytesRow b (grownCap w b.size 0 el)).size+1))):=by
     unfold execOp
     simp [ho,ex,run_bytes_of_string w src dst el b h1 h2 h3]
    refine cR ct ?_
    rw [hd]
    have uz:=grownCap_ge w b.size 0 el
    have sR:grownCap w b.size 0 el≤maxLen:=grownCap_le_maxLen w _ 0 el dq
    have PG:(bytesRow b (grownCap w b.size 0 el)).size=grownCap w b.size 0 el:=by
     unfold bytesRow;simp only [Array.size_append,Array.size_map,Array.size_replicate]
     show b.size+_=_
     omega
    have pr:(ag b.data.toList).length=b.size:=by rw [aC];rfl
    have lP:(w.drew.alloc (.cells (bytesRow b (grownCap w b.size 0 el)) el ((bytesRow b (grownCap w b.size 0 el)).size,(bytesRow b (grownCap w b.size 0 el)).size+1))).heap[w.heap.size]?=some (.cells (bytesRow b (grownCap w b.size 0 el)) el ((bytesRow b (grownCap w b.size 0 el)).size,(bytesRow b (grownCap w b.size 0 el)).size+1)):=heap_alloc_new w.drew _
    have hf:=hs.fresh (w':=w.drew.alloc (.cells (bytesRow b (grownCap w b.size 0 el)) el ((bytesRow b (grownCap w b.size 0 el)).size,(bytesRow b (grownCap w b.size 0 el)).size+1))) d ⟨1,true,false,ag b.data.toList⟩ (iQ bZ) rfl rfl rfl (by simp) (fun k hk=>Below.heap_alloc w.drew _ k hk) lP (fun j hj=>by simp only;omega) (by simp only [pr,PG];exact uz) (fun h=>by cases h) (fun j u x hu hx=>⟨fun _=>by
     have hj:j<b.size:=by have:=(List.getElem?_eq_some_iff.1 hx).1;rw [pr] at this;exact this
     have VS:j<b.data.toList.length:=hj
     have xK:j<b.data.size:=hj
     have e1:(bytesRow b (grownCap w b.size 0 el))[j]?=some (.int .u8 (b.data.toList[j].toNat)):=by
      unfold bytesRow
      rw [Array.getElem?_append_left (by simpa using hj)]
      simp
      exact ⟨_,Array.getElem?_eq_getElem xK,rfl⟩
     rw [e1] at hu;injection hu with hu;subst hu
     have e2:(ag b.data.toList)[j]?=some (.val (.int .u8 (bv b.data.toList[j]))):=by
      simp [ag]
      exact ⟨_,Array.getElem?_eq_getElem xK,rfl⟩
     rw [e2] at hx;injection hx with hx;subst hx
     exact .val _,fun h=>by cases h⟩)
    exact ⟨_,dO hf (.ref d 1 _ _ b.size (grownCap w b.size 0 el) (fe d _ _) (by rw [Nat.one_mul];exact pr) uz sR (by unfold aV;rw [lP];simp only [PG,Nat.one_mul])) bZ⟩
   ·cases hr
  ·cases hr
 ·cases hr
end
section
variable {S0:bm} {w0 w w':World} {n:Nat} {s:AS} {a:Act} {φ:Nat->Option Nat}
theorem aG.stored (h:aG S0 w0 n [] s a w φ) {id:Nat} {r r':Row} {g:Nat} (hr:look s.H id=some r) (cp:φ id=some g) (he:r'.e=r.e) (hlen:r'.cells.length=r.cells.length) (H_:r'.full=r.full)
  {cur cur':Array Value} {te:TypeId} {fr:Nat×Nat} (hg:w.heap[g]?=some (.cells cur te fr)) (i6:w'.heap[g]?=some (.cells cur' te fr)) (dq:cur'.size=cur.size)
  (HW:w'.os=w.os) (ur:w'.tape=w.tape) (uu:w'.output=w.output) (Q8:w'.heap.size=w.heap.size) (hb:∀b,b≠g->w'.heap[b]?=w.heap[b]?)
  (hc:∀(j:Nat) u x,cur'[j]?=some u->r'.cells[j]?=some x->bh (az s.H φ) (aM S0 w φ []) w r'.pure u x):aG S0 w0 n [] ⟨s.F,(id,r')::cN s.H id⟩ a w' φ:=by
 have hI:∀i x,az s.H φ i=some x->az ((id,r')::cN s.H id) φ i=some x:=by
  intro i x hi
  obtain ⟨e,m,b⟩:=x
  obtain ⟨q,hl,h1,h2,h3⟩:=aO hi
  by_cases cT:id=i
  ·subst cT
   rw [hr] at hl;injection hl with hl;subst hl
   rw [bq (r:=r') (by rw [aD,if_pos rfl]),he,hlen,h1,h2,h3]
  ·rw [bq (r:=q) (by rw [aD,if_neg cT,bH,if_neg cT,hl]),h1,h2,h3]
 have hF:∀b,aM S0 w φ [] b->aM S0 w' φ [] b∧w'.heap[b]?=w.heap[b]?:=fun b kF=>⟨⟨by rw [Q8];exact kF.1,kF.2⟩,hb b fun e=>kF.2.2.1 id (by rw [cp,e])⟩
 have hL:∀i e m g',az s.H φ i=some (e,m,some g')->aV w' g'=aV w g':=by
  intro i e m g' _
  unfold aV
  by_cases e:g'=g
  ·subst e;rw [hg,i6];exact dq
  ·rw [hb g' e]
 have aN:=h.rows id r hr
 unfold bN at aN
 rw [cp] at aN
 obtain ⟨Vt,VF,V3,AA,gH,hle,mI,-⟩:=aN
 rw [hg] at AA
 injection AA with AA
 injection AA with e1 e2 e3
 subst e1;subst e2;subst e3
 refine ⟨h.jL,h.jO,⟨HW.trans h.cV.os,ur.trans h.cV.tape,uu.trans h.cV.output,by rw [Q8];exact h.cV.size,fun k hk hx=>?_,h.cV.g0,h.cV.gx⟩,fun i av hi=>(h.cB i av hi).mono hI hF hL,fun i q hq=>?_,fun i hi=>?_,h.inj,fun i g' i6=>by rw [Q8];exact h.cU i g' i6,h.apart,h.new⟩
 ·rw [hb k (fun e=>by rcases (h.cU id g cp).1.2 with h|h;omega;rw [e] at hx;exact hx h)]
  exact h.cV.block k hk hx
 ·rw [aD] at hq
  by_cases cT:id=i
  ·rw [if_pos cT] at hq;injection hq with hq;subst hq;subst cT
   rw [cp]
   refine ⟨cur',te,fr,i6,fun j hj=>gH j aj,by rw [hlen,dq];exact hle,fun hf=>by rw [hlen,dq];exact mI (by rw [←H_];exact hf),fun j u x hu hx=>?_⟩
   have:=hc j u x hu hx
   unfold bh at this ⊢
   cases hp:r'.pure with
   | true=>rw [hp] at this;exact this.mono hF
   | false=>rw [hp] at this;exact this.mono hI hF hL
  ·rw [if_neg cT,bH,if_neg cT] at hq
   have gM:=h.rows i q hq
   unfold bN at gM ⊢
   cases Cb:φ i with
   | none=>rw [Cb] at gM;exact gM
   | some g2 =>
    rw [Cb] at gM
    obtain ⟨Da,TM,Vp,Pu,Gc,Ci,RK,N9⟩:=gM
    have Rr:g2≠g:=fun e=>cT (h.inj id i g cp (by rw [Cb,e]))
    refine ⟨Da,TM,Vp,(hb g2 Rr).trans Pu,Gc,Ci,RK,fun j u x hu hx=>?_⟩
    have:=N9 j u x hu hx
    unfold bh at this ⊢
    cases hp:q.pure with
    | true=>rw [hp] at this;exact this.mono hF
    | false=>rw [hp] at this;exact this.mono hI hF hL
 ·rw [aD] at hi
  by_cases cT:id=i
  ·rw [if_pos cT] at hi;cases hi
  ·rw [if_neg cT,bH,if_neg cT] at hi
   exact h.only i hi
end
def Df:AV->Bool
 | .val u=>u.oneCell'
 | .nil=>true
 | .sl _ _=>true
 | .ptr _ _=>true
 | .ref _=>true
 | .pre _ _=>true
 | .jl _ _ _=>true
 | .addr _ _=>true
 | _=>false
def qk:List AV->Bool
 | []=>true
 | x::l=>match Df x with|true=>qk l|false=>false
theorem De {I:Info} {S:Nat->Prop} {w:World} {v:Value} {x:AV} (hd:Den I S w v x) (hp:Df x=true):v.oneCell'=true:=by
 cases hd with
 | rep h=>cases h<;>first|exact hp|rfl|cases hp
 | agg=>cases hp
 | br=>cases hp
 | dead=>cases hp
 | _=>rfl
theorem va:∀ {l:List AV} {j:Nat} {x:AV},qk l=true->l[j]?=some x->Df x=true
 | [],j,x,_,h=>by simp at h
 | y::l,j,x,hp,h=>by
  simp only [qk] at hp
  split at hp
  ·rename_i hy
   cases j with
   | zero=>simp at h;subst h;exact hy
   | succ j=>exact va hp (by simpa using h)
  ·cases hp
def setCells (cells:List AV) (off:Nat) (l:List AV):List AV:=match l with| [x]=>cells.set off x|l=>cells.take off++l++cells.drop (off+l.length)
theorem m7 (cells:List AV) (off:Nat) (l:List AV) (h:off+l.length≤cells.length):setCells cells off l=cells.take off++l++cells.drop (off+l.length):=by
 unfold setCells
 split
 ·rename_i x
  simp only [List.length_cons,List.length_nil] at h ⊢
  rw [List.set_eq_take_append_cons_drop,if_pos aj]
  simp
 ·rfl
theorem vU {α:Type} (l m:List α) (off j:Nat) (h:off+m.length≤l.length):(l.take off++m++l.drop (off+m.length))[j]?=if off≤j∧j<off+m.length then m[j-off]? else l[j]?:=by
 by_cases h1:j<off
 ·rw [List.getElem?_append_left (by simp only [List.length_append,List.length_take];omega),List.getElem?_append_left (by simp only [List.length_take];omega),List.getElem?_take,if_pos h1,if_neg aj]
 ·by_cases h2:j<off+m.length
  ·rw [List.getElem?_append_left (by simp only [List.length_append,List.length_take];omega),List.getElem?_append_right (by simp only [List.length_take];omega),if_pos aj]
   congr 1;simp only [List.length_take];omega
  ·rw [List.getElem?_append_right (by simp only [List.length_append,List.length_take];omega),List.getElem?_drop,if_neg aj]
   congr 1;simp only [List.length_append,List.length_take];omega
theorem oL {α:Type} (l m:List α) (off:Nat) (h:off+m.length≤l.length):(l.take off++m++l.drop (off+m.length)).length=l.length:=by
 simp only [List.length_append,List.length_take,List.length_drop];omega
def EP (s:AS) (id:Nat) (r:Row):AS:=⟨s.F,(id,r)::cN s.H id⟩
def uP (P:Program) (s:AS) (t:TypeId) (x:Operand) (cs:List AV) (h:Hint):Option (AS×List Prop) :=
 match bp s x with
 | .addr id off=>(match look s.H id,ea P t with
  | some r,some z=>(match r.pure with
   | true=>some (EP s id ⟨r.e,true,r.full,(named h (r.cells.take off++cs++r.cells.drop (off+cs.length))).1⟩,(named h (r.cells.take off++cs++r.cells.drop (off+cs.length))).2++ [cs.length=z,∀x∈cs,ic x=true,off+cs.length≤r.cells.length])
   | false=>none)
  | _,_=>none)
 | _=>none
def kI (P:Program) (s:AS) (t:TypeId) (x:Operand) (y:Operand) (h:Hint):Option (AS×List Prop) :=
 match bp s x with
 | .addr id off=>(match look s.H id,ea P t with
  | some r,some z=>(match r.pure with
   | true=>(match fN s (oo (bp s y)) with
    | some s1=>(match look s1.H id,la (bp s1 y),bp s1 x with
     | some r1,some l,.addr oZ B2=>(match Nat.beq id oZ,Nat.beq l.length z,dR l,r1.pure with
      | true,true,true,true=>some (EP s1 id ⟨r1.e,true,r1.full,(named h (setCells r1.cells B2 l)).1⟩,(named h (setCells r1.cells B2 l)).2++ [B2+l.length≤r1.cells.length])
      | _,_,_,_=>none)
     | _,_,_=>none)
    | none=>none)
   | false=>(match la (bp s y) with
    | some l=>(match Nat.beq l.length z,qk l with
     | true,true=>some (EP s id ⟨r.e,false,r.full,(named h (setCells r.cells off l)).1⟩,(named h (setCells r.cells off l)).2++ [off+l.length≤r.cells.length])
     | _,_=>none)
    | none=>none))
  | _,_=>none)
 | _=>none
def xX (P:Program) (s:AS) (t:TypeId) (x:Operand) (y:Operand) (h:Hint):Option (AS×List Prop) :=
 match bp s y,h.k with
 | .arr cs,1=>uP P s t x cs h
 | _,_=>kI P s t x y h
section
variable {P:Program} {n:Nat} {s:AS} {o:Oper} {h:Hint} {q:AS×List Prop}
theorem si {w:World} {t:TypeId} {g off z:Nat} {v:Value} {vs:List Value} {cur:Array Value} {te:TypeId} {fr:Nat×Nat} (hz:ea P t=some z) (hv:v.cells=vs.toArray) (hl:vs.length=z) (hg:w.heap[g]?=some (.cells cur te fr)) (hf:∀j,j<cur.size-> ¬(fr.1≤j∧j<fr.2)) (mv:off+vs.length≤cur.size) (h1:∀u∈vs,u.oneCell'=true) :
  (storeVar t ⟨g,off,none⟩ v).run P w= .ok () (w.setRow g (cur.toList.take off++vs++cur.toList.drop (off+vs.length)).toArray):=by
 have dL:=cW P g te fr cur.size hf off vs 0 cur w hg aj rfl h1
 simp only [Nat.add_zero] at dL
 unfold storeVar
 have Ar:(sizeOf t).run P w= .ok z w:=run_sizeOf hz
 simp only [Sem.run_bind,Ar,Result.andThen_ok,Sem.run_ite,hv]
 rw [if_neg (by simp [hl])]
 simp [dL]
theorem pE {w:World} {g:Nat} {cur cur':Array Value} {te:TypeId} {fr:Nat×Nat} (hg:w.heap[g]?=some (.cells cur te fr)):(w.setRow g cur').heap[g]?=some (.cells cur' te fr)∧(w.setRow g cur').heap.size=w.heap.size∧ ∀b,b≠g->(w.setRow g cur').heap[b]?=w.heap[b]? :=
 ⟨setRow_heap w g cur cur' te fr hg,by simp,fun b hb=>setRow_other w g b _ hb⟩
theorem aG.written {S0:bm} {w0 w:World} {a:Act} {φ:Nat->Option Nat} (hs:aG S0 w0 n [] s a w φ) {id off g:Nat} {r:Row} {l cells:List AV} {vs:List Value} {cur:Array Value} {te:TypeId} {fr:Nat×Nat} (hr:look s.H id=some r) (cp:φ id=some g) (hg:w.heap[g]?=some (.cells cur te fr)) (hle:r.cells.length≤cur.size)
  (hold:∀(j:Nat) u x,cur[j]?=some u->r.cells[j]?=some x->bh (az s.H φ) (aM S0 w φ []) w r.pure u x) (hlen:vs.length=l.length) (mv:off+l.length≤r.cells.length) (dF:cells=setCells r.cells off l)
  (lP:∀(j:Nat) u x,vs[j]?=some u->l[j]?=some x->bh (az s.H φ) (aM S0 w φ []) w r.pure u x) :
  aG S0 w0 n [] (EP s id ⟨r.e,r.pure,r.full,cells⟩) a (w.setRow g (cur.toList.take off++vs++cur.toList.drop (off+vs.length)).toArray) φ:=by
 obtain ⟨f1,f2,f3⟩:=pE (cur':=(cur.toList.take off++vs++cur.toList.drop (off+vs.length)).toArray) hg
 have gC:cur.toList.length=cur.size:=rfl
 rw [m7 _ _ _ mv] at dF
 refine hs.stored (r':=⟨r.e,r.pure,r.full,cells⟩) hr cp rfl (by rw [dF,oL _ _ _ mv]) rfl hg f1 (by simp only [List.size_toArray];rw [oL _ _ _ aj];rfl) rfl rfl rfl f2 f3 fun j u x hu hx=>?_
 simp only [List.getElem?_toArray] at hu
 rw [vU _ _ _ _ aj] at hu
 simp only [dF] at hx
 rw [vU _ _ _ _ mv] at hx
 by_cases hj:off≤j∧j<off+l.length
 ·rw [if_pos hj] at hx
  rw [if_pos aj] at hu
  exact lP _ u x hu hx
 ·rw [if_neg hj] at hx
  rw [if_neg aj] at hu
  exact hold j u x (by simpa using hu) hx
theorem BN {S0:bm} {w0 w:World} {a:Act} {φ:Nat->Option Nat} (hs:aG S0 w0 n [] s a w φ) {id g:Nat} {r:Row} (hr:look s.H id=some r) (cp:φ id=some g):∃cur te fr,w.heap[g]?=some (.cells cur te fr)∧(∀j,j<cur.size-> ¬(fr.1≤j∧j<fr.2))∧r.cells.length≤cur.size∧ ∀(j:Nat) u x,cur[j]?=some u->r.cells[j]?=some x->bh (az s.H φ) (aM S0 w φ []) w r.pure u x:=by
 have aN:=hs.rows id r hr
 unfold bN at aN
 rw [cp] at aN
 obtain ⟨cur,te,fr,hg,hf,hl,-,hc⟩:=aN
 exact ⟨cur,te,fr,hg,hf,hl,hc⟩
theorem tx {S0:bm} {w0 w:World} {a:Act} {φ:Nat->Option Nat} {Q:Exit->Act->World->Prop} (hs:aG S0 w0 n [] s a w φ) {t:TypeId} {x y:Operand} (ho:o.op= .store t x y) (hd:o.dst=none) {id off z:Nat} {r:Row} {l cells:List AV} (hx:bp s x= .addr id off) (hr:look s.H id=some r) (hz:ea P t=some z) (hl:la (bp s y)=some l) (VO:l.length=z) (mv:off+l.length≤r.cells.length) (dF:cells=setCells r.cells off l)
  (hp:(r.pure=true∧ ∀x∈l,ic x=true)∨(r.pure=false∧qk l=true)):o.wp P a w (fun a' w'=>iv S0 w0 n (EP s id ⟨r.e,r.pure,r.full,cells⟩) a' w') Q:=by
 have SV:=hs.bp x
 rw [hx] at SV
 obtain ⟨e,m,g,hi,hv⟩:=jK SV
 obtain ⟨r',il,-,-,cp⟩:=aO hi
 obtain ⟨cur,te,fr,hg,hf,hle,hold⟩:=BN hs hr cp
 obtain ⟨vs,T7,uq,dM⟩:=lW (hs.bp y) hl
 have uv:∀u∈vs,u.oneCell'=true:=by
  intro u hu
  obtain ⟨j,hj⟩:=List.getElem?_of_mem hu
  have MG:j<l.length:=by have:=(List.getElem?_eq_some_iff.1 hj).1;omega
  have Ry:l[j]?=some l[j]:=List.getElem?_eq_getElem MG
  rcases hp with ⟨-,hp⟩|⟨-,hp⟩
  ·exact (eE (dM j u _ hj Ry) (hp _ (List.getElem_mem MG))).2
  ·exact De (dM j u _ hj Ry) (va hp Ry)
 have ct:=si (P:=P) (w:=w) (t:=t) (g:=g) (off:=off) hz T7 aj hg hf aj uv
 unfold Oper.wp
 have:(execOp a.eval o).run P w= .ok .skip (w.setRow g (cur.toList.take off++vs++cur.toList.drop (off+vs.length)).toArray):=by
  unfold execOp
  simp [ho,Instr.storeAt,Instr.sureAddr,hv,ct]
 rw [this]
 show iv S0 w0 n _ (a.put o.dst undef) _
 rw [hd]
 refine ⟨φ,hs.written hr cp hg hle hold uq mv dF fun j u x hu hx=>?_⟩
 unfold bh
 rcases hp with ⟨LB,hp⟩|⟨LB,hp⟩<;>rw [LB]
 ·exact (eE (dM j u x hu hx) (hp x (List.mem_of_getElem? hx))).1
 ·exact dM j u x hu hx
theorem A4 {t:TypeId} {x y:Operand} {cs:List AV} (ho:o.op= .store t x y) (hd:o.dst=none) (hy:bp s y= .arr cs) (hr:uP P s t x cs h=some q):lZ P n s o q.1 q.2:=by
 intro hC S0 w0 a w Q ⟨φ,hs⟩
 unfold uP at hr
 split at hr
 ·rename_i id off hx
  split at hr
  ·rename_i r z aN hz
   split at hr
   ·rename_i pY
    injection hr with hr;subst hr
    obtain ⟨hn,hlen,hp,mv,-⟩:=gZ hC
    have:=tx (Q:=Q) hs ho hd hx aN hz (l:=cs) (by rw [hy];rfl) hlen mv (hn.trans (m7 _ _ _ mv).symm) (.inl ⟨pY,hp⟩)
    rw [pY] at this
    exact this
   ·cases hr
  ·cases hr
 ·cases hr
theorem rZ {t:TypeId} {x y:Operand} (ho:o.op= .store t x y) (hd:o.dst=none) (hr:kI P s t x y h=some q):lZ P n s o q.1 q.2:=by
 intro hC S0 w0 a w Q ⟨QK,kT⟩
 unfold kI at hr
 split at hr
 ·rename_i id off hx
  split at hr
  ·rename_i r z aN hz
   split at hr
   ·rename_i pY
    split at hr
    ·rename_i s1 HQ
     obtain ⟨φ,hs⟩:=fM _ _ _ _ HQ kT
     split at hr
     ·rename_i r1 l oZ B2 O_ hl Q7
      split at hr
      ·rename_i h1 h2 h3 h4
       injection hr with hr;subst hr
       have h1:=Nat.eq_of_beq_eq_true h1
       have h2:=Nat.eq_of_beq_eq_true h2
       subst h1
       obtain ⟨hn,mv,-⟩:=gZ hC
       have:=tx (Q:=Q) hs ho hd Q7 O_ hz hl h2 mv hn (.inl ⟨h4,fun x hx=>by obtain ⟨j,hj⟩:=List.getElem?_of_mem hx;exact iz h3 hj⟩)
       rw [h4] at this
       exact this
      ·cases hr
     ·cases hr
    ·cases hr
   ·rename_i pY
    split at hr
    ·rename_i l hl
     split at hr
     ·rename_i h2 h3
      injection hr with hr;subst hr
      have h2:=Nat.eq_of_beq_eq_true h2
      obtain ⟨hn,mv,-⟩:=gZ hC
      have:=tx (Q:=Q) kT ho hd hx aN hz hl h2 mv hn (.inr ⟨pY,h3⟩)
      rw [pY] at this
      exact this
     ·cases hr
    ·cases hr
  ·cases hr
 ·cases hr
theorem Cw {t:TypeId} {x y:Operand} (ho:o.op= .store t x y) (hd:o.dst=none) (hr:xX P s t x y h=some q):lZ P n s o q.1 q.2:=by
 unfold xX at hr
 split at hr
 ·rename_i cs hy _;exact A4 ho hd hy hr
 ·exact rZ ho hd hr
def tB (s:AS):AV->Option (Nat×List AV)
 | .nil=>some (0,[])
 | .sl e row=>some (e,row)
 | .ref id=>(match look s.H id with|some ⟨e,true,_,cells⟩=>some (e,cells)|_=>none)
 | .pre id l=>(match look s.H id with|some ⟨e,true,_,cells⟩=>some (e,cells.take l)|_=>none)
 | .jl id o l=>(match look s.H id with|some ⟨e,true,_,cells⟩=>some (e,(cells.drop o).take l)|_=>none)
 | _=>none
theorem Md {S0:bm} {w0 w:World} {a:Act} {φ:Nat->Option Nat} (hs:aG S0 w0 n [] s a w φ) {v:Value} {x:AV} (hx:Den (az s.H φ) (aM S0 w φ []) w v x) {e:Nat} {row:List AV} (he:tB s x=some (e,row)) :
  ∃(A:Option Addr) (m c:Nat) (us:List Value),v= .slice A m c∧row.length=e*m∧us.length=row.length∧(0<row.length-> ∃ad,A=some ad∧ ∀(j:Nat) u,us[j]?=some u->w.cell? (ad.add j)=some u)∧(∀(j:Nat) u x,us[j]?=some u->row[j]?=some x->cA (aM S0 w φ []) w u x)∧m≤maxLen:=by
 have Le:∀(id g:Nat) (r:Row),look s.H id=some r->r.pure=true->φ id=some g-> ∃us:List Value,r.cells.length≤us.length∧(∀(j:Nat) u,us[j]?=some u->w.cell? ⟨g,j,none⟩=some u)∧ ∀(j:Nat) u x,us[j]?=some u->r.cells[j]?=some x->cA (aM S0 w φ []) w u x:=by
  intro id g r hr hp hg
  obtain ⟨cur,te,fr,i6,hf,hl,hc⟩:=kv hs hr hp hg
  exact ⟨cur.toList,hl,fun j u hu=>by rw [cell_of_row w g _ cur te fr i6];simpa using hu,fun j u x hu hx=>hc j u x (by simpa using hu) hx⟩
 cases hx with
 | rep h =>
  cases h with
  | nil=>injection he with he;injection he with h1 h2;subst h1;subst h2;exact ⟨none,0,0,[],rfl,rfl,rfl,fun h=>(by simp at h),fun j u x hu=>(by simp at hu),by simp⟩
  | sl A n c e' us ET hl hn hc hm ha h =>
   injection he with he;injection he with h1 h2;subst h1;subst h2
   exact ⟨A,n,c,us,rfl,hn,hl,fun h0=>by obtain ⟨ad,e1,_,e2⟩:=ha h0;exact ⟨ad,e1,e2⟩,h,aj⟩
  | _=>cases he
 | agg=>cases he
 | br=>cases he
 | dead=>cases he
 | addr=>cases he
 | ref id e' m g l c hi hm hc hx bZ =>
  obtain ⟨r,hr,h1,h2,cp⟩:=aO hi
  obtain ⟨re,rp,rf,rc⟩:=r
  simp only [tB,hr] at he
  split at he
  ·rename_i heq
   injection heq with heq;cases heq
   injection he with he;injection he with h3 h4;subst h3;subst h4
   obtain ⟨us,OY,HP,Lz⟩:=Le id g _ hr rfl cp
   simp only at h1 h2 OY Lz
   exact ⟨_,l,c,us.take rc.length,rfl,by rw [h2,hm,h1],by rw [List.length_take];omega,fun _=>⟨_,rfl,fun j u hu=>by rw [eZ];exact HP j u (bY _ _ _ _ hu)⟩,fun j u x hu hx=>Lz j u x (bY _ _ _ _ hu) hx,aj⟩
  ·cases he
 | cC id e' hi =>
  obtain ⟨r,hr,h1,h2,cp⟩:=aO hi
  obtain ⟨re,rp,rf,rc⟩:=r
  simp only [tB,hr] at he
  split at he
  ·rename_i heq
   injection heq with heq;cases heq
   injection he with he;injection he with h3 h4;subst h3;subst h4
   simp only at h2
   have:rc= []:=List.length_eq_zero_iff.1 h2
   subst this
   exact ⟨none,0,0,[],rfl,rfl,rfl,fun h=>(by simp at h),fun j u x hu=>(by simp at hu),by simp⟩
  ·cases he
 | pre id k e' m g l c hi hn hm hc hx bZ =>
  obtain ⟨r,hr,h1,h2,cp⟩:=aO hi
  obtain ⟨re,rp,rf,rc⟩:=r
  simp only [tB,hr] at he
  split at he
  ·rename_i heq
   injection heq with heq;cases heq
   injection he with he;injection he with h3 h4;subst h3;subst h4
   obtain ⟨us,OY,HP,Lz⟩:=Le id g _ hr rfl cp
   simp only at h1 h2 OY Lz
   have lu:(rc.take k).length=k:=by rw [List.length_take];omega
   exact ⟨_,l,c,us.take k,rfl,by rw [lu,hn,h1],by rw [lu,List.length_take];omega,fun _=>⟨_,rfl,fun j u hu=>by rw [eZ];exact HP j u (bY _ _ _ _ hu)⟩,fun j u x hu hx=>Lz j u x (bY _ _ _ _ hu) (bY _ _ _ _ hx),aj⟩
  ·cases he
 | dw id e' hi =>
  obtain ⟨r,hr,h1,h2,cp⟩:=aO hi
  obtain ⟨re,rp,rf,rc⟩:=r
  simp only [tB,hr] at he
  split at he
  ·rename_i heq
   injection heq with heq;cases heq
   injection he with he;injection he with h3 h4;subst h3;subst h4
   simp only [List.take_zero]
   exact ⟨none,0,0,[],rfl,rfl,rfl,fun h=>(by simp at h),fun j u x hu=>(by simp at hu),by simp⟩
  ·cases he
 | jl id off k e' m l c g A hi hn hm hc hx ha =>
  obtain ⟨r,hr,h1,h2,cp⟩:=aO hi
  obtain ⟨re,rp,rf,rc⟩:=r
  simp only [tB,hr] at he
  split at he
  ·rename_i heq
   injection heq with heq;cases heq
   injection he with he;injection he with h3 h4;subst h3;subst h4
   simp only at h1 h2
   have lu:((rc.drop off).take k).length=k:=by rw [List.length_take,List.length_drop];omega
   by_cases hk:0<k
   ·obtain ⟨b,hb,hA⟩:=ha hk
    rw [hb] at cp
    obtain ⟨us,OY,HP,Lz⟩:=Le id b _ hr rfl cp
    simp only at OY Lz
    exact ⟨A,l,c,(us.drop off).take k,rfl,by rw [lu,hn,h1],by rw [lu,List.length_take,List.length_drop];omega,fun _=>⟨_,hA,fun j u hu=>by rw [lY];exact HP _ u (bS _ _ _ _ _ hu)⟩,fun j u x hu hx=>Lz _ u x (bS _ _ _ _ _ hu) (bS _ _ _ _ _ hx),aj⟩
   ·have:(rc.drop off).take k= []:=List.length_eq_zero_iff.1 aj
    rw [this]
    exact ⟨A,l,c,[],rfl,by rw [h1];simp;omega,rfl,fun h=>(by simp at h),fun j u x hu=>(by simp at hu),aj⟩
  ·cases he
end
section
variable {P:Program} {w:World}
structure nH (P:Program) (w:World) (xt:TypeId) (e:Nat) (xv:Value) (m:Nat) (news:List Value):Prop where
 ty:(∃e2,P.underlying xt=some (.slice e2))∨P.underlying xt=some .string
 len:∀w',(Builtin.lenOf xv).run P w'= .ok m w'
 part:∀(w':World) (k:Nat),w'.heap=w.heap->k≤m->(Builtin.firstCells e k xv).run P w'= .ok (news.take (k*e)).toArray w'
 hl:news.length=m*e
 one:∀u∈news,u.oneCell'=true
theorem nH.cells {xt:TypeId} {e m:Nat} {xv:Value} {news:List Value} (h:nH P w xt e xv m news) (w':World) (hw:w'.heap=w.heap):(Builtin.firstCells e m xv).run P w'= .ok news.toArray w':=by
 have:=h.part w' m hw (Nat.le_refl _)
 rw [List.take_of_length_le (by rw [h.hl];exact Nat.le_refl _)] at this
 exact this
theorem pD {xt e2:TypeId} (ht:P.underlying xt=some (.slice e2)) {A:Option Addr} {m c e:Nat} {news:List Value} (hl:news.length=m*e) (hc:0<news.length-> ∃ad,A=some ad∧ ∀(j:Nat) u,news[j]?=some u->w.cell? (ad.add j)=some u) (h1:∀u∈news,u.oneCell'=true) :
  nH P w xt e (.slice A m c) m news:=by
 refine ⟨.inl ⟨e2,ht⟩,fun w'=>rfl,fun w' k hw hk=>?_,hl,h1⟩
 have bu:∀p:Addr,w'.cell? p=w.cell? p:=fun p=>kn (by rw [hw])
 have iF:(news.take (k*e)).length=k*e:=by
  have:=Nat.mul_le_mul_right e hk
  rw [List.length_take];omega
 by_cases h0:0<news.length
 ·obtain ⟨ad,rfl,dF⟩:=hc h0
  exact run_firstCells_some w' e k ad m c _ iF (fun j u hu=>(bu _).trans (dF j u (bY _ _ _ _ hu)))
 ·have hn:news= []:=List.length_eq_zero_iff.1 aj
  subst hn
  cases A with
  | none=>rw [run_firstCells_none];simp
  | some ad=>exact run_firstCells_some w' e k ad m c _ iF (fun j u hu=>by simp at hu)
theorem vk {xt:TypeId} (ht:P.underlying xt=some .string) (b:ByteArray):nH P w xt 1 (.string b) b.size (sf b.data.toList):=by
 refine ⟨.inr ht,fun w'=>rfl,fun w' k _ hk=>?_,by rw [gf,Nat.mul_one];rfl,Ev _⟩
 simp only [Builtin.firstCells,Sem.run_pure,Nat.mul_one]
 congr 1
 apply Array.ext'
 simp [sf,bv,←List.map_take]
structure Jw (w w':World) (v':Value) (g0:Option Nat) (e N:Nat) (cells:List Value) (g':Nat):Prop where
 slice:∃c',v'= .slice (some ⟨g',0,none⟩) N c'∧N≤c'∧c'≤maxLen∧aV w' g'=e*c'
 Le:∃cur te fr,w'.heap[g']?=some (.cells cur te fr)∧(∀j,j<cur.size-> ¬(fr.1≤j∧j<fr.2))∧cells.length≤cur.size∧cur.toList.take cells.length=cells
 len:cells.length=e*N
 os:w'.os=w.os
 tape:w'.tape=w.tape
 output:w'.output=w.output
 size:w.heap.size≤w'.heap.size
 other:∀b,b<w.heap.size->some b≠g0->w'.heap[b]?=w.heap[b]?
 place:(g0=some g'∧g'<w.heap.size)∨(g'=w.heap.size∧w.heap.size<w'.heap.size)
theorem tc (z:Value) (e k:Nat) (hz:z.cells.size=e):(Builtin.zeroCells z.cells k).size=k*e:=by unfold Builtin.zeroCells;simp [hz]
theorem rA {el:TypeId} {z:Value} {e l m old:Nat} {olds news:List Value} (g0:Option Nat) (hz:z.cells.size=e) (Tf:olds.length=l*e) (KB:news.length=m*e) (hm:l+m≤maxLen) :
  Jw w (w.drew.alloc (.cells (olds.toArray++news.toArray++Builtin.zeroCells z.cells (grownCap w (l+m) old el-(l+m))) el)) (.slice (some ⟨w.heap.size,0,none⟩) (l+m) (grownCap w (l+m) old el)) g0 e (l+m) (olds++news) w.heap.size:=by
 have uz:=grownCap_ge w (l+m) old el
 have sR:grownCap w (l+m) old el≤maxLen:=grownCap_le_maxLen w _ old el hm
 have lP:(w.drew.alloc (.cells (olds.toArray++news.toArray++Builtin.zeroCells z.cells (grownCap w (l+m) old el-(l+m))) el)).heap[w.heap.size]?=some (.cells (olds.toArray++news.toArray++Builtin.zeroCells z.cells (grownCap w (l+m) old el-(l+m))) el (0,0)):=heap_alloc_new w.drew _
 have dq:(olds.toArray++news.toArray++Builtin.zeroCells z.cells (grownCap w (l+m) old el-(l+m))).size=e*grownCap w (l+m) old el:=by
  simp only [Array.size_append,List.size_toArray,tc z e _ hz,Tf,KB]
  rw [←Nat.add_mul,←Nat.add_mul,Nat.mul_comm]
  congr 1;omega
 have hlen:(olds++news).length=e*(l+m):=by rw [List.length_append,Tf,KB,←Nat.add_mul,Nat.mul_comm]
 refine ⟨⟨_,rfl,uz,sR,by unfold aV;rw [lP];exact dq⟩,⟨_,_,_,lP,by simp,by rw [dq,hlen];exact Nat.mul_le_mul_left _ uz,?_⟩,hlen,rfl,rfl,rfl,by simp,fun b hb _=>Below.heap_alloc w.drew _ b hb,.inr ⟨rfl,by simp⟩⟩
 simp only [Array.toList_append,List.append_assoc]
 rw [←List.append_assoc]
 exact List.take_left
theorem Bk (A B:List Value) (C:Array Value):A.toArray++(B.toArray++C)=(A++B).toArray++C:=by
 apply Array.ext'
 simp
theorem xr {e l m bytes q:Nat} (he:0<e) (hq:q=e*(l+m)) (hb:q*bytes≤e*140737488355328):(l+m)*bytes≤140737488355328:=by
 rw [hq,Nat.mul_assoc] at hb
 exact Nat.le_of_mul_le_mul_left hb he
theorem tY {l m bytes:Nat} (xN:0<bytes) (hb:(l+m)*bytes≤140737488355328):l+m≤maxLen∧((l+m:Nat):Int)≤9223372036854775807:=by
 have:l+m≤(l+m)*bytes:=Nat.le_mul_of_pos_right _ xN
 unfold maxLen;omega
theorem GO {t xt ty el:TypeId} {i:TypeInfo} {z xv:Value} {m:Nat} {news:List Value} (ht:P.underlying t=some (.slice el)) (hi:P.info? el=some i) (hz:i.zero=some z) (uo:z.cells.size=i.size) (xN:0<i.bytes)
  (gu:nH P w xt i.size xv m news) (hb:m*i.bytes≤140737488355328) :
  (m=0∧(Builtin.append_ #[t,xt] ty #[.slice none 0 0,xv]).run P w= .ok (.slice none 0 0) w)∨ ∃v' w',(Builtin.append_ #[t,xt] ty #[.slice none 0 0,xv]).run P w= .ok v' w'∧Jw w w' v' none i.size m news w.heap.size:=by
 have hf:=gu.cells w.drew rfl
 by_cases h0:m=0
 ·left
  refine ⟨h0,?_⟩
  have LJ:=gu.cells w rfl
  have hn:news= []:=List.length_eq_zero_iff.1 (by rw [gu.hl,h0];simp)
  subst h0;subst hn
  rcases gu.ty with ⟨e2,hu⟩|hu<;>simp [Builtin.append_,run_underlying ht,run_underlying hu,sizeOf,typeInfo,hi,gu.len,LJ]
 ·right
  obtain ⟨Fj,H3⟩:=tY (l:=0) xN (by rw [Nat.zero_add];exact hb)
  rw [Nat.zero_add] at Fj
  have PN:¬(281474976710656<Builtin.nextslicecap m 0*i.bytes):=by rw [nextslicecap_zero aj];omega
  have PM:¬(9223372036854775807<(m:Int)):=by simp at H3;omega
  have hA:=rA (w:=w) (el:=el) (old:=0) (olds:=[]) (news:=news) (l:=0) none uo (by simp) gu.hl (by rw [Nat.zero_add];exact Fj)
  simp only [Nat.zero_add,List.nil_append] at hA
  refine ⟨_,_,?_,hA⟩
  rcases gu.ty with ⟨e2,hu⟩|hu<;>simp [Builtin.append_,run_underlying ht,run_underlying hu,sizeOf,typeInfo,zeroValue,hi,hz,gu.len,hf,h0,PN,PM,Question.forced,run_firstCells_none,newRow,grownCap]
theorem GN {t xt ty el:TypeId} {i:TypeInfo} {z xv:Value} {m:Nat} {news:List Value} (ht:P.underlying t=some (.slice el)) (hi:P.info? el=some i) (hz:i.zero=some z) (uo:z.cells.size=i.size) (xN:0<i.bytes)
  (gu:nH P w xt i.size xv m news) {g l c:Nat} {cur:Array Value} {te:TypeId} {fr:Nat×Nat} (hg:w.heap[g]?=some (.cells cur te fr)) (gH:∀j,j<cur.size-> ¬(fr.1≤j∧j<fr.2)) (dq:cur.size=i.size*c) (Fk:l≤c) (sR:c≤maxLen) (hb:(l+m)*i.bytes≤140737488355328) :
  ∃v' w' g',(Builtin.append_ #[t,xt] ty #[.slice (some ⟨g,0,none⟩) l c,xv]).run P w= .ok v' w'∧Jw w w' v' (some g) i.size (l+m) (cur.toList.take (l*i.size)++news) g':=by
 have MK:g<w.heap.size:=(Array.getElem?_eq_some_iff.1 hg).1
 have gC:cur.toList.length=cur.size:=rfl
 have hle:l*i.size≤cur.size:=by rw [dq,Nat.mul_comm];exact Nat.mul_le_mul_left _ Fk
 have HZ:(cur.toList.take (l*i.size)).length=l*i.size:=by rw [List.length_take];omega
 by_cases mH:l+m≤c
 ·have LJ:=gu.cells w rfl
  have mv:l*i.size+news.length≤cur.size:=by rw [gu.hl,←Nat.add_mul,dq,Nat.mul_comm];exact Nat.mul_le_mul_left _ mH
  have dL:=cW P g te fr cur.size gH (l*i.size) news 0 cur w hg aj rfl gu.one
  simp only [Nat.add_zero] at dL
  obtain ⟨f1,f2,f3⟩:=pE (cur':=(cur.toList.take (l*i.size)++news++cur.toList.drop (l*i.size+news.length)).toArray) hg
  have Fg:(cur.toList.take (l*i.size)++news++cur.toList.drop (l*i.size+news.length)).toArray.size=cur.size:=by
   simp only [List.size_toArray];rw [oL _ _ _ aj];rfl
  have hlen:(cur.toList.take (l*i.size)++news).length=i.size*(l+m):=by rw [List.length_append,HZ,gu.hl,←Nat.add_mul,Nat.mul_comm]
  refine ⟨.slice (some ⟨g,0,none⟩) (l+m) c,_,g,?_,⟨c,rfl,mH,sR,by unfold aV;rw [f1];simp only;rw [Fg,dq]⟩,⟨_,te,fr,f1,fun j hj=>gH j aj,by rw [Fg,hlen,dq];exact Nat.mul_le_mul_left _ mH,by simp only;exact List.take_left⟩,hlen,rfl,rfl,rfl,by rw [f2];exact Nat.le_refl _,fun b hb cT=>f3 b fun e=>cT (by rw [e]),.inl ⟨rfl,MK⟩⟩
  rcases gu.ty with ⟨e2,hu⟩|hu<;>simp [Builtin.append_,run_underlying ht,run_underlying hu,sizeOf,typeInfo,hi,gu.len,mH,LJ,eZ,dL]
 ·obtain ⟨Fj,H3⟩:=tY xN hb
  have PN:¬(281474976710656<Builtin.nextslicecap (l+m) c*i.bytes):=by have:=growslice_fits (need:=l+m) (old:=c) aj hb;omega
  have PM:¬(9223372036854775807<((l:Int)+(m:Int))):=aj
  have hA:=rA (w:=w) (el:=el) (old:=c) (some g) uo HZ gu.hl Fj
  have hf:=gu.cells w.drew rfl
  have Ib:=run_firstCells_some (P:=P) w.drew i.size l ⟨g,0,none⟩ l c (cur.toList.take (l*i.size)) HZ (fun j u hu=>by
   rw [eZ]
   have:w.drew.cell? ⟨g,j,none⟩=w.cell? ⟨g,j,none⟩:=kn rfl
   rw [this,cell_of_row w g _ cur te fr hg]
   have:=bY _ _ _ _ hu
   simpa using this)
  refine ⟨_,_,w.heap.size,?_,hA⟩
  rcases gu.ty with ⟨e2,hu⟩|hu<;>simp [Builtin.append_,run_underlying ht,run_underlying hu,sizeOf,typeInfo,zeroValue,hi,hz,gu.len,mH,hf,Ib,PN,PM,Question.forced,newRow,grownCap]<;>rw [Bk]
theorem GQ {t xt ty el:TypeId} {i:TypeInfo} {z xv:Value} {m:Nat} {news:List Value} (ht:P.underlying t=some (.slice el)) (hi:P.info? el=some i) (hz:i.zero=some z) (uo:z.cells.size=i.size) (xN:0<i.bytes)
  (gu:nH P w xt i.size xv m news) {A:Option Addr} {l:Nat} {us:List Value} (yU:us.length=l*i.size) (hc:0<us.length-> ∃ad,A=some ad∧ ∀(j:Nat) u,us[j]?=some u->w.cell? (ad.add j)=some u) (LC:0<m) (hb:(l+m)*i.bytes≤140737488355328) :
  ∃v' w',(Builtin.append_ #[t,xt] ty #[.slice A l l,xv]).run P w= .ok v' w'∧Jw w w' v' none i.size (l+m) (us++news) w.heap.size:=by
 have mH:¬(l+m≤l):=aj
 obtain ⟨Fj,H3⟩:=tY xN hb
 have PN:¬(281474976710656<Builtin.nextslicecap (l+m) l*i.bytes):=by have:=growslice_fits (need:=l+m) (old:=l) aj hb;omega
 have PM:¬(9223372036854775807<((l:Int)+(m:Int))):=aj
 have hA:=rA (w:=w) (el:=el) (old:=l) none uo yU gu.hl Fj
 have hf:=gu.cells w.drew rfl
 have Ib:(Builtin.firstCells i.size l (.slice A l l)).run P w.drew= .ok us.toArray w.drew:=by
  by_cases h0:0<us.length
  ·obtain ⟨ad,rfl,dF⟩:=hc h0
   exact run_firstCells_some w.drew i.size l ad l l us yU (fun j u hu=>(kn (w:=w) (w':=w.drew) rfl).trans (dF j u hu))
  ·have hn:us= []:=List.length_eq_zero_iff.1 aj
   subst hn
   cases A with
   | none=>rw [run_firstCells_none]
   | some ad=>exact run_firstCells_some w.drew i.size l ad l l _ yU (fun j u hu=>by simp at hu)
 refine ⟨_,_,?_,hA⟩
 rcases gu.ty with ⟨e2,hu⟩|hu<;>simp [Builtin.append_,run_underlying ht,run_underlying hu,sizeOf,typeInfo,zeroValue,hi,hz,gu.len,mH,hf,Ib,PN,PM,Question.forced,newRow,grownCap]<;>rw [Bk]
end
section
variable {S0:bm} {w0 w w':World} {n:Nat} {s:AS} {a:Act} {φ:Nat->Option Nat}
theorem pS (id d:Nat) (h:look s.H d=none):look (cm id s).H d=none:=by
 unfold cm
 rw [cw,bH]
 split
 ·rfl
 ·rw [h];rfl
theorem aG.ve {O:List Nat} {g0:Option Nat} (h:aG S0 w0 n O s a w φ) (hO:O=match g0 with|some g=>[g]|none=>[]) (R8:∀g∈O,w0.heap.size≤g∨S0.X g) (M3:∀g∈O,g<w.heap.size) {d e N g':Nat} {v':Value} {cells:List Value} (PA:d<1000000000000) (hd:look s.H d=none) (hA:Jw w w' v' g0 e N cells g') {row:List AV} (hl:row.length=cells.length)
  (hc:∀(j:Nat) u x,cells[j]?=some u->row[j]?=some x->cA (aM S0 w φ O) w u x) :
  ∃ cz,aG S0 w0 n [] ⟨s.F,(d,⟨e,true,false,row⟩)::s.H⟩ a w' cz∧Den (az ((d,⟨e,true,false,row⟩)::s.H) cz) (aM S0 w' cz []) w' v' (.ref d):=by
 obtain ⟨c',hv,hN,sR,gC⟩:=hA.slice
 obtain ⟨cur,te,fr,hg,hf,hle,LA⟩:=hA.Le
 have hb:∀b,b<w.heap.size->b ∉ O->w'.heap[b]?=w.heap[b]?:=fun b hb hn=>hA.other b hb fun e=>hn (by rw [hO,←e];simp)
 have hF:∀b,aM S0 w φ O b->w'.heap[b]?=w.heap[b]?:=fun b h=>hb b h.1 h.2.1
 have rd:∀(S:Nat->Prop),(∀b,aM S0 w φ O b->S b)-> ∀(j:Nat) u x,cur[j]?=some u->row[j]?=some x->cA S w' u x:=by
  intro S hS j u x hu hx
  have hj:j<cells.length:=by have:=(List.getElem?_eq_some_iff.1 hx).1;omega
  have:cells[j]?=some u:=by
   rw [←LA,List.getElem?_take,if_pos hj];simpa using hu
  exact (hc j u x this hx).mono fun b hb=>⟨hS b hb,hF b hb⟩
 have fin:∀ cz,cz d=some g'->Den (az ((d,⟨e,true,false,row⟩)::s.H) cz) (aM S0 w' cz []) w' v' (.ref d):=by
  intro cz cp
  rw [hv]
  exact .ref d e row.length g' N c' (by rw [bq (r:=⟨e,true,false,row⟩) (by rw [aD,if_pos rfl]),cp]) (by rw [hl];exact hA.len) hN sR gC
 rcases hA.place with ⟨AA,dd⟩|⟨rfl,dd⟩
 ·rw [AA] at hO
  subst hO
  have h2:=h.vP R8 hA.os hA.tape hA.output hA.size hb
  have h3:=h2.wQ (id:=d) (r:=⟨e,true,false,row⟩) ⟨.inl PA,R8 g' (by simp)⟩ (by have:=hA.size;omega) (by simp) hd ⟨cur,te,fr,hg,hf,by simp only [hl];exact hle,fun h=>(by cases h),fun j u x hu hx=>by
   show cA _ _ _ _
   exact rd _ (fun b hb=>⟨by have:=hb.1;have:=hA.size;omega,hb.2⟩) j u x hu hx⟩
  exact ⟨_,h3,fin _ (by unfold fD;rw [if_pos rfl])⟩
 ·have h1:=h.await w.heap.size (Nat.le_refl _)
  have h2:=h1.vP (fun g hg=>by rcases List.mem_cons.1 hg with rfl|hg;exact .inl h.cV.size;exact R8 g hg) hA.os hA.tape hA.output hA.size (fun b JE hn=>hb b JE fun hm=>hn (by simp [hm]))
  have T3:w.heap.size ∉ O:=fun hm=>Nat.lt_irrefl _ (M3 _ hm)
  have h3:=h2.wQ (id:=d) (r:=⟨e,true,false,row⟩) ⟨.inl PA,.inl h.cV.size⟩ dd T3 hd ⟨cur,te,fr,hg,hf,by simp only [hl];exact hle,fun h=>(by cases h),fun j u x hu hx=>by
   show cA _ _ _ _
   exact rd _ (fun b hb=>⟨by have:=hb.1;omega,by simp only [List.mem_cons,not_or];exact ⟨by have:=hb.1;omega,hb.2.1⟩,hb.2.2⟩) j u x hu hx⟩
  cases AA:g0 with
  | none =>
   rw [AA] at hO;subst hO
   exact ⟨_,h3,fin _ (by unfold fD;rw [if_pos rfl])⟩
  | some g =>
   rw [AA] at hO;subst hO
   exact ⟨_,h3.uK,fin _ (by unfold fD;rw [if_pos rfl])⟩
end
def cH (row:List AV):Prop:=∀x∈row,ic x=true
theorem fQ (l:List UInt8):cH (ag l):=by
 intro x hx;simp only [ag,List.mem_map] at hx;obtain ⟨c,_,rfl⟩:=hx;rfl
theorem pL (l:List UInt64):cH (ah l):=by
 intro x hx;simp only [ah,List.mem_map] at hx;obtain ⟨c,_,rfl⟩:=hx;rfl
theorem Ae (l:List Int):cH (ax l):=by
 intro x hx;simp only [ax,List.mem_map] at hx;obtain ⟨c,_,rfl⟩:=hx;rfl
theorem dP:∀ {l:List AV},dR l=true->cH l
 | [],_=>by intro x hx;simp at hx
 | y::l,h=>by
  simp only [dR] at h
  split at h
  ·rename_i hy
   intro x hx
   rcases List.mem_cons.1 hx with rfl|hx
   ·exact hy
   ·exact dP h x hx
  ·cases h
def xp (h:Hint) (row:List AV):Option (List Prop):=match h.b with|true=>(match dR row with|true=>some []|false=>none)|false=>some [cH row]
theorem wi {h:Hint} {row:List AV} {C D:List Prop} (hp:xp h row=some C) (hC:bx (C++D)):cH row∧bx D:=by
 unfold xp at hp
 split at hp
 ·split at hp
  ·rename_i h1;cases hp;exact ⟨dP h1,hC⟩
  ·cases hp
 ·cases hp;exact hC
def qD (P:Program) (s:AS) (xt:TypeId) (z:Nat) (x:AV):Option (List AV) :=
 match P.underlying xt with
 | some (.slice _)=>(match tB s x with|some (e,row)=>(match Nat.beq e z with|true=>some row|false=>(match x with| .nil=>some []|_=>none))|none=>none)
 | some .string=>(match x,z with| .val (.string b),1=>some (ag b.data.toList)|_,_=>none)
 | _=>none
def qe (s:AS) (e:Nat):AV->Option (List AV×AS)
 | .nil=>some ([],s)
 | .ref id=>(match look s.H id with|some ⟨e',true,_,cells⟩=>(match Nat.beq e e' with|true=>some (cells,cm id s)|false=>none)|_=>none)
 | .pre id l=>(match look s.H id with|some ⟨e',true,_,cells⟩=>(match Nat.beq e e' with|true=>some (cells.take l,cm id s)|false=>none)|_=>none)
 | .pt e' row=>(match Nat.beq e e' with|true=>some (row,s)|false=>none)
 | _=>none
def Sl (x:AV) (row:List AV):List Prop:=match x with| .pt _ _=>[0<row.length]|_=>[]
def kL (P:Program) (n:Nat) (s:AS) (d t xt:Nat) (x y:AV) (h:Hint):Option (AS×List Prop) :=
 match P.underlying t with
 | some (.slice el)=>(match P.info? el with
  | some i=>(match i.zero,i.size,i.bytes with
   | some zero,z+1,b+1=>(match Nat.beq zero.cells.size (z+1),qe s (z+1) x,qD P s xt (z+1) y with
    | true,some (cells,s1),some row=>(match xp h row,gg n ⟨(cm d s1).F,(d,⟨z+1,true,false,(named h (cells++row)).1⟩)::(cm d s1).H⟩ (some d) (.ref d) with
     | some C,some s'=>some (s',(named h (cells++row)).2++(C++(((cells.length+row.length)*(b+1)≤(z+1)*140737488355328)::Sl x row)))
     | _,_=>none)
    | _,_,_=>none)
   | _,_,_=>none)
  | none=>none)
 | _=>none
section
variable {P:Program} {n:Nat} {s:AS} {o:Oper} {h:Hint} {q:AS×List Prop}
theorem DK {S:Nat->Prop} {w:World} {v:Value} {x:AV} (h:cA S w v x) (hp:ic x=true):v.oneCell'=true:=(eE (I:=fun _=>none) (.rep h) hp).2
theorem vT {S0:bm} {w0 w:World} {a:Act} {φ:Nat->Option Nat} (hs:aG S0 w0 n [] s a w φ) {xt:TypeId} {v:Value} {x:AV} (hx:Den (az s.H φ) (aM S0 w φ []) w v x) {z:Nat} {row:List AV} (he:qD P s xt z x=some row) (uv:cH row) :
  ∃m us,nH P w xt z v m us∧us.length=row.length∧ ∀(j:Nat) u x,us[j]?=some u->row[j]?=some x->cA (aM S0 w φ []) w u x:=by
 unfold qD at he
 split at he
 ·rename_i e2 hu
  split at he
  ·rename_i e ET gu
   split at he
   ·rename_i hb
    have hb:=Nat.eq_of_beq_eq_true hb
    cases he
    subst hb
    obtain ⟨A,m,c,us,rfl,h1,h2,h3,h4,h5⟩:=Md hs hx gu
    have ho:∀u∈us,u.oneCell'=true:=by
     intro u hu
     obtain ⟨j,hj⟩:=List.getElem?_of_mem hu
     have MG:j<row.length:=by have:=(List.getElem?_eq_some_iff.1 hj).1;omega
     exact DK (h4 j u _ hj (List.getElem?_eq_getElem MG)) (uv _ (List.getElem_mem MG))
    exact ⟨m,us,pD hu (by rw [h2,h1,Nat.mul_comm]) (fun h0=>h3 aj) ho,h2,h4⟩
   ·split at he
    ·cases he
     cases hx with|rep hx=>cases hx with|nil=>exact ⟨0,[],pD hu (by simp) (fun h=>by simp at h) (by simp),rfl,fun j u x hu=>by simp at hu⟩
    ·cases he
  ·cases he
 ·rename_i hu
  split at he
  ·rename_i b
   cases he
   have hv:=bJ hx
   subst hv
   refine ⟨b.size,sf b.data.toList,vk hu b,by rw [gf,aC],fun j u x hu hx=>?_⟩
   have hj:j<b.data.toList.length:=by have:=(List.getElem?_eq_some_iff.1 hu).1;rw [gf] at this;exact this
   rw [Nr _ _ hj] at hu
   injection hu with hu;subst hu
   have e2:(ag b.data.toList)[j]?=some (.val (.int .u8 (bv (b.data.toList.getD j 0)))):=by
    simp only [ag,List.getElem?_map,List.getElem?_eq_getElem hj,Option.map_some,List.getD_eq_getElem?_getD,Option.getD_some]
   rw [e2] at hx
   injection hx with hx;subst hx
   exact .val _
  ·cases he
 ·cases he
theorem IZ {S0:bm} {w0 w:World} {a:Act} {φ:Nat->Option Nat} (hs:aG S0 w0 n [] s a w φ) {v:Value} {x:AV} (hx:Den (az s.H φ) (aM S0 w φ []) w v x) {e:Nat} {cells:List AV} {s1:AS} (he:qe s e x=some (cells,s1)) :
  (v= .slice none 0 0∧cells= []∧ ∃ iG,aG S0 w0 n [] s1 a w iG∧ ∀b,aM S0 w φ [] b->aM S0 w iG [] b) ∨
  (∃(g l c:Nat) (iG:Nat->Option Nat),v= .slice (some ⟨g,0,none⟩) l c∧aG S0 w0 n [g] s1 a w iG∧(∀b,aM S0 w φ [] b->aM S0 w iG [g] b)∧l≤c∧c≤maxLen∧cells.length=e*l∧(w0.heap.size≤g∨S0.X g)∧g<w.heap.size ∧
   ∃cur te fr,w.heap[g]?=some (.cells cur te fr)∧(∀j,j<cur.size-> ¬(fr.1≤j∧j<fr.2))∧cur.size=e*c∧ ∀(j:Nat) u x,cur[j]?=some u->cells[j]?=some x->cA (aM S0 w φ []) w u x) ∨
  ∃(A:Option Addr) (l:Nat) (us:List Value),(∃e',x= .pt e' cells)∧v= .slice A l l∧s1=s∧us.length=cells.length∧cells.length=e*l∧(0<us.length-> ∃ad,A=some ad∧ ∀(j:Nat) u,us[j]?=some u->w.cell? (ad.add j)=some u) ∧
   ∀(j:Nat) u x,us[j]?=some u->cells[j]?=some x->cA (aM S0 w φ []) w u x:=by
 have own:∀(id g l c m:Nat) (e':Nat) (fu:Bool) (rc:List AV),look s.H id=some ⟨e',true,fu,rc⟩->az s.H φ id=some (e',m,some g)->e=e'->l≤c->c≤maxLen->aV w g=e'*c->cells.length=e*l->(∀(j:Nat) x,cells[j]?=some x->rc[j]?=some x)->s1=cm id s->v= .slice (some ⟨g,0,none⟩) l c ->
   ∃(g l c:Nat) (iG:Nat->Option Nat),v= .slice (some ⟨g,0,none⟩) l c∧aG S0 w0 n [g] s1 a w iG∧(∀b,aM S0 w φ [] b->aM S0 w iG [g] b)∧l≤c∧c≤maxLen∧cells.length=e*l∧(w0.heap.size≤g∨S0.X g)∧g<w.heap.size ∧
   ∃cur te fr,w.heap[g]?=some (.cells cur te fr)∧(∀j,j<cur.size-> ¬(fr.1≤j∧j<fr.2))∧cur.size=e*c∧ ∀(j:Nat) u x,cur[j]?=some u->cells[j]?=some x->cA (aM S0 w φ []) w u x:=by
  intro id g l c m e' fu rc hr hi RN Fk sR gC hlen Ce gS hv
  subst gS;subst RN
  obtain ⟨r',il,-,-,cp⟩:=aO hi
  obtain ⟨cur,te,fr,hg,hf,hle,hc⟩:=kv hs hr rfl cp
  refine ⟨g,l,c,erase φ id,hv,hs.js id [g] (by rw [cp]),fun b hb=>⟨hb.1,by simp;exact fun e=>hb.2.2.1 id (by rw [cp,e]),fun i hi=>?_,hb.2.2.2⟩,Fk,sR,hlen,(hs.cU id g cp).1.2,(hs.cU id g cp).2,cur,te,fr,hg,hf,?_,fun j u x hu hx=>hc j u x hu (Ce j x hx)⟩
  ·unfold erase at hi
   split at hi
   ·cases hi
   ·exact hb.2.2.1 i hi
  ·unfold aV at gC;rw [hg] at gC;exact gC
 have none_:∀id,φ id=none->s1=cm id s->v= .slice none 0 0->cells= []->v= .slice none 0 0∧cells= []∧ ∃ iG,aG S0 w0 n [] s1 a w iG∧ ∀b,aM S0 w φ [] b->aM S0 w iG [] b:=by
  intro id cp gS hv hc
  subst gS
  refine ⟨hv,hc,erase φ id,hs.js id [] (by rw [cp]),fun b hb=>⟨hb.1,by simp,fun i hi=>?_,hb.2.2.2⟩⟩
  unfold erase at hi
  split at hi
  ·cases hi
  ·exact hb.2.2.1 i hi
 cases hx with
 | rep hx =>
  cases hx with
  | nil=>cases he;exact .inl ⟨rfl,rfl,φ,hs,fun _ h=>h⟩
  | pt A k e' us row hl hn hm ha h =>
   simp only [qe] at he
   split at he
   ·rename_i hb
    have hb:=Nat.eq_of_beq_eq_true hb
    cases he
    exact .inr (.inr ⟨A,k,us,⟨e',rfl⟩,rfl,rfl,hl,by rw [hn,hb],fun h0=>by
     obtain ⟨ad,h1,-,h2⟩:=ha aj
     exact ⟨ad,h1,h2⟩,h⟩)
   ·cases he
  | _=>cases he
 | agg=>cases he
 | br=>cases he
 | dead=>cases he
 | addr=>cases he
 | jl=>cases he
 | ref id e' m g l c hi hm hc hx bZ =>
  obtain ⟨r,hr,h1,h2,cp⟩:=aO hi
  obtain ⟨re,rp,rf,rc⟩:=r
  simp only [qe,hr] at he
  split at he
  ·rename_i heq
   injection heq with heq;cases heq
   split at he
   ·rename_i hb
    have hb:=Nat.eq_of_beq_eq_true hb
    cases he
    simp only at h1 h2
    subst h1
    exact .inr (.inl (own id g l c m _ _ _ hr hi hb hc hx bZ (by rw [h2,hm,hb]) (fun _ _ h=>h) rfl rfl))
   ·cases he
  ·cases he
 | cC id e' hi =>
  obtain ⟨r,hr,h1,h2,cp⟩:=aO hi
  obtain ⟨re,rp,rf,rc⟩:=r
  simp only [qe,hr] at he
  split at he
  ·rename_i heq
   injection heq with heq;cases heq
   split at he
   ·cases he
    simp only at h2
    exact .inl (none_ id cp rfl rfl (List.length_eq_zero_iff.1 h2))
   ·cases he
  ·cases he
 | pre id k e' m g l c hi hn hm hc hx bZ =>
  obtain ⟨r,hr,h1,h2,cp⟩:=aO hi
  obtain ⟨re,rp,rf,rc⟩:=r
  simp only [qe,hr] at he
  split at he
  ·rename_i heq
   injection heq with heq;cases heq
   split at he
   ·rename_i hb
    have hb:=Nat.eq_of_beq_eq_true hb
    cases he
    simp only at h1 h2
    subst h1
    exact .inr (.inl (own id g l c m _ _ _ hr hi hb hc hx bZ (by rw [List.length_take,h2,hb,←hn];omega) (fun j x h=>bY _ _ _ _ h) rfl rfl))
   ·cases he
  ·cases he
 | dw id e' hi =>
  obtain ⟨r,hr,h1,h2,cp⟩:=aO hi
  obtain ⟨re,rp,rf,rc⟩:=r
  simp only [qe,hr] at he
  split at he
  ·rename_i heq
   injection heq with heq;cases heq
   split at he
   ·cases he
    exact .inl (none_ id cp rfl rfl (by simp))
   ·cases he
  ·cases he
theorem r7 {t xt d:Nat} {x y:Operand} (ho:o.op= .call ⟨.builtin .append,⟨[x,y]⟩,⟨[t,xt]⟩⟩) (hd:o.dst=some d) (hr:kL P n s d t xt (bp s x) (bp s y) h=some q):lZ P n s o q.1 q.2:=by
 intro hC S0 w0 a w Q ⟨φ,hs⟩
 unfold kL at hr
 split at hr
 ·rename_i el hu
  split at hr
  ·rename_i i hi
   split at hr
   ·rename_i zero z b hz dq xN
    split at hr
    ·rename_i cells s1 row uo lx gu
     split at hr
     ·rename_i C s' oG dZ
      injection hr with hr;subst hr
      obtain ⟨hn,Ek⟩:=gZ hC
      obtain ⟨Pf,mT,mI⟩:=wi oG Ek
      have uo:=Nat.eq_of_beq_eq_true uo
      replace dq:i.size=z+1:=dq
      replace xN:i.bytes=b+1:=xN
      obtain ⟨m,us,Fh,yU,b7⟩:=vT (P:=P) hs (hs.bp y) gu Pf
      have aN:row.length=(z+1)*m:=by rw [←yU,Fh.hl,Nat.mul_comm]
      rw [hn] at dZ
      have wp:∀v' w',(Builtin.append_ #[t,xt] o.type #[a.eval x,a.eval y]).run P w= .ok v' w'->iv S0 w0 n s' (a.put o.dst v') w'->o.wp P a w (fun a' w'=>iv S0 w0 n s' a' w') Q:=by
       intro v' w' ct f_
       refine cR (v:=v') (w':=w') ?_ f_
       unfold execOp
       simp [ho,resolve,invoke,builtin,ct]
      have zv:∀s1:AS,look (cm d s1).H d=none:=fun s1=>di d
      rcases IZ hs (hs.bp x) lx with ⟨hv,UO,iG,gS,hF⟩|⟨g,l,c,iG,hv,gS,hF,Fk,sR,gC,AA,N7,cur,te,fr,hg,hf,wE,hold⟩|⟨A,l,ol,⟨e',T1⟩,hv,Qi,F_,gC,Ve,hold⟩
      ·subst UO
       simp only [List.nil_append,List.length_nil,Nat.zero_add] at dZ mT
       have wA:m*i.bytes≤140737488355328:=by
        have:=xr (l:=0) (m:=m) aj (by rw [Nat.zero_add];exact aN) mT
        rw [Nat.zero_add] at this;rw [xN];exact this
       have mN:=gS.l9 d
       rcases GO (ty:=o.type) hu hi hz (by rw [uo,dq]) aj (by rw [dq];exact Fh) wA with ⟨hm,ct⟩|⟨v',w',ct,hA⟩
       ·have Uf:row= []:=List.length_eq_zero_iff.1 (by rw [aN,hm];simp)
        subst Uf
        refine wp (.slice none 0 0) w (by rw [hv];exact ct) ⟨erase iG d,?_⟩
        rw [hd]
        exact dO (mN.rB (id:=d) (r:=⟨z+1,true,false,[]⟩) (zv s1) rfl) (.cC d (z+1) (by rw [bq (r:=⟨z+1,true,false,[]⟩) (by rw [aD,if_pos rfl]),mN.only d (zv s1)];rfl)) dZ
       ·rw [dq] at hA
        obtain ⟨jW,h3,h4⟩:=mN.ve (g0:=none) rfl (by simp) (by simp) (iQ dZ) (zv s1) hA (row:=row) yU.symm (fun j u x hu hx=>(b7 j u x hu hx).mono fun b hb=>⟨⟨hb.1,by simp,fun i hi=>by
         unfold erase at hi
         split at hi
         ·cases hi
         ·exact (hF b hb).2.2.1 i hi,hb.2.2.2⟩,rfl⟩)
        refine wp _ _ (by rw [hv];exact ct) ⟨jW,?_⟩
        rw [hd]
        exact dO h3 h4 dZ
      ·have LA:(cur.toList.take (l*(z+1))).length=cells.length:=by
        have KL:cur.toList.length=cur.size:=rfl
        rw [List.length_take,gC,KL,wE,Nat.mul_comm]
        exact Nat.min_eq_left (Nat.mul_le_mul_left _ Fk)
       have wA:(l+m)*i.bytes≤140737488355328:=by
        rw [xN];exact xr aj (by rw [gC,aN,←Nat.mul_add]) mT
       have mN:aG S0 w0 n [g] (cm d s1) a w (erase iG d):=by
        cases OP:iG d with
        | none=>exact gS.js d [g] (by rw [OP])
        | some gd=>exact (gS.js d [gd,g] (by rw [OP])).uK
       obtain ⟨v',w',g',ct,hA⟩:=GN (ty:=o.type) hu hi hz (by rw [uo,dq]) aj (by rw [dq];exact Fh) hg hf (by rw [dq];exact wE) Fk sR wA
       rw [dq] at hA
       have Sb:∀b,aM S0 w φ [] b->aM S0 w (erase iG d) [g] b:=fun b hb=>⟨hb.1,(hF b hb).2.1,fun i hi=>by
        unfold erase at hi
        split at hi
        ·cases hi
        ·exact (hF b hb).2.2.1 i hi,hb.2.2.2⟩
       obtain ⟨jW,h3,h4⟩:=mN.ve (g0:=some g) rfl (by simpa using AA) (by simpa using N7) (iQ dZ) (zv s1) hA (row:=cells++row) (by rw [List.length_append,List.length_append,LA,yU]) (fun j u x hu hx=>by
        refine cA.mono (fun b hb=>⟨Sb b hb,rfl⟩) (?_:cA (aM S0 w φ []) w u x)
        by_cases hj:j<cells.length
        ·rw [List.getElem?_append_left aj] at hu
         rw [List.getElem?_append_left hj] at hx
         have:=bY _ _ _ _ hu
         exact hold j u x (by simpa using this) hx
        ·rw [List.getElem?_append_right aj] at hu
         rw [List.getElem?_append_right aj] at hx
         rw [LA] at hu
         exact b7 _ u x hu hx)
       refine wp _ _ (by rw [hv];exact ct) ⟨jW,?_⟩
       rw [hd]
       exact dO h3 h4 dZ
      ·subst Qi
       rw [T1] at mI
       have LC:0<m:=by
        have h0:0<row.length:=mI.1
        rw [aN] at h0
        exact Nat.pos_of_mul_pos_left h0
       have wA:(l+m)*i.bytes≤140737488355328:=by
        rw [xN];exact xr aj (by rw [gC,aN,←Nat.mul_add]) mT
       have mN:=hs.l9 d
       obtain ⟨v',w',ct,hA⟩:=GQ (ty:=o.type) hu hi hz (by rw [uo,dq]) aj (by rw [dq];exact Fh) (by rw [F_,gC,dq,Nat.mul_comm]) Ve LC wA
       rw [dq] at hA
       have Sb:∀b,aM S0 w φ [] b->aM S0 w (erase φ d) [] b:=fun b hb=>⟨hb.1,by simp,fun i hi=>by
        unfold erase at hi
        split at hi
        ·cases hi
        ·exact hb.2.2.1 i hi,hb.2.2.2⟩
       obtain ⟨jW,h3,h4⟩:=mN.ve (g0:=none) rfl (by simp) (by simp) (iQ dZ) (zv _) hA (row:=cells++row) (by rw [List.length_append,List.length_append,F_,yU]) (fun j u x hu hx=>by
        refine cA.mono (fun b hb=>⟨Sb b hb,rfl⟩) (?_:cA (aM S0 w φ []) w u x)
        by_cases hj:j<cells.length
        ·rw [List.getElem?_append_left aj] at hu
         rw [List.getElem?_append_left hj] at hx
         exact hold j u x hu hx
        ·rw [List.getElem?_append_right aj] at hu
         rw [List.getElem?_append_right aj] at hx
         rw [F_] at hu
         exact b7 _ u x hu hx)
       refine wp _ _ (by rw [hv];exact ct) ⟨jW,?_⟩
       rw [hd]
       exact dO h3 h4 dZ
     ·cases hr
    ·cases hr
   ·cases hr
  ·cases hr
 ·cases hr
def I9 (s:AS):AV->Option (Nat×Nat×Nat)
 | .ref id=>(match look s.H id with|some r=>some (id,0,r.cells.length)|none=>none)
 | .pre id l=>some (id,0,l)
 | .jl id o l=>some (id,o,l)
 | _=>none
def CN (P:Program) (n:Nat) (s:AS) (d:Option Nat) (t xt:Nat) (x y:AV) (h:Hint):Option (AS×List Prop) :=
 match P.underlying t with
 | some (.slice el)=>(match ea P el,I9 s x with
  | some (z+1),some (id,off,l)=>(match look s.H id,qD P s xt (z+1) y with
   | some ⟨e,true,fu,cells⟩,some row=>(match Nat.beq e (z+1),xp h row,gg n (EP s id ⟨e,true,fu,(named h (setCells cells off (row.take (cS h.k (z+1))))).1⟩) d (.val (.int .i64 h.k)) with
    | true,some C,some s'=>some (s',(named h (setCells cells off (row.take (cS h.k (z+1))))).2++(C++ [min row.length l=cS h.k (z+1),0<l]))
    | _,_,_=>none)
   | _,_=>none)
  | _,_=>none)
 | _=>none
theorem FG {t xt:Nat} {x y:Operand} (ho:o.op= .call ⟨.builtin .copy,⟨[x,y]⟩,⟨[t,xt]⟩⟩) (hr:CN P n s o.dst t xt (bp s x) (bp s y) h=some q):lZ P n s o q.1 q.2:=by
 intro hC S0 w0 a w Q ⟨φ,hs⟩
 unfold CN at hr
 split at hr
 ·rename_i el hu
  split at hr
  ·rename_i z id off l dq JB
   split at hr
   ·rename_i e fu cells row aN gu
    split at hr
    ·rename_i C s' he oG dZ
     injection hr with hr;subst hr
     have he:=Nat.eq_of_beq_eq_true he
     obtain ⟨hn,Ek⟩:=gZ hC
     obtain ⟨Pf,Ch,yW,-⟩:=wi oG Ek
     obtain ⟨m,us,Fh,yU,b7⟩:=vT (P:=P) hs (hs.bp y) gu Pf
     rw [bw] at Ch
     have F9:row.length=(z+1)*m:=by rw [←yU,Fh.hl,Nat.mul_comm]
     have hI:=bq (φ:=φ) aN
     have hx:=hs.bp x
     have lx:∃(g dl c:Nat),a.eval x= .slice (some ⟨g,off,none⟩) dl c∧φ id=some g∧l=(z+1)*dl∧off+l≤cells.length:=by
      generalize a.eval x=V at hx
      unfold I9 at JB
      split at JB
      ·rename_i oZ NM
       rw [NM] at hx
       split at JB
       ·rename_i r' il
        cases JB
        rw [aN] at il;injection il with il;subst il
        cases hx with
        | rep h=>cases h
        | ref _ e' m' g l' c hi hm hc hx bZ =>
         rw [hI] at hi;injection hi with hi;injection hi with h1 hi;injection hi with h2 h3
         simp only at h1 h2 ⊢
         exact ⟨g,l',c,rfl,h3,by rw [h2,hm,←h1,he],aj⟩
        | cC _ e' hi =>
         rw [hI] at hi;injection hi with hi;injection hi with h1 hi;injection hi with h2 h3
         simp only at h2 yW;omega
       ·cases JB
      ·rename_i oZ l' NM
       rw [NM] at hx
       cases JB
       cases hx with
       | rep h=>cases h
       | pre _ _ e' m' g l' c hi sr hm hc hx bZ =>
        rw [hI] at hi;injection hi with hi;injection hi with h1 hi;injection hi with h2 h3
        simp only at h1 h2 ⊢
        exact ⟨g,l',c,rfl,h3,by rw [sr,←h1,he],aj⟩
       | dw _ e' hi=>omega
      ·rename_i oZ o' l' NM
       rw [NM] at hx
       cases JB
       cases hx with
       | rep h=>cases h
       | jl _ _ _ e' m' l' c g A hi sr hm hc hx ha =>
        rw [hI] at hi;injection hi with hi;injection hi with h1 hi;injection hi with h2 h3
        obtain ⟨b,hb,rfl⟩:=ha yW
        simp only at h1 h2 ⊢
        exact ⟨b,l',c,rfl,by rw [h3,hb],by rw [sr,←h1,he],aj⟩
      ·cases JB
     obtain ⟨g,dl,c,hv,cp,hl,mv⟩:=lx
     obtain ⟨cur,te,fr,hg,hf,hle,hold⟩:=BN hs aN cp
     have Us:cells.length≤cur.size:=hle
     have Qr:min m dl=h.k:=by
      rw [F9,hl,Nat.mul_comm h.k,Nat.mul_min_mul_left] at Ch
      exact Nat.eq_of_mul_eq_mul_left aj Ch
     have iF:h.k*(z+1)≤l:=aj
     have VQ:h.k*(z+1)≤row.length:=aj
     have Au:(row.take (cS h.k (z+1))).length=h.k*(z+1):=by rw [bw,List.length_take];omega
     have SY:(us.take (h.k*(z+1))).length=h.k*(z+1):=by rw [List.length_take];omega
     have dF:(Builtin.firstCells (z+1) h.k (a.eval y)).run P w= .ok (us.take (h.k*(z+1))).toArray w:=Fh.part w h.k rfl aj
     have uv:∀u∈us.take (h.k*(z+1)),u.oneCell'=true:=fun u hu=>Fh.one u (List.mem_of_mem_take hu)
     have dL:=cW P g te fr cur.size hf off (us.take (h.k*(z+1))) 0 cur w hg (by rw [SY];omega) rfl uv
     simp only [Nat.add_zero] at dL
     have f_:=hs.written (off:=off) (l:=row.take (cS h.k (z+1))) (vs:=us.take (h.k*(z+1))) aN cp hg hle hold (by rw [Au,SY]) (by rw [Au];simp only;omega) hn (fun j u x hu hx=>by
      show cA _ _ _ _
      exact b7 j u x (bY _ _ _ _ hu) (bY _ _ _ _ hx))
     have Rf:(sizeOf el).run P w= .ok (z+1) w:=run_sizeOf dq
     refine cR (v:=.int .i64 h.k) (w':=w.setRow g (cur.toList.take off++us.take (h.k*(z+1))++cur.toList.drop (off+(us.take (h.k*(z+1))).length)).toArray) ?_ ⟨φ,dO f_ (.rep (.val _)) dZ⟩
     have Kz:Nat.min m dl=h.k:=Qr
     unfold execOp
     simp [ho,resolve,invoke,builtin,Builtin.copy_,run_underlying hu,hv,Fh.len,Kz,Rf,dF,dL,goInt]
    ·cases hr
   ·cases hr
  ·cases hr
 ·cases hr
end
inductive hY (S:Nat->Prop) (w:World):Value->AV->List Nat->Prop
 | rep {v:Value} {x:AV} (h:cA S w v x):hY S w v x []
 | nil (e:Nat):hY S w (.slice none 0 0) (.own e []) []
 | own (g l c e:Nat) (row:List AV) (cur:Array Value) (te:TypeId) (fr:Nat×Nat) (hg:w.heap[g]?=some (.cells cur te fr)) (hf:∀j,j<cur.size-> ¬(fr.1≤j∧j<fr.2)) (hl:row.length=e*l) (hc:l≤c) (hm:c≤maxLen) (hs:cur.size=e*c)
   (h:∀(j:Nat) u x,cur[j]?=some u->row[j]?=some x->cA S w u x):hY S w (.slice (some ⟨g,0,none⟩) l c) (.own e row) [g]
 | box (g:Nat) (row:List AV) (cur:Array Value) (te:TypeId) (fr:Nat×Nat) (hg:w.heap[g]?=some (.cells cur te fr)) (hf:∀j,j<cur.size-> ¬(fr.1≤j∧j<fr.2)) (hs:cur.size=row.length)
   (h:∀(j:Nat) u x,cur[j]?=some u->row[j]?=some x->cA S w u x):hY S w (.pointer (some ⟨g,0,none⟩)) (.box row) [g]
inductive kR (R:Value->AV->List Nat->Prop):List Value->List AV->List Nat->Prop
 | nil:kR R [] [] []
 | cons {v:Value} {x:AV} {vs:List Value} {xs:List AV} {O1 O2:List Nat} (h:R v x O1) (t:kR R vs xs O2):kR R (v::vs) (x::xs) (O1++O2)
def nJ (S:Nat->Prop) (w:World) (v:Value) (x:AV) (O:List Nat):Prop:=hY S w v x O∨ ∃vs cs,v= .agg (List.toArray vs)∧x= .agg cs∧kR (hY S w) vs cs O
def sF (S:Nat->Prop) (w:World) (v:Value) (x:AV) (O:List Nat):Prop:=nJ S w v x O∨ ∃vs cs,v= .tuple (List.toArray vs)∧x= .br cs∧kR (nJ S w) vs cs O
theorem kR.imp {R R':Value->AV->List Nat->Prop} (hR:∀v x O,R v x O->R' v x O) {vs:List Value} {xs:List AV} {O:List Nat} (h:kR R vs xs O):kR R' vs xs O:=by
 induction h with
 | nil=>exact .nil
 | cons h _ ih=>exact .cons (hR _ _ _ h) ih
section
variable {S S':Nat->Prop} {w:World}
theorem hY.mono (hS:∀b,S b->S' b) {v:Value} {x:AV} {O:List Nat} (h:hY S w v x O):hY S' w v x O:=by
 cases h with
 | rep h=>exact .rep (h.mono fun b hb=>⟨hS b hb,rfl⟩)
 | nil e=>exact .nil e
 | own g l c e row cur te fr hg hf hl hc hm hs h=>exact .own g l c e row cur te fr hg hf hl hc hm hs fun j u x hu hx=>(h j u x hu hx).mono fun b hb=>⟨hS b hb,rfl⟩
 | box g row cur te fr hg hf hs h=>exact .box g row cur te fr hg hf hs fun j u x hu hx=>(h j u x hu hx).mono fun b hb=>⟨hS b hb,rfl⟩
theorem nJ.mono (hS:∀b,S b->S' b) {v:Value} {x:AV} {O:List Nat} (h:nJ S w v x O):nJ S' w v x O:=by
 rcases h with h|⟨vs,cs,h1,h2,h3⟩
 ·exact .inl (h.mono hS)
 ·exact .inr ⟨vs,cs,h1,h2,h3.imp fun _ _ _ h=>h.mono hS⟩
theorem sF.mono (hS:∀b,S b->S' b) {v:Value} {x:AV} {O:List Nat} (h:sF S w v x O):sF S' w v x O:=by
 rcases h with h|⟨vs,cs,h1,h2,h3⟩
 ·exact .inl (h.mono hS)
 ·exact .inr ⟨vs,cs,h1,h2,h3.imp fun _ _ _ h=>h.mono hS⟩
end
def bK (P:Program) (f:FuncId) (args:List AV) (r:AV):Prop :=
 ∀(w:World) (S:Nat->Prop) (vs:List Value),Good w->(∀b,S b->b<w.heap.size)->vs.length=args.length->(∀(j:Nat) v x,vs[j]?=some v->args[j]?=some x->cA S w v x) ->
  Calls P f vs.toArray w fun e w'=>∃v O,e= .returned v∧Below w.heap.size w w'∧O.Nodup∧(∀g∈O,w.heap.size≤g∧g<w'.heap.size)∧sF (fun b=>S b∨(w.heap.size≤b∧b<w'.heap.size∧b ∉ O)) w' v r O
def ld (row:List AV):Prop:=∀x∈row,∃v,x= .val v
theorem aQ (l:List UInt8):ld (ag l):=by
 intro x hx;simp only [ag,List.mem_map] at hx;obtain ⟨c,_,rfl⟩:=hx;exact ⟨_,rfl⟩
theorem gm (l:List UInt64):ld (ah l):=by
 intro x hx;simp only [ah,List.mem_map] at hx;obtain ⟨c,_,rfl⟩:=hx;exact ⟨_,rfl⟩
theorem vN (l:List Int):ld (ax l):=by
 intro x hx;simp only [ax,List.mem_map] at hx;obtain ⟨c,_,rfl⟩:=hx;exact ⟨_,rfl⟩
def wJ:AV->Option (List Prop)
 | .val _=>some []
 | .nil=>some []
 | .own _ row=>some [ld row]
 | .box row=>some [ld row]
 | _=>none
def p9 (f:AV->Option (List Prop)):List AV->Option (List Prop)
 | []=>some []
 | x::l=>match f x,p9 f l with|some a,some b=>some (a++b)|_,_=>none
def uM:AV->Option (List Prop)
 | .agg cs=>p9 wJ cs
 | x=>wJ x
def flat:AV->Option (List Prop)
 | .br cs=>p9 uM cs
 | x=>uM x
theorem bQ {C D:List Prop}:bx (C++D)↔bx C∧bx D:=by
 induction C with
 | nil=>simp [bx]
 | cons p C ih=>simp only [List.cons_append,bx,ih,and_assoc]
section
variable {S S':Nat->Prop} {w:World}
theorem uN {v:Value} {x:AV} {O:List Nat} {C:List Prop} (hf:wJ x=some C) (hC:bx C) (h:hY S w v x O):hY S' w v x O:=by
 cases h with
 | rep h=>cases h with
  | val v=>exact .rep (.val v)
  | nil=>exact .rep .nil
  | _=>cases hf
 | nil e=>exact .nil e
 | own g l c e row cur te fr hg gH hl hc hm hs h =>
  refine .own g l c e row cur te fr hg gH hl hc hm hs fun j u x hu hx=>?_
  have hv:ld row:=by injection hf with hf;subst hf;exact hC.1
  obtain ⟨v',rfl⟩:=hv x (List.mem_of_getElem? hx)
  have:=h j u _ hu hx
  cases this
  exact .val _
 | box g row cur te fr hg gH hs h =>
  refine .box g row cur te fr hg gH hs fun j u x hu hx=>?_
  have hv:ld row:=by injection hf with hf;subst hf;exact hC.1
  obtain ⟨v',rfl⟩:=hv x (List.mem_of_getElem? hx)
  have:=h j u _ hu hx
  cases this
  exact .val _
theorem A2 {R R':Value->AV->List Nat->Prop} {f:AV->Option (List Prop)} (hR:∀v x O C,f x=some C->bx C->R v x O->R' v x O) {vs:List Value} {xs:List AV} {O:List Nat} (h:kR R vs xs O):∀C,p9 f xs=some C->bx C->kR R' vs xs O:=by
 induction h with
 | nil=>intro _ _ _;exact .nil
 | cons h _ ih =>
  intro C hf hC
  simp only [p9] at hf
  split at hf
  ·rename_i a b ha hb
   cases hf
   obtain ⟨h1,h2⟩:=bQ.1 hC
   exact .cons (hR _ _ _ _ ha h1 h) (ih b hb h2)
  ·cases hf
theorem uL {v:Value} {x:AV} {O:List Nat} {C:List Prop} (hf:uM x=some C) (hC:bx C) (h:nJ S w v x O):nJ S' w v x O:=by
 rcases h with h|⟨vs,cs,h1,rfl,h3⟩
 ·by_cases hx:∃cs,x= .agg cs
  ·obtain ⟨cs,rfl⟩:=hx
   cases h with
   | rep h=>cases h with
    | agg vs _ hl h =>
     right
     refine ⟨vs,cs,rfl,rfl,?_⟩
     have key:∀(vs:List Value) (cs:List AV) (C:List Prop),vs.length=cs.length->(∀(j:Nat) v c,vs[j]?=some v->cs[j]?=some c->cA S w v c)->p9 wJ cs=some C->bx C->kR (hY S' w) vs cs []:=by
      intro vs cs
      induction cs generalizing vs with
      | nil=>intro C hl _ _ _;cases vs with|nil=>exact .nil|cons=>simp at hl
      | cons c cs ih =>
       intro C hl hr hf hC
       cases vs with
       | nil=>simp at hl
       | cons v vs =>
        simp only [p9] at hf
        split at hf
        ·rename_i a b ha hb
         cases hf
         obtain ⟨h1,h2⟩:=bQ.1 hC
         exact kR.cons (O1:=[]) (O2:=[]) (uN ha h1 (.rep (hr 0 v c rfl rfl))) (ih vs b (by simpa using hl) (fun j v c hv hc=>hr (j+1) v c (by simpa using hv) (by simpa using hc)) hb h2)
        ·cases hf
     exact key vs cs C hl h hf hC
  ·have:uM x=wJ x:=by
    cases x with
    | agg cs=>exact absurd ⟨cs,rfl⟩ hx
    | _=>rfl
   rw [this] at hf
   exact .inl (uN hf hC h)
 ·exact .inr ⟨vs,cs,h1,rfl,A2 (f:=wJ) (R':=hY S' w) (fun _ _ _ _ a b c=>uN a b c) h3 C hf hC⟩
theorem sU {v:Value} {x:AV} {O:List Nat} {C:List Prop} (hf:flat x=some C) (hC:bx C) (h:sF S w v x O):sF S' w v x O:=by
 rcases h with h|⟨vs,cs,h1,rfl,h3⟩
 ·by_cases hx:∃cs,x= .br cs
  ·obtain ⟨cs,rfl⟩:=hx
   rcases h with h|⟨vs,JJ,h1,h2,h3⟩
   ·cases h with
    | rep h=>cases h with
     | br vs _ hl h =>
      right
      refine ⟨vs,cs,rfl,rfl,?_⟩
      have key:∀(vs:List Value) (cs:List AV) (C:List Prop),vs.length=cs.length->(∀(j:Nat) v c,vs[j]?=some v->cs[j]?=some c->cA S w v c)->p9 uM cs=some C->bx C->kR (nJ S' w) vs cs []:=by
       intro vs cs
       induction cs generalizing vs with
       | nil=>intro C hl _ _ _;cases vs with|nil=>exact .nil|cons=>simp at hl
       | cons c cs ih =>
        intro C hl hr hf hC
        cases vs with
        | nil=>simp at hl
        | cons v vs =>
         simp only [p9] at hf
         split at hf
         ·rename_i a b ha hb
          cases hf
          obtain ⟨h1,h2⟩:=bQ.1 hC
          exact kR.cons (O1:=[]) (O2:=[]) (uL ha h1 (.inl (.rep (hr 0 v c rfl rfl)))) (ih vs b (by simpa using hl) (fun j v c hv hc=>hr (j+1) v c (by simpa using hv) (by simpa using hc)) hb h2)
         ·cases hf
      exact key vs cs C hl h hf hC
   ·cases h2
  ·have:flat x=uM x:=by
    cases x with
    | br cs=>exact absurd ⟨cs,rfl⟩ hx
    | _=>rfl
   rw [this] at hf
   exact .inl (uL hf hC h)
 ·exact .inr ⟨vs,cs,h1,rfl,A2 (f:=uM) (R':=nJ S' w) (fun _ _ _ _ a b c=>uL a b c) h3 C hf hC⟩
end
def jk (id:Nat):AV->AV×List (Nat×Row)
 | .own e row=>(.ref id,[(id,⟨e,true,false,row⟩)])
 | .box row=>(.addr id 0,[(id,⟨1,false,true,row⟩)])
 | x=>(x,[])
def gR (f:Nat->AV->AV×List (Nat×Row)) (step:Nat):Nat->List AV->List AV×List (Nat×Row)
 | _,[]=>([],[])
 | id,x::l=>((f id x).1::(gR f step (id+step) l).1,(gR f step (id+step) l).2++(f id x).2)
def wS (id:Nat):AV->AV×List (Nat×Row)
 | .agg cs=>(.agg (gR jk 100000 (id+100000) cs).1,(gR jk 100000 (id+100000) cs).2)
 | x=>jk id x
def bL (d:Nat):AV->AV×List (Nat×Row)
 | .br cs=>(.br (gR wS 1000 (d+1000) cs).1,(gR wS 1000 (d+1000) cs).2)
 | x=>wS d x
section
variable {S0:bm} {w0 w:World} {n:Nat} {a:Act}
def Ext (S0:bm) (w:World) (s s':AS) (φ cz:Nat->Option Nat) (O O':List Nat):Prop :=
 (∀i y,az s.H φ i=some y->az s'.H cz i=some y)∧(∀b,aM S0 w φ O b->aM S0 w cz O' b)
theorem Ext.den {s s':AS} {φ cz:Nat->Option Nat} {O O':List Nat} (h:Ext S0 w s s' φ cz O O') {v:Value} {x:AV} (hd:Den (az s.H φ) (aM S0 w φ O) w v x):Den (az s'.H cz) (aM S0 w cz O') w v x :=
 hd.mono h.1 (fun b hb=>⟨h.2 b hb,rfl⟩) (fun _ _ _ _ _=>rfl)
theorem Ext.trans {s s1 s2:AS} {φ iG jW:Nat->Option Nat} {O O1 O2:List Nat} (h:Ext S0 w s s1 φ iG O O1) (k:Ext S0 w s1 s2 iG jW O1 O2):Ext S0 w s s2 φ jW O O2 :=
 ⟨fun i y hi=>k.1 i y (h.1 i y hi),fun b hb=>k.2 b (h.2 b hb)⟩
def EB (S0:bm) (w0 w:World) (n:Nat) (a:Act) (R:(Nat->Prop)->Value->AV->List Nat->Prop) (f:Nat->AV->AV×List (Nat×Row)):Prop :=
 ∀(s:AS) (φ:Nat->Option Nat) (O1 O:List Nat) (v:Value) (x:AV) (id:Nat),aG S0 w0 n (O1++O) s a w φ->R (aM S0 w φ (O1++O)) v x O1->(O1++O).Nodup->(∀g∈O1,(w0.heap.size≤g∨S0.X g)∧g<w.heap.size)->(∀i∈(f id x).2.map (·.1),look s.H i=none∧i<1000000000000)->((f id x).2.map (·.1)).Nodup ->
  ∃ cz,aG S0 w0 n O ⟨s.F,(f id x).2++s.H⟩ a w cz∧Den (az ((f id x).2++s.H) cz) (aM S0 w cz O) w v (f id x).1∧Ext S0 w s ⟨s.F,(f id x).2++s.H⟩ φ cz (O1++O) O
theorem l7:EB S0 w0 w n a (fun S=>hY S w) jk:=by
 intro s φ O1 O v x id h hg im mo gH _
 cases hg with
 | rep b7 =>
  have hx:jk id x=(x,[]):=by
   cases b7<;>rfl
  rw [hx]
  exact ⟨φ,h,.rep b7,fun _ _ h=>h,fun _ h=>h⟩
 | nil e =>
  have hid:look s.H id=none:=(gH id (by simp [jk])).1
  have h1:=h.rB (id:=id) (r:=⟨e,true,false,[]⟩) hid rfl
  refine ⟨φ,h1,.cC id e ?_,fun i y hi=>?_,fun _ h=>h⟩
  ·show az ((id,⟨e,true,false,[]⟩)::s.H) φ id=_
   rw [bq (r:=⟨e,true,false,[]⟩) (by rw [aD,if_pos rfl]),h.only id hid];rfl
  ·obtain ⟨e',m,b⟩:=y
   obtain ⟨q,hl,h1,h2,h3⟩:=aO hi
   show az ((id,_)::s.H) φ i=_
   have cT:id≠i:=fun e=>by subst e;rw [hid] at hl;cases hl
   rw [bq (r:=q) (by rw [aD,if_neg cT,hl]),h1,h2,h3]
 | own g l c e row cur te fr hg hf hl hc hm hs b7 =>
  have hid:look s.H id=none:=(gH id (by simp [jk])).1
  have Pt:g ∉ O:=by
   have:=im
   simp only [List.cons_append,List.nil_append,List.nodup_cons] at this
   exact this.1
  have h1:=aG.wQ (g:=g) (id:=id) (r:=⟨e,true,false,row⟩) h ⟨.inl (gH id (by simp [jk])).2,(mo g (by simp)).1⟩ (mo g (by simp)).2 Pt hid ⟨cur,te,fr,hg,hf,by simp only [hl,hs];exact Nat.mul_le_mul_left _ hc,fun h=>(by cases h),fun j u x hu hx=>by show cA _ _ _ _;exact b7 j u x hu hx⟩
  refine ⟨_,h1,.ref id e row.length g l c ?_ hl hc hm (by unfold aV;rw [hg];exact hs),fun i y hi=>?_,fun b hb=>(q_ (h.only id hid) b).1 hb⟩
  ·show az ((id,⟨e,true,false,row⟩)::s.H) _ id=_
   rw [bq (r:=⟨e,true,false,row⟩) (by rw [aD,if_pos rfl])]
   unfold fD;rw [if_pos rfl]
  ·obtain ⟨e',m,b⟩:=y
   obtain ⟨q,hl,h1,h2,h3⟩:=aO hi
   show az ((id,_)::s.H) _ i=_
   have cT:id≠i:=fun e=>by subst e;rw [hid] at hl;cases hl
   rw [bq (r:=q) (by rw [aD,if_neg cT,hl]),h1,h2]
   unfold fD;rw [if_neg (Ne.symm cT),h3]
 | box g row cur te fr hg hf hs b7 =>
  have hid:look s.H id=none:=(gH id (by simp [jk])).1
  have Pt:g ∉ O:=by
   have:=im
   simp only [List.cons_append,List.nil_append,List.nodup_cons] at this
   exact this.1
  have h1:=aG.wQ (g:=g) (id:=id) (r:=⟨1,false,true,row⟩) h ⟨.inl (gH id (by simp [jk])).2,(mo g (by simp)).1⟩ (mo g (by simp)).2 Pt hid ⟨cur,te,fr,hg,hf,by simp only [hs];exact Nat.le_refl _,fun _=>hs,fun j u x hu hx=>by show Den _ _ _ _ _;exact .rep (b7 j u x hu hx)⟩
  refine ⟨_,h1,.addr id 0 1 row.length g ?_,fun i y hi=>?_,fun b hb=>(q_ (h.only id hid) b).1 hb⟩
  ·show az ((id,⟨1,false,true,row⟩)::s.H) _ id=_
   rw [bq (r:=⟨1,false,true,row⟩) (by rw [aD,if_pos rfl])]
   unfold fD;rw [if_pos rfl]
  ·obtain ⟨e',m,b⟩:=y
   obtain ⟨q,hl,h1,h2,h3⟩:=aO hi
   show az ((id,_)::s.H) _ i=_
   have cT:id≠i:=fun e=>by subst e;rw [hid] at hl;cases hl
   rw [bq (r:=q) (by rw [aD,if_neg cT,hl]),h1,h2]
   unfold fD;rw [if_neg (Ne.symm cT),h3]
theorem kq {R:(Nat->Prop)->Value->AV->List Nat->Prop} (Tv:∀S S' v x O,(∀b,S b->S' b)->R S v x O->R S' v x O) {f:Nat->AV->AV×List (Nat×Row)} (hf:EB S0 w0 w n a R f) (step:Nat):∀(xs:List AV) (vs:List Value) (s:AS) (φ:Nat->Option Nat) (O1 O:List Nat) (id:Nat),aG S0 w0 n (O1++O) s a w φ->kR (R (aM S0 w φ (O1++O))) vs xs O1->(O1++O).Nodup->(∀g∈O1,(w0.heap.size≤g∨S0.X g)∧g<w.heap.size)->(∀i∈(gR f step id xs).2.map (·.1),look s.H i=none∧i<1000000000000)->((gR f step id xs).2.map (·.1)).Nodup ->
  ∃ cz,aG S0 w0 n O ⟨s.F,(gR f step id xs).2++s.H⟩ a w cz∧vs.length=(gR f step id xs).1.length∧(∀(j:Nat) v c,vs[j]?=some v->(gR f step id xs).1[j]?=some c->Den (az ((gR f step id xs).2++s.H) cz) (aM S0 w cz O) w v c)∧Ext S0 w s ⟨s.F,(gR f step id xs).2++s.H⟩ φ cz (O1++O) O
 | [],vs,s,φ,O1,O,id,h,hg,im,mo,gH,hn=>by
  cases hg
  exact ⟨φ,h,rfl,fun j v c hv=>by simp at hv,fun _ _ h=>h,fun _ h=>h⟩
 | x::xs,vs,s,φ,O1,O,id,h,hg,im,mo,gH,hn=>by
  cases hg with
  | cons hx ht =>
   rename_i v vs Oa Ob
   rw [List.append_assoc] at h im hx ht
   simp only [gR,List.map_append] at gH hn ⊢
   obtain ⟨iG,h1,Gd,LK⟩:=hf s φ Oa (Ob++O) v x id h hx im (fun g hg=>mo g (by simp [hg])) (fun i hi=>gH i (by simp [hi])) (List.nodup_append.1 hn).2.1
   have Rs:(Ob++O).Nodup:=(List.nodup_append.1 im).2.1
   obtain ⟨jW,h2,Ci,yX,KI⟩:=kq Tv hf step xs vs ⟨s.F,(f id x).2++s.H⟩ iG Ob O (id+step) h1 (ht.imp fun v x O hR=>Tv _ _ v x O (fun b hb=>LK.2 b hb) hR) Rs (fun g hg=>mo g (by simp [hg])) (fun i hi=>⟨by
    rw [bM]
    have h3:look (f id x).2 i=none:=by
     have gb:i ∉ (f id x).2.map (·.1):=fun hm=>(List.nodup_append.1 hn).2.2 i hi i hm rfl
     have key:∀(l:List (Nat×Row)),i ∉ l.map (·.1)->look l i=none:=by
      intro l
      induction l with
      | nil=>intro _;rfl
      | cons p l ih =>
       intro hm
       obtain ⟨k,r⟩:=p
       simp only [List.map_cons,List.mem_cons,not_or] at hm
       rw [aD,if_neg (Ne.symm hm.1),ih hm.2]
     exact key _ gb
    rw [h3,(gH i (by simp [hi])).1];rfl,(gH i (by simp [hi])).2⟩) (List.nodup_append.1 hn).1
   have e1:(gR f step (id+step) xs).2++((f id x).2++s.H)=((gR f step (id+step) xs).2++(f id x).2)++s.H:=by rw [List.append_assoc]
   rw [e1] at h2 yX KI
   rw [List.append_assoc Oa Ob O]
   refine ⟨jW,h2,by simp [Ci],fun j v' c hv hc=>?_,LK.trans KI⟩
   cases j with
   | zero=>simp at hv hc;subst hv;subst hc;exact KI.den Gd
   | succ j=>exact yX j v' c (by simpa using hv) (by simpa using hc)
theorem qy:EB S0 w0 w n a (fun S=>nJ S w) wS:=by
 intro s φ O1 O v x id h hg im mo gH hn
 rcases hg with hg|⟨vs,cs,rfl,rfl,hL⟩
 ·by_cases hx:∃cs,x= .agg cs
  ·obtain ⟨cs,rfl⟩:=hx
   cases hg with
   | rep b7=>cases b7 with
    | agg vs _ hl b7 =>
     have hL:kR (hY (aM S0 w φ ([]++O)) w) vs cs []:=by
      have key:∀(vs:List Value) (cs:List AV),vs.length=cs.length->(∀(j:Nat) v c,vs[j]?=some v->cs[j]?=some c->cA (aM S0 w φ ([]++O)) w v c)->kR (hY (aM S0 w φ ([]++O)) w) vs cs []:=by
       intro vs cs
       induction cs generalizing vs with
       | nil=>intro hl _;cases vs with|nil=>exact .nil|cons=>simp at hl
       | cons c cs ih =>
        intro hl hr
        cases vs with
        | nil=>simp at hl
        | cons v vs=>exact kR.cons (O1:=[]) (O2:=[]) (.rep (hr 0 v c rfl rfl)) (ih vs (by simpa using hl) fun j v c hv hc=>hr (j+1) v c (by simpa using hv) (by simpa using hc))
      exact key vs cs hl b7
     obtain ⟨cz,h1,h2,h3,h4⟩:=kq (R:=fun S=>hY S w) (fun S S' v x O hS h=>h.mono hS) l7 100000 cs vs s φ [] O (id+100000) h hL im mo gH hn
     exact ⟨cz,h1,.agg vs _ h2 h3,h4⟩
  ·have:wS id x=jk id x:=by
    cases x with
    | agg cs=>exact absurd ⟨cs,rfl⟩ hx
    | _=>rfl
   rw [this] at gH hn ⊢
   exact l7 s φ O1 O v x id h hg im mo gH hn
 ·obtain ⟨cz,h1,h2,h3,h4⟩:=kq (R:=fun S=>hY S w) (fun S S' v x O hS h=>h.mono hS) l7 100000 cs vs s φ O1 O (id+100000) h hL im mo gH hn
  exact ⟨cz,h1,.agg vs _ h2 h3,h4⟩
theorem vQ:EB S0 w0 w n a (fun S=>sF S w) bL:=by
 intro s φ O1 O v x id h hg im mo gH hn
 rcases hg with hg|⟨vs,cs,rfl,rfl,hL⟩
 ·by_cases hx:∃cs,x= .br cs
  ·obtain ⟨cs,rfl⟩:=hx
   rcases hg with hg|⟨vs,JJ,h1,h2,h3⟩
   ·cases hg with
    | rep b7=>cases b7 with
     | br vs _ hl b7 =>
      have hL:kR (nJ (aM S0 w φ ([]++O)) w) vs cs []:=by
       have key:∀(vs:List Value) (cs:List AV),vs.length=cs.length->(∀(j:Nat) v c,vs[j]?=some v->cs[j]?=some c->cA (aM S0 w φ ([]++O)) w v c)->kR (nJ (aM S0 w φ ([]++O)) w) vs cs []:=by
        intro vs cs
        induction cs generalizing vs with
        | nil=>intro hl _;cases vs with|nil=>exact .nil|cons=>simp at hl
        | cons c cs ih =>
         intro hl hr
         cases vs with
         | nil=>simp at hl
         | cons v vs=>exact kR.cons (O1:=[]) (O2:=[]) (.inl (.rep (hr 0 v c rfl rfl))) (ih vs (by simpa using hl) fun j v c hv hc=>hr (j+1) v c (by simpa using hv) (by simpa using hc))
       exact key vs cs hl b7
      obtain ⟨cz,h1,h2,h3,h4⟩:=kq (R:=fun S=>nJ S w) (fun S S' v x O hS h=>h.mono hS) qy 1000 cs vs s φ [] O (id+1000) h hL im mo gH hn
      exact ⟨cz,h1,.br vs _ h2 h3,h4⟩
   ·cases h2
  ·have:bL id x=wS id x:=by
    cases x with
    | br cs=>exact absurd ⟨cs,rfl⟩ hx
    | _=>rfl
   rw [this] at gH hn ⊢
   exact qy s φ O1 O v x id h hg im mo gH hn
 ·obtain ⟨cz,h1,h2,h3,h4⟩:=kq (R:=fun S=>nJ S w) (fun S S' v x O hS h=>h.mono hS) qy 1000 cs vs s φ O1 O (id+1000) h hL im mo gH hn
  exact ⟨cz,h1,.br vs _ h2 h3,h4⟩
def aT:AS->List Nat->AS
 | s,[]=>s
 | s,i::l=>aT (cm i s) l
theorem j0:∀(l:List Nat) (s:AS) (φ:Nat->Option Nat) (O:List Nat),aG S0 w0 n O s a w φ-> ∃ cz,aG S0 w0 n O (aT s l) a w cz∧(∀b,aM S0 w φ O b->aM S0 w cz O b)∧(∀i,look s.H i=none∨i∈l->look (aT s l).H i=none)
 | [],s,φ,O,h=>⟨φ,h,fun _ h=>h,fun i hi=>hi.resolve_right (by simp)⟩
 | i::l,s,φ,O,h=>by
  have h1:aG S0 w0 n O (cm i s) a w (erase φ i):=by
   cases cp:φ i with
   | none=>exact h.js i O (by rw [cp])
   | some g=>exact (h.js i (g::O) (by rw [cp])).uK
  obtain ⟨cz,h2,h3,h4⟩:=j0 l _ _ _ h1
  refine ⟨cz,h2,fun b hb=>h3 b ⟨hb.1,hb.2.1,fun j hj=>?_,hb.2.2.2⟩,fun j hj=>h4 j ?_⟩
  ·unfold erase at hj
   split at hj
   ·cases hj
   ·exact hb.2.2.1 j hj
  ·by_cases e:j=i
   ·subst e;exact .inl (di j)
   ·rcases hj with hj|hj
    ·exact .inl (pS i j hj)
    ·rcases List.mem_cons.1 hj with h|h
     ·exact absurd h e
     ·exact .inr h
theorem nF:∀(O' O:List Nat) (s:AS) (φ:Nat->Option Nat),aG S0 w0 n O s a w φ->(∀g∈O',w.heap.size≤g)->aG S0 w0 n (O'++O) s a w φ
 | [],O,s,φ,h,_=>h
 | g::O',O,s,φ,h,hg=>(nF O' O s φ h fun g hm=>hg g (by simp [hm])).await g (hg g (by simp))
end
def nodupB:List Nat->Bool
 | []=>true
 | i::l=>match l.any (Nat.beq i),Nat.ble i 999999999999 with|false,true=>nodupB l|_,_=>false
theorem iB:∀ {l:List Nat},nodupB l=true->l.Nodup
 | [],_=>List.nodup_nil
 | i::l,h=>by
  simp only [nodupB] at h
  split at h
  ·rename_i hn _
   rw [List.nodup_cons]
   refine ⟨fun hm=>?_,iB h⟩
   have:l.any (Nat.beq i)=true:=List.any_eq_true.2 ⟨i,hm,Nat.beq_refl i⟩
   rw [hn] at this;cases this
  ·cases h
theorem qO:∀ {l:List Nat},nodupB l=true-> ∀i∈l,i<1000000000000
 | [],_,i,h=>by cases h
 | j::l,h,i,hi=>by
  simp only [nodupB] at h
  split at h
  ·rename_i _ hb
   rcases List.mem_cons.1 hi with rfl|hi
   ·have:=Nat.le_of_ble_eq_true hb;omega
   ·exact qO h i hi
  ·cases h
def jM (s:AS):List AV->Option (List AV)
 | []=>some []
 | x::l=>match view s x,jM s l with|some y,some m=>some (y::m)|_,_=>none
def xm:AV->Bool
 | .agg cs=>dR cs
 | .arr _=>true
 | x=>ic x
def lp:List AV->Bool
 | []=>true
 | x::l=>match xm x with|true=>lp l|false=>false
def ia (P : Program) (f : FuncId) : Bool := match P.funcs[f]? with | some fn => fn.body.isSome && !(fn.name == "runtime.NumGoroutine") | none => false
theorem oY {P:Program} {f:FuncId} (h:ia P f=true) (args:Array Value) (w:World):(callFunc f args).run P w= .ok (.enter f args) w:=by
 unfold ia at h
 split at h
 ·rename_i fn hf
  simp only [Bool.and_eq_true,Bool.not_eq_true',Option.isSome_iff_exists] at h
  obtain ⟨⟨c,hc⟩,hn⟩:=h
  have sr : ¬ fn.name = "runtime.NumGoroutine" := by simpa using hn
  simp [callFunc,hf,hc,sr]
 ·cases h
def callee (s:AS):Callee->Option FuncId
 | .value (.func f)=>some f
 | .value x=>(match bp s x with| .val (.func (.func f) ⟨[]⟩ ⟨[]⟩)=>some f|_=>none)
 | _=>none
def rm (P:Program) (n:Nat) (s:AS) (d:Option Nat) (c:Callee) (args:List Operand) (h:Hint):Option (AS×List Prop) :=
 match callee s c,h.av with
 | some f,some r=>(match ia P f with
  | true=>(match h.b with
   | true=>(match jM s (args.map (bp s)),flat r,d with
    | some vs,some C,some d=>(match nodupB ((bL d r).2.map (·.1)),gg n ⟨(aT s ((bL d r).2.map (·.1))).F,(bL d r).2++(aT s ((bL d r).2.map (·.1))).H⟩ (some d) (bL d r).1 with
     | true,some s'=>some (s',bK P f vs r::C)
     | _,_=>none)
    | some vs,some C,none=>some (s,bK P f vs r::C)
    | _,_,_=>none)
   | false=>(match fN s ((args.map (bp s)).flatMap oo) with
    | some s1=>(match lp (args.map (bp s1)),d with
     | true,some d=>(match nodupB ((bL d r).2.map (·.1)),gg n ⟨(aT s1 ((bL d r).2.map (·.1))).F,(bL d r).2++(aT s1 ((bL d r).2.map (·.1))).H⟩ (some d) (bL d r).1 with
      | true,some s'=>some (s',[bK P f (args.map (bp s1)) r])
      | _,_=>none)
     | true,none=>some (s1,[bK P f (args.map (bp s1)) r])
     | _,_=>none)
    | none=>none))
  | false=>none)
 | _,_=>none
section
variable {P:Program} {n:Nat} {s:AS} {o:Oper} {h:Hint} {q:AS×List Prop}
theorem lE {S0:bm} {w0 w:World} {O:List Nat} {a:Act} {φ:Nat->Option Nat} (hs:aG S0 w0 n O s a w φ):∀(xs:List Operand) (ys:List AV),jM s (xs.map (bp s))=some ys->ys.length=xs.length∧ ∀(j:Nat) v y,(xs.map a.eval)[j]?=some v->ys[j]?=some y->cA (fun b=>b<w.heap.size) w v y
 | [],ys,h=>by cases h;exact ⟨rfl,fun j v y hv=>by simp at hv⟩
 | x::xs,ys,h=>by
  simp only [List.map_cons,jM] at h
  split at h
  ·rename_i y m hy hm
   cases h
   obtain ⟨h1,h2⟩:=lE hs xs m hm
   refine ⟨by simp [h1],fun j v y' hv Q6=>?_⟩
   cases j with
   | zero=>simp at hv Q6;subst hv;subst Q6;exact wX hs (hs.bp x) hy
   | succ j=>exact h2 j v y' (by simpa using hv) (by simpa using Q6)
  ·cases h
theorem nL {I:Info} {S:Nat->Prop} {w:World} {v:Value} {x:AV} (hd:Den I S w v x) (hr:xm x=true):cA S w v x:=by
 by_cases hc:∃cs,x= .agg cs
 ·obtain ⟨cs,rfl⟩:=hc
  obtain ⟨vs,rfl,hl,hd⟩:=ka hd
  exact .agg vs cs hl fun j v c hv hc=>(eE (hd j v c hv hc) (iz hr hc)).1
 ·by_cases ha:∃cs,x= .arr cs
  ·obtain ⟨cs,rfl⟩:=ha
   obtain ⟨vs,rfl,hl,hd⟩:=qh hd
   exact .arr vs cs hl hd
  ·have:xm x=ic x:=by
    cases x with
    | agg cs=>exact absurd ⟨cs,rfl⟩ hc
    | arr cs=>exact absurd ⟨cs,rfl⟩ ha
    | _=>rfl
   rw [this] at hr
   exact (eE hd hr).1
theorem lJ:∀ {l:List AV} {j:Nat} {x:AV},lp l=true->l[j]?=some x->xm x=true
 | [],j,x,_,h=>by simp at h
 | y::l,j,x,hp,h=>by
  simp only [lp] at hp
  split at hp
  ·rename_i hy
   cases j with
   | zero=>simp at h;subst h;exact hy
   | succ j=>exact lJ hp (by simpa using h)
  ·cases hp
theorem jj {S0:bm} {w0 w:World} {O:List Nat} {a:Act} {φ:Nat->Option Nat} (hs:aG S0 w0 n O s a w φ) {c:Callee} {f:FuncId} (hc:callee s c=some f) {xs:Array Operand} {ts:Array TypeId} (ho:o.op= .call ⟨c,xs,ts⟩) (hE:ia P f=true) :
  (execOp a.eval o).run P w= .ok (.enter f (xs.map a.eval)) w:=by
 have key:∃x,c= .value x∧a.eval x= .func (.func f) #[] #[]:=by
  unfold callee at hc
  split at hc
  ·cases hc;exact ⟨_,rfl,rfl⟩
  ·rename_i x _
   split at hc
   ·rename_i f' he
    cases hc
    exact ⟨x,rfl,bJ (he ▸ hs.bp x)⟩
   ·cases hc
  ·cases hc
 obtain ⟨x,rfl,hx⟩:=key
 unfold execOp
 simp [ho,resolve,hx,Deferred.ofValue,invoke,oY hE]
theorem vb {S0:bm} {w0 w:World} {a:Act} {φ:Nat->Option Nat} {Q:Exit->Act->World->Prop} (hs:aG S0 w0 n [] s a w φ) {f:FuncId} {us:List Value} (ct:(execOp a.eval o).run P w= .ok (.enter f us.toArray) w) {S:Nat->Prop} {args:List AV} {r:AV} (nr:bK P f args r) (hS:∀b,S b->b<w.heap.size) (hl:us.length=args.length) (iC:∀(j:Nat) v x,us[j]?=some v->args[j]?=some x->cA S w v x)
  (hG:∀w' v O,Below w.heap.size w w'->(∀g∈O,w.heap.size≤g∧g<w'.heap.size)->sF (fun b=>S b∨(w.heap.size≤b∧b<w'.heap.size∧b ∉ O)) w' v r O->sF (aM S0 w' φ O) w' v r O) {s':AS}
  (hd:(∃d,o.dst=some d∧nodupB ((bL d r).2.map (·.1))=true∧gg n ⟨(aT s ((bL d r).2.map (·.1))).F,(bL d r).2++(aT s ((bL d r).2.map (·.1))).H⟩ (some d) (bL d r).1=some s')∨(o.dst=none∧s'=s)) :
  o.wp P a w (fun a' w'=>iv S0 w0 n s' a' w') Q:=by
 unfold Oper.wp
 rw [ct]
 have mJ:=nr w S us hs.cV.mw hS hl iC
 refine mJ.mono ?_
 rintro en w' ⟨v,O,rfl,hb,im,mo,uy⟩
 show iv S0 w0 n s' (a.put o.dst v) w'
 have uy:=hG w' v O hb mo uy
 have h1:=nF O [] s φ hs (fun g hg=>(mo g hg).1)
 rw [List.append_nil] at h1
 have h2:=h1.vP (fun g hg=>.inl (Nat.le_trans hs.cV.size (mo g hg).1)) hb.os hb.tape hb.output hb.size (fun b JE _=>hb.block b JE)
 rcases hd with ⟨d,hd,wA,dZ⟩|⟨hd,rfl⟩
 ·obtain ⟨jW,h3,hF,H2⟩:=j0 ((bL d r).2.map (·.1)) s φ O h2
  have Vk:aG S0 w0 n (O++ []) (aT s ((bL d r).2.map (·.1))) a w' jW:=by rw [List.append_nil];exact h3
  obtain ⟨wU,h4,h5,h6⟩:=vQ (aT s ((bL d r).2.map (·.1))) jW O [] v r d Vk (by rw [List.append_nil];exact uy.mono hF) (by rw [List.append_nil];exact im) (fun g hg=>⟨.inl (Nat.le_trans hs.cV.size (mo g hg).1),(mo g hg).2⟩) (fun i hi=>⟨H2 i (.inr hi),qO wA i hi⟩) (iB wA)
  rw [hd]
  exact ⟨wU,dO h4 h5 dZ⟩
 ·rw [hd]
  have key:∀(O:List Nat),aG S0 w0 n O s' a w' φ->aG S0 w0 n [] s' a w' φ:=by
   intro O
   induction O with
   | nil=>exact fun h=>h
   | cons g O ih=>exact fun h=>ih h.uK
  have h3:=key O h2
  exact ⟨φ,⟨h3.jL,h3.jO,h3.cV,h3.cB,h3.rows,h3.only,h3.inj,h3.cU,h3.apart,h3.new⟩⟩
theorem s5 {S0:bm} {w0 w:World} {a:Act} {φ:Nat->Option Nat} {Q:Exit->Act->World->Prop} (hs:aG S0 w0 n [] s a w φ) {f:FuncId} {xs:Array Operand} (ct:(execOp a.eval o).run P w= .ok (.enter f (xs.map a.eval)) w) {S:Nat->Prop} {args:List AV} {r:AV} (nr:bK P f args r) (hS:∀b,S b->b<w.heap.size) (hl:args.length=xs.toList.length) (iC:∀(j:Nat) v x,(xs.toList.map a.eval)[j]?=some v->args[j]?=some x->cA S w v x)
  (hG:∀w' v O,Below w.heap.size w w'->(∀g∈O,w.heap.size≤g∧g<w'.heap.size)->sF (fun b=>S b∨(w.heap.size≤b∧b<w'.heap.size∧b ∉ O)) w' v r O->sF (aM S0 w' φ O) w' v r O) {s':AS}
  (hd:(∃d,o.dst=some d∧nodupB ((bL d r).2.map (·.1))=true∧gg n ⟨(aT s ((bL d r).2.map (·.1))).F,(bL d r).2++(aT s ((bL d r).2.map (·.1))).H⟩ (some d) (bL d r).1=some s')∨(o.dst=none∧s'=s)) :
  o.wp P a w (fun a' w'=>iv S0 w0 n s' a' w') Q:=by
 have e:(xs.toList.map a.eval).toArray=xs.map a.eval:=by apply Array.ext';simp
 exact vb hs (us:=xs.toList.map a.eval) (by rw [e];exact ct) nr hS (by simp [hl]) iC hG hd
theorem wM {c:Callee} {xs:Array Operand} {ts:Array TypeId} (ho:o.op= .call ⟨c,xs,ts⟩) (hr:rm P n s o.dst c xs.toList h=some q):lZ P n s o q.1 q.2:=by
 intro hC S0 w0 a w Q ⟨φ,hs⟩
 unfold rm at hr
 split at hr
 ·rename_i f r hc _
  split at hr
  ·rename_i hE
   split at hr
   ·
    split at hr
    ·rename_i vs C d hv vh hd
     split at hr
     ·rename_i s' hn hp
      cases hr
      obtain ⟨nr,hC⟩:=hC
      obtain ⟨hl,b7⟩:=lE hs _ _ hv
      exact s5 hs (jj hs hc ho hE) nr (S:=fun b=>b<w.heap.size) (fun _ h=>h) hl b7 (fun w' v O _ _ hg=>sU vh hC hg) (.inl ⟨d,hd,hn,hp⟩)
     ·cases hr
    ·rename_i vs C hv vh hd
     cases hr
     obtain ⟨nr,hC⟩:=hC
     obtain ⟨hl,b7⟩:=lE hs _ _ hv
     exact s5 hs (jj hs hc ho hE) nr (S:=fun b=>b<w.heap.size) (fun _ h=>h) hl b7 (fun w' v O _ _ hg=>sU vh hC hg) (.inr ⟨hd,rfl⟩)
    ·cases hr
   ·split at hr
    ·rename_i s1 HQ
     obtain ⟨iG,gS⟩:=fM _ _ _ _ HQ hs
     have SK:lp (xs.toList.map (bp s1))=true-> ∀(j:Nat) v x,(xs.toList.map a.eval)[j]?=some v->(xs.toList.map (bp s1))[j]?=some x->cA (aM S0 w iG []) w v x:=by
      intro vv j v x hv hx
      have MC:=lJ vv hx
      rw [List.getElem?_map] at hv hx
      cases hj:xs.toList[j]? with
      | none=>rw [hj] at hv;cases hv
      | some y =>
       rw [hj] at hv hx
       injection hv with hv;injection hx with hx;subst hv;subst hx
       exact nL (gS.bp y) MC
     have hG:∀w' v O,Below w.heap.size w w'->(∀g∈O,w.heap.size≤g∧g<w'.heap.size)->sF (fun b=>aM S0 w iG [] b∨(w.heap.size≤b∧b<w'.heap.size∧b ∉ O)) w' v r O->sF (aM S0 w' iG O) w' v r O:=by
      intro w' v O hb mo hg
      refine hg.mono fun b kF=>?_
      rcases kF with kF|⟨h1,h2,h3⟩
      ·exact ⟨by have:=kF.1;have:=hb.size;omega,fun hm=>by have:=(mo b hm).1;have:=kF.1;omega,kF.2.2⟩
      ·exact ⟨h2,h3,fun i hi=>by have:=(gS.cU i b hi).2;omega,gS.new b (.inl (by have:=gS.cV.size;omega))⟩
     split at hr
     ·rename_i d vv hd
      split at hr
      ·rename_i s' hn hp
       cases hr
       obtain ⟨nr,-⟩:=hC
       exact s5 gS (jj hs hc ho hE) nr (fun b hb=>hb.1) (by simp) (SK vv) hG (.inl ⟨d,hd,hn,hp⟩)
      ·cases hr
     ·rename_i vv hd
      cases hr
      obtain ⟨nr,-⟩:=hC
      exact s5 gS (jj hs hc ho hE) nr (fun b hb=>hb.1) (by simp) (SK vv) hG (.inr ⟨hd,rfl⟩)
     ·cases hr
    ·cases hr
  ·cases hr
 ·cases hr
def BW (s:AS) (id:Nat):AS :=
 match look s.H id with
 | some ⟨e,false,f,cs⟩=>(match dR cs with|true=>⟨s.F,(id,⟨e,true,f,cs⟩)::cN s.H id⟩|false=>s)
 | _=>s
theorem E1 {S0:bm} {w0 w:World} {O:List Nat} {a:Act} {φ:Nat->Option Nat} (id:Nat) (hs:aG S0 w0 n O s a w φ):aG S0 w0 n O (BW s id) a w φ:=by
 unfold BW
 split
 ·rename_i e f cs hr
  split
  ·rename_i hp
   have lu:∀i,look ((id,(⟨e,true,f,cs⟩:Row))::cN s.H id) i=if id=i then some ⟨e,true,f,cs⟩ else look s.H i:=by
    intro i
    rw [aD,bH]
    by_cases e:id=i<;>simp [e]
   have hI:az ((id,(⟨e,true,f,cs⟩:Row))::cN s.H id) φ=az s.H φ:=by
    funext i
    unfold az
    rw [lu]
    by_cases e:id=i
    ·subst e;rw [if_pos rfl,hr];rfl
    ·rw [if_neg e]
   refine ⟨hs.jL,hs.jO,hs.cV,fun i av hi=>?_,fun i q hq=>?_,fun i hi=>?_,hs.inj,hs.cU,hs.apart,hs.new⟩
   ·simp only [hI];exact hs.cB i av hi
   ·simp only [hI]
    simp only [lu] at hq
    by_cases e:id=i
    ·subst e
     rw [if_pos rfl] at hq;injection hq with hq;subst hq
     have aN:=hs.rows id _ hr
     unfold bN at aN ⊢
     cases cp:φ id with
     | none=>rw [cp] at aN;exact aN
     | some g =>
      rw [cp] at aN
      obtain ⟨cur,te,fr,hg,hf,hl,mI,hc⟩:=aN
      exact ⟨cur,te,fr,hg,hf,hl,mI,fun j u x hu hx=>(eE (hc j u x hu hx) (iz hp hx)).1⟩
    ·rw [if_neg e] at hq;exact hs.rows i q hq
   ·simp only [lu] at hi
    by_cases e:id=i
    ·rw [if_pos e] at hi;cases hi
    ·rw [if_neg e] at hi;exact hs.only i hi
  ·exact hs
 ·exact hs
def qJ:AS->List Nat->AS
 | s,[]=>s
 | s,i::l=>qJ (BW s i) l
theorem pK {S0:bm} {w0 w:World} {O:List Nat} {a:Act} {φ:Nat->Option Nat}:∀(l:List Nat) (s:AS),aG S0 w0 n O s a w φ->aG S0 w0 n O (qJ s l) a w φ
 | [],_,h=>h
 | i::l,_,h=>pK l _ (E1 i h)
def CE (n:Nat) (s:AS) (d f:Nat) (xs:List Operand):Option (AS×List Prop) :=
 match fN (qJ s ((xs.map (bp s)).flatMap oo)) ((xs.map (bp s)).flatMap oo) with
 | some s1=>(match lp (xs.map (bp s1)),gg n s1 (some d) (.lB f (xs.map (bp s1))) with|true,some s'=>some (s',[])|_,_=>none)
 | none=>none
theorem ma {S0:bm} {w0 w:World} {O:List Nat} {a:Act} {φ:Nat->Option Nat} (hs:aG S0 w0 n O s a w φ) {xs:List Operand} (h:lp (xs.map (bp s))=true) (j:Nat) (v:Value) (x:AV) (hv:(xs.map a.eval)[j]?=some v) (hx:(xs.map (bp s))[j]?=some x):cA (aM S0 w φ O) w v x:=by
 have MC:=lJ h hx
 rw [List.getElem?_map] at hv hx
 cases hj:xs[j]? with
 | none=>rw [hj] at hv;cases hv
 | some y =>
  rw [hj] at hv hx
  injection hv with hv;injection hx with hx;subst hv;subst hx
  exact nL (hs.bp y) MC
theorem FE {d f:Nat} {xs:List Operand} (ho:o.op= .makeFunc (.func f) ⟨[]⟩ ⟨xs⟩) (hd:o.dst=some d) (hr:CE n s d f xs=some q):lZ P n s o q.1 q.2:=by
 intro hC S0 w0 a w Q ⟨φ,hs⟩
 unfold CE at hr
 split at hr
 ·rename_i s1 HQ
  obtain ⟨iG,gS⟩:=fM _ _ _ _ HQ (pK _ _ hs)
  split at hr
  ·rename_i s' vv hp
   cases hr
   have ct:(execOp a.eval o).run P w= .ok (.value (.func (.func f) #[] (xs.map a.eval).toArray)) w:=by
    unfold execOp;simp [ho,Instr.makeFunc]
   refine cR ct ⟨iG,?_⟩
   rw [hd]
   exact dO gS (.rep (.lB f _ _ (by simp) (ma gS vv))) hp
  ·cases hr
 ·cases hr
def yi (P:Program) (n:Nat) (s:AS) (d:Option Nat) (c:Callee) (args:List Operand) (h:Hint):Option (AS×List Prop) :=
 match c,h.av,fN s ((args.map (bp s)).flatMap oo) with
 | .value x,some r,some s1=>(match bp s1 x with
  | .lB f lz=>(match ia P f,lp (args.map (bp s1)),d with
   | true,true,some d=>(match nodupB ((bL d r).2.map (·.1)),gg n ⟨(aT s1 ((bL d r).2.map (·.1))).F,(bL d r).2++(aT s1 ((bL d r).2.map (·.1))).H⟩ (some d) (bL d r).1 with
    | true,some s'=>some (s',[bK P f (args.map (bp s1)++lz) r])
    | _,_=>none)
   | true,true,none=>some (s1,[bK P f (args.map (bp s1)++lz) r])
   | _,_,_=>none)
  | _=>none)
 | _,_,_=>none
theorem DL {S:Nat->Prop} {I:Info} {w:World} {v:Value} {f:Nat} {cs:List AV} (h:Den I S w v (.lB f cs)):∃vs:List Value,v= .func (.func f) #[] vs.toArray∧vs.length=cs.length∧ ∀(j:Nat) v c,vs[j]?=some v->cs[j]?=some c->cA S w v c:=by
 cases h with|rep h=>cases h with|lB f vs cs hl h=>exact ⟨vs,rfl,hl,h⟩
theorem tH {S:Nat->Prop} {w:World} {vs us:List Value} {xs ys:List AV} (hl:vs.length=xs.length) (h1:∀(j:Nat) v x,vs[j]?=some v->xs[j]?=some x->cA S w v x) (h2:∀(j:Nat) v x,us[j]?=some v->ys[j]?=some x->cA S w v x) (j:Nat) (v:Value) (x:AV) (hv:(vs++us)[j]?=some v) (hx:(xs++ys)[j]?=some x):cA S w v x:=by
 rcases Nat.lt_or_ge j vs.length with h|h
 ·rw [List.getElem?_append_left h] at hv
  rw [List.getElem?_append_left aj] at hx
  exact h1 j v x hv hx
 ·rw [List.getElem?_append_right h] at hv
  rw [List.getElem?_append_right aj,←hl] at hx
  exact h2 _ v x hv hx
theorem CP {c:Callee} {xs:Array Operand} {ts:Array TypeId} (ho:o.op= .call ⟨c,xs,ts⟩) (hr:yi P n s o.dst c xs.toList h=some q):lZ P n s o q.1 q.2:=by
 intro hC S0 w0 a w Q ⟨φ,hs⟩
 unfold yi at hr
 split at hr
 ·rename_i x r s1 _ HQ
  obtain ⟨iG,gS⟩:=fM _ _ _ _ HQ hs
  split at hr
  ·rename_i f lz gC
   have dx:=gS.bp x
   rw [gC] at dx
   obtain ⟨cv,hv,RV,KL⟩:=DL dx
   have ct:ia P f=true->(execOp a.eval o).run P w= .ok (.enter f (xs.toList.map a.eval++cv).toArray) w:=by
    intro hE
    have e:(xs.toList.map a.eval++cv).toArray= #[]++xs.map a.eval++cv.toArray:=by apply Array.ext';simp
    rw [e]
    unfold execOp
    simp [ho,resolve,hv,Deferred.ofValue,invoke,oY hE]
   have hG:∀w' v O,Below w.heap.size w w'->(∀g∈O,w.heap.size≤g∧g<w'.heap.size)->sF (fun b=>aM S0 w iG [] b∨(w.heap.size≤b∧b<w'.heap.size∧b ∉ O)) w' v r O->sF (aM S0 w' iG O) w' v r O:=by
    intro w' v O hb mo hg
    refine hg.mono fun b kF=>?_
    rcases kF with kF|⟨h1,h2,h3⟩
    ·exact ⟨by have:=kF.1;have:=hb.size;omega,fun hm=>by have:=(mo b hm).1;have:=kF.1;omega,kF.2.2⟩
    ·exact ⟨h2,h3,fun i hi=>by have:=(gS.cU i b hi).2;omega,gS.new b (.inl (by have:=gS.cV.size;omega))⟩
   have hlen:(xs.toList.map a.eval++cv).length=(xs.toList.map (bp s1)++lz).length:=by simp [RV]
   split at hr
   ·rename_i d hE vv hd
    split at hr
    ·rename_i s' hn hp
     cases hr
     exact vb gS (ct hE) hC.1 (fun b hb=>hb.1) hlen (tH (by simp) (ma gS vv) KL) hG (.inl ⟨d,hd,hn,hp⟩)
    ·cases hr
   ·rename_i hE vv hd
    cases hr
    exact vb gS (ct hE) hC.1 (fun b hb=>hb.1) hlen (tH (by simp) (ma gS vv) KL) hG (.inr ⟨hd,rfl⟩)
   ·cases hr
  ·cases hr
 ·cases hr
end
end Go.Proofs.YtjgbhhnghedgdaaGreatDoor
