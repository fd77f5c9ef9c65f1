import Derived.Test.YtjgbhhnghedgdaaGreatDoorZmRA
import Derived.Laws.StructEq
import Derived.ChangeKeysEq
set_option linter.all false
namespace Go.Proofs.YtjgbhhnghedgdaaGreatDoor
open Go.RowKit
def JH (P:Program) (eq:TypeId->List AV->List AV->Option Bool) (cs ds:List AV):List Field->Option Bool
 | []=>some true
 | f :: fs => match f.name == "_", eC P f.type, JH P eq cs ds fs with
  | false,some z,some b=>(match eq f.type ((cs.drop f.offset).take z) ((ds.drop f.offset).take z) with|some a=>some (a && b)|none=>none)
  | _,_,_=>none
def Oe (P:Program):Nat->TypeId->List AV->List AV->Option Bool
 | 0,_,_,_=>none
 | d+1,t,cs,ds=>match P.underlying t with
  | some .bool=>(match cs,ds with| [.val (.bool a)],[.val (.bool b)]=>some (a == b)|_,_=>none)
  | some (.int _)=>(match cs,ds with| [.val (.int k a)],[.val (.int k' b)]=>if k=k' then some (a == b) else none|_,_=>none)
  | some .string=>(match cs,ds with| [.val (.string a)],[.val (.string b)]=>some (a.toList == b.toList)|_,_=>none)
  | some (.struct fs)=>(match P.stoodInHeld t with|true=>none|false=>JH P (Oe P d) cs ds fs.toList)
  | _=>none
def lZ (P:Program) (t:TypeId) (vs:List Value) (x:Value):Prop:=match cF P t with|true=>x= .agg vs.toArray|false=>vs= [x]
theorem me {I:Info} {S:Nat->Prop} {w:World} {vs:List Value} {u:Value} (hl:vs.length=1) (hd:∀(j:Nat) v c,vs[j]?=some v-> [AV.val u][j]?=some c->Den I S w v c):vs= [u]:=by
 match vs,hl with
 | [v],_=>rw [bM (hd 0 v _ rfl rfl)]
section
variable {P:Program} {I:Info} {S:Nat->Prop} {w:World}
theorem uu {t:TypeId} {z:Nat} {cs:List AV} {vs:List Value} {off:Nat} (hz:eC P t=some z) (hu:∃d,P.underlying t=some d) (hl:vs.length=cs.length) (hs:cF P t=false-> ∃x,(cs.drop off).take z= [x]) :
  ∃v,(part t vs.toArray off).run P w= .ok v w∧lZ P t ((vs.drop off).take z) v:=by
 cases ha:cF P t with
 | true =>
  refine ⟨.agg (vs.toArray.extract off (off+z)),?_,?_⟩
  ·simp [part,iz hu,ha,run_sizeOf hz]
  ·unfold lZ;rw [ha];simp [List.extract_eq_take_drop]
 | false =>
  obtain ⟨x,hx⟩:=hs ha
  have hlen:=congrArg List.length hx
  rw [List.length_take,List.length_drop] at hlen
  simp at hlen
  have dk:off<vs.length:=ah
  refine ⟨vs[off],?_,?_⟩
  ·simp [part,iz hu,ha,dk]
  ·unfold lZ;rw [ha]
   show (vs.drop off).take z= [vs[off]]
   rw [List.drop_eq_getElem_cons dk]
   obtain ⟨z',rfl⟩:∃z',z=z'+1:=⟨z-1,ah⟩
   rw [List.take_succ_cons]
   congr 1
   apply List.eq_nil_of_length_eq_zero
   rw [List.length_take,List.length_drop];omega
theorem Fk {eq:TypeId->List AV->List AV->Option Bool} {D:Nat} (heq:∀t cs ds b vs us x y,eq t cs ds=some b->vs.length=cs.length->us.length=ds.length->(∀(j:Nat) v c,vs[j]?=some v->cs[j]?=some c->Den I S w v c)->(∀(j:Nat) v c,us[j]?=some v->ds[j]?=some c->Den I S w v c)->lZ P t vs x->lZ P t us y->(Op.equalIn D t x y).run P w= .ok b w)
  (uS:∀t cs ds b,eq t cs ds=some b->(∃d,P.underlying t=some d)∧(cF P t=false->(∃x,cs= [x])∧ ∃x,ds= [x])) {cs ds:List AV} {vs us:List Value} (hl:vs.length=cs.length) (rC:us.length=ds.length) (hd:∀(j:Nat) v c,vs[j]?=some v->cs[j]?=some c->Den I S w v c) (Gl:∀(j:Nat) v c,us[j]?=some v->ds[j]?=some c->Den I S w v c) :
  ∀(fs:List Field) (b:Bool),JH P eq cs ds fs=some b->(Op.eqFields D vs.toArray us.toArray fs).run P w= .ok b w
 | [],b,h=>by simp [JH] at h;subst h;simp [Op.eqFields]
 | f::fs,b,h=>by
  rw [JH] at h
  split at h
  ·rename_i z b' hn hz kP
   split at h
   ·rename_i a ha
    injection h with h;subst h
    obtain ⟨hu,ho⟩:=uS _ _ _ _ ha
    obtain ⟨x,hx,px⟩:=uu (w:=w) (off:=f.offset) hz hu hl (fun h0=>(ho h0).1)
    obtain ⟨y,hy,py⟩:=uu (w:=w) (off:=f.offset) hz hu rC (fun h0=>(ho h0).2)
    have he:=heq _ _ _ _ _ _ x y ha (by rw [List.length_take,List.length_drop,List.length_take,List.length_drop,hl]) (by rw [List.length_take,List.length_drop,List.length_take,List.length_drop,rC]) (fun j v c hv hc=>hd (f.offset+j) v c (bV _ _ _ _ _ hv) (bV _ _ _ _ _ hc)) (fun j v c hv hc=>Gl (f.offset+j) v c (bV _ _ _ _ _ hv) (bV _ _ _ _ _ hc)) px py
    have sV : f.name ≠ "_" := by simpa using hn
    simp only [Op.eqFields,if_pos sV,Sem.run_bind,hx,hy,he,Result.andThen_ok]
    cases a with
    | false=>simp
    | true =>
     have:=Fk heq uS hl rC hd Gl fs b' kP
     simpa using this
   ·cases h
  ·cases h
theorem LN:∀(d:Nat) (t:TypeId) (cs ds:List AV) (b:Bool),Oe P d t cs ds=some b->(∃d,P.underlying t=some d)∧(cF P t=false->(∃x,cs= [x])∧ ∃x,ds= [x]):=by
 intro d t cs ds b h
 cases d with
 | zero=>cases h
 | succ d =>
  unfold Oe at h
  split at h
  ·rename_i hu;refine ⟨⟨_,hu⟩,fun _=>?_⟩
   split at h
   ·exact ⟨⟨_,rfl⟩,_,rfl⟩
   ·cases h
  ·rename_i hu;refine ⟨⟨_,hu⟩,fun _=>?_⟩
   split at h
   ·exact ⟨⟨_,rfl⟩,_,rfl⟩
   ·cases h
  ·rename_i hu;refine ⟨⟨_,hu⟩,fun _=>?_⟩
   split at h
   ·exact ⟨⟨_,rfl⟩,_,rfl⟩
   ·cases h
  ·rename_i hu;refine ⟨⟨_,hu⟩,fun ha=>?_⟩
   unfold cF at ha;rw [hu] at ha;cases ha
  ·cases h
theorem Od (D:Nat):∀(d:Nat) (t:TypeId) (cs ds:List AV) (b:Bool) (vs us:List Value) (x y:Value),Oe P d t cs ds=some b->vs.length=cs.length->us.length=ds.length->(∀(j:Nat) v c,vs[j]?=some v->cs[j]?=some c->Den I S w v c)->(∀(j:Nat) v c,us[j]?=some v->ds[j]?=some c->Den I S w v c)->lZ P t vs x->lZ P t us y->(Op.equalIn (D+d) t x y).run P w= .ok b w:=by
 intro d
 induction d with
 | zero=>intro t cs ds b vs us x y h;cases h
 | succ d ih =>
  intro t cs ds b vs us x y h hl rC hd Gl px py
  unfold Oe at h
  split at h
  ·rename_i hu
   have ha:cF P t=false:=by unfold cF;rw [hu]
   unfold lZ at px py;rw [ha] at px py
   split at h
   ·have h1:=me hl hd
    have h2:=me rC Gl
    rw [h1] at px;rw [h2] at py
    injection px with px;injection py with py
    injection h with h
    subst px py h
    exact run_equalIn_bool' w (D+d) t _ _ hu
   ·cases h
  ·rename_i hu
   have ha:cF P t=false:=by unfold cF;rw [hu]
   unfold lZ at px py;rw [ha] at px py
   split at h
   ·have h1:=me hl hd
    have h2:=me rC Gl
    rw [h1] at px;rw [h2] at py
    injection px with px;injection py with py
    split at h
    ·rename_i hk
     injection h with h
     subst px py h hk
     exact run_equalIn_int w (D+d) t _ _ _ _ hu
    ·cases h
   ·cases h
  ·rename_i hu
   have ha:cF P t=false:=by unfold cF;rw [hu]
   unfold lZ at px py;rw [ha] at px py
   split at h
   ·have h1:=me hl hd
    have h2:=me rC Gl
    rw [h1] at px;rw [h2] at py
    injection px with px;injection py with py
    injection h with h
    subst px py h
    exact run_equalIn_string w (D+d) t _ _ hu
   ·cases h
  ·rename_i fs hu
   have ha:cF P t=true:=by unfold cF;rw [hu]
   unfold lZ at px py;rw [ha] at px py
   split at h
   ·cases h
   ·rename_i hp
    have hf:P.fieldsOf t=fs:=by simp [Program.fieldsOf,hu]
    simp only at px py
    subst px py
    rw [show D+(d+1)=(D+d)+1 from rfl,run_equalIn_struct w (D+d) t _ _ (by rw [hf];exact hu) hp,hf]
    exact Fk (fun t cs ds b vs us x y h1 h2 h3 h4 h5 h6 h7=>ih t cs ds b vs us x y h1 h2 h3 h4 h5 h6 h7) (LN d) hl rC hd Gl fs.toList b h
  ·cases h
end
def zf (P:Program) (op:BinOp) (t:TypeId) (cs ds:List AV):Option (AV×List Prop) :=
 match op,P.eqGuardType P.depth t,cF P t,Oe P 12 t cs ds with
 | .eql,false,true,some b=>some (.val (.bool b),[])
 | .neq,false,true,some b=>some (.val (.bool (!b)),[])
 | _,_,_,_=>none
section
variable {P:Program} {s:AS} {o:Oper} {h:Hint} {r:AV×List Prop}
theorem Dz {op:BinOp} {t t':TypeId} {x y:Operand} {cs ds:List AV} (ho:o.op= .binOp op t x y t') (hx:bp s x= .agg cs) (hy:bp s y= .agg ds) (hr:zf P op t cs ds=some r):dc P s o r.1 r.2:=by
 intro _ S0 w0 n O a w φ hs
 have dx:=hs.bp x
 have dy:=hs.bp y
 rw [hx] at dx;rw [hy] at dy
 obtain ⟨vs,ex,hl,hd⟩:=ko dx
 obtain ⟨us,ey,rC,Gl⟩:=ko dy
 have main:∀b,P.eqGuardType P.depth t=false->cF P t=true->Oe P 12 t cs ds=some b->(∀op,(eqGuard op t x y (a.eval x) (a.eval y)).run P w= .ok () w)∧(Op.equalIn 10000 t (.agg vs.toArray) (.agg us.toArray)).run P w= .ok b w:=by
  intro b hg ha he
  refine ⟨fun op=>by rw [ex,ey];exact run_eqGuard_agg w op t x y _ _ hg,?_⟩
  exact Od 9988 12 t cs ds b vs us _ _ he hl rC hd Gl (by unfold lZ;rw [ha]) (by unfold lZ;rw [ha])
 unfold zf at hr
 split at hr
 ·rename_i hg ha he
  injection hr with hr;subst hr
  obtain ⟨h1,h2⟩:=main _ hg ha he
  refine ⟨.bool _,?_,.rep (.val _)⟩
  unfold execOp;simp only [ho,Sem.run_bind,h1,Result.andThen_ok]
  rw [ex,ey,run_eql_struct,h2];rfl
 ·rename_i hg ha he
  injection hr with hr;subst hr
  obtain ⟨h1,h2⟩:=main _ hg ha he
  refine ⟨.bool _,?_,.rep (.val _)⟩
  unfold execOp;simp only [ho,Sem.run_bind,h1,Result.andThen_ok]
  rw [ex,ey,run_neq_struct,h2];rfl
 ·cases hr
end
def Kh (k:IntKind) (n:Nat) (cs ds:List AV) (b:Bool):Prop:=∃l m:List Int,cs=l.map (fun x=>.val (.int k x))∧ds=m.map (fun x=>.val (.int k x))∧l.length=n∧m.length=n∧b=(l == m)
def ze (P:Program) (op:BinOp) (t:TypeId) (cs ds:List AV) (h:Hint):Option (AV×List Prop) :=
 match P.underlying t,P.eqGuardType P.depth t,h.av with
 | some (.array n e),false,some (.val (.bool b))=>(match P.underlying e,eC P e,op with
  | some (.int k),some 1,.eql=>some (.val (.bool b),[Kh k n cs ds b])
  | some (.int k),some 1,.neq=>some (.val (.bool b),[Kh k n cs ds (!b)])
  | _,_,_=>none)
 | _,_,_=>none
section
variable {P:Program} {w:World}
theorem qy (d:Nat) {e:TypeId} {k k':IntKind} (he:P.underlying e=some (.int k')) {n:Nat} {l m:List Int} (hl:l.length=n) (hm:m.length=n):∀(is:List Nat),(∀i∈is,i<n) ->
  (Op.eqItems (d+1) e 1 (l.map (Value.int k)).toArray (m.map (Value.int k)).toArray is).run P w= .ok (is.all fun i=>l.getD i 0 == m.getD i 0) w
 | [],_=>by simp [Op.eqItems]
 | i::is,hi=>by
  have h1:i<n:=hi i (by simp)
  have ha:cF P e=false:=by unfold cF;rw [he]
  have p1:(part e (l.map (Value.int k)).toArray (i*1)).run P w= .ok (.int k (l.getD i 0)) w:=by
   simp [part,iz ⟨_,he⟩,ha,hl,h1]
  have p2:(part e (m.map (Value.int k)).toArray (i*1)).run P w= .ok (.int k (m.getD i 0)) w:=by
   simp [part,iz ⟨_,he⟩,ha,hm,h1]
  simp only [Op.eqItems,Sem.run_bind,p1,p2,run_equalIn_int w d e k k' _ _ he,Result.andThen_ok,List.all_cons]
  have ih:=qy d (k:=k) he hl hm is (fun j hj=>hi j (by simp [hj]))
  cases hb:l.getD i 0 == m.getD i 0 with
  | false=>simp
  | true=>simpa using ih
theorem Ca {l m:List Int} {n:Nat} (hl:l.length=n) (hm:m.length=n):((List.range n).all fun i=>l.getD i 0 == m.getD i 0)=(l == m):=by
 rw [Bool.eq_iff_iff,List.all_eq_true,beq_iff_eq]
 constructor
 ·intro h
  apply List.ext_getElem ah
  intro i h1 h2
  have:=h i (List.mem_range.2 ah)
  simpa [h1,h2] using this
 ·rintro rfl i _;simp
theorem AF {S:Nat->Prop} {k:IntKind} {l:List Int} {vs:List Value} (hl:vs.length=(l.map (fun x=>AV.val (.int k x))).length) (hd:∀(j:Nat) v c,vs[j]?=some v->(l.map (fun x=>AV.val (.int k x)))[j]?=some c->cB S w v c):vs=l.map (Value.int k):=by
 apply List.ext_getElem (by simpa using hl)
 intro i h1 h2
 have h3:i<l.length:=by simpa using h2
 have:=hd i vs[i] (.val (.int k l[i])) (List.getElem?_eq_getElem h1) (by simp [h3])
 generalize vs[i]=q at this
 cases this
 simp
end
section
variable {P:Program} {s:AS} {o:Oper} {h:Hint} {r:AV×List Prop}
theorem Dy {op:BinOp} {t t':TypeId} {x y:Operand} {cs ds:List AV} (ho:o.op= .binOp op t x y t') (hx:bp s x= .arr cs) (hy:bp s y= .arr ds) (hr:ze P op t cs ds h=some r):dc P s o r.1 r.2:=by
 intro hC S0 w0 n O a w φ hs
 have dx:=hs.bp x
 have dy:=hs.bp y
 rw [hx] at dx;rw [hy] at dy
 obtain ⟨vs,ex,hl,hd⟩:=qF dx
 obtain ⟨us,ey,rC,Gl⟩:=qF dy
 have main:∀k N e b,P.underlying t=some (.array N e)->P.underlying e=some (.int k)->eC P e=some 1->P.eqGuardType P.depth t=false->Kh k N cs ds b->(∀op,(eqGuard op t x y (a.eval x) (a.eval y)).run P w= .ok () w)∧(Op.equalIn 10000 t (.agg vs.toArray) (.agg us.toArray)).run P w= .ok b w:=by
  intro k N e b hu he hz hg ⟨l,m,e1,e2,h1,h2,h3⟩
  refine ⟨fun op=>by rw [ex,ey];exact run_eqGuard_agg w op t x y _ _ hg,?_⟩
  subst e1 e2
  rw [AF hl hd,AF rC Gl]
  obtain ⟨i,hi,Rf⟩:∃i,P.info? e=some i∧i.size=1:=by
   unfold eC at hz
   cases hp:P.info? e with
   | none=>rw [hp] at hz;cases hz
   | some i=>rw [hp] at hz;exact ⟨i,rfl,by simpa using hz⟩
  rw [show 10000=9999+1 from rfl,run_equalIn_array w 9999 _ _ hu hi]
  have hc:P.cellsOf e=1:=by unfold Program.cellsOf;rw [hi];exact Rf
  rw [hc,show 9999=9998+1 from rfl,qy 9998 he h1 h2 _ (fun i hi=>List.mem_range.1 hi),Ca h1 h2,h3]
 unfold ze at hr
 split at hr
 ·rename_i N e b hu hg _
  split at hr
  ·rename_i k he hz
   injection hr with hr;subst hr
   obtain ⟨h1,h2⟩:=main k N e _ hu he hz hg hC.1
   refine ⟨.bool _,?_,.rep (.val _)⟩
   unfold execOp;simp only [ho,Sem.run_bind,h1,Result.andThen_ok]
   rw [ex,ey,run_eql_struct,h2];rfl
  ·rename_i k he hz
   injection hr with hr;subst hr
   obtain ⟨h1,h2⟩:=main k N e _ hu he hz hg hC.1
   refine ⟨.bool _,?_,.rep (.val _)⟩
   unfold execOp;simp only [ho,Sem.run_bind,h1,Result.andThen_ok]
   rw [ex,ey,run_neq_struct,h2];simp
  ·cases hr
 ·cases hr
def zn (P:Program) (s:AS) (t:TypeId) (x:AV):Option (AV×List Prop) :=
 match P.underlying t,x with
 | some (.array (n+1) _),.sl (z+1) row=>some (.ptr row 0,[cV (n+1) (z+1)≤row.length])
 | some (.array (n+1) _),.ref id=>(match look s.H id with
  | some ⟨z+1,_,_,cells⟩=>some (.addr id 0,[cV (n+1) (z+1)≤cells.length])
  | _=>none)
 | _,_=>none
theorem sc {P:Program} {w:World} {t:TypeId} {n:Nat} {e:TypeId} (hu:P.underlying t=some (.array n e)) (A:Option Addr) (l c:Nat) (h:n≤l):(Instr.arrayAt t (.slice A l c)).run P w= .ok (.pointer A) w:=by
 have:¬l<n:=ah
 simp [Instr.arrayAt,run_underlying hu,this]
theorem DK {t:TypeId} {x:Operand} (ho:o.op= .sliceToArrayPointer t x) (hr:zn P s t (bp s x)=some r):dc P s o r.1 r.2:=by
 intro hC S0 w0 n O a w φ hs
 have dx:=hs.bp x
 unfold zn at hr
 split at hr
 ·rename_i N e z row hu hx
  injection hr with hr;subst hr
  rw [hx] at dx
  have b_:=pF dx
  generalize hv:a.eval x=v at b_
  cases b_ with
  | sl A l c e' us FL hlen hn hc hm ha iq =>
   have iJ:=hC.1
   rw [bx] at iJ
   rw [hn,Nat.mul_comm (z+1)] at iJ
   have SV:N+1≤l:=Nat.le_of_mul_le_mul_right iJ ah
   obtain ⟨ad,rfl,hS,bw⟩:=ha (by rw [hn];exact Nat.mul_pos ah ah)
   refine ⟨.pointer (some ad),?_,?_⟩
   ·unfold execOp;simp only [ho,hv,Sem.run_bind,sc hu (some ad) l c SV,Result.andThen_ok];rfl
   ·have:=cB.ptr (S:=aQ S0 w φ O) (w:=w) ad us row 0 hlen hS bw iq
    rw [dz] at this
    exact .rep this
 ·rename_i N e id hu hx
  rw [hx] at dx
  split at hr
  ·rename_i z p f cells lH
   injection hr with hr;subst hr
   have iJ:=hC.1
   rw [bx] at iJ
   generalize hv:a.eval x=v at dx
   cases dx with
   | rep b_=>cases b_
   | ref _ e' m g l c hi hm hc Kn b7 =>
    have nN:=bu (φ:=φ) lH
    rw [hi] at nN
    simp at nN
    obtain ⟨h1,h2,h3⟩:=nN
    subst h1 h2
    rw [hm,Nat.mul_comm (z+1)] at iJ
    have SV:N+1≤l:=Nat.le_of_mul_le_mul_right iJ ah
    refine ⟨.pointer (some ⟨g,0,none⟩),?_,.addr id 0 _ _ g hi⟩
    unfold execOp;simp only [ho,hv,Sem.run_bind,sc hu _ l c SV,Result.andThen_ok];rfl
   | cD _ e' hi =>
    have nN:=bu (φ:=φ) lH
    rw [hi] at nN
    simp at nN
    rw [←nN.2.1] at iJ
    simp at iJ
  ·cases hr
 ·cases hr
end
def lp:AV->Option (List AV)
 | .val u=>(match u.oneCell' with|true=>some [.val u]|false=>none)
 | .agg cs=>some cs
 | .arr cs=>some cs
 | .bk _=>none
 | .dead=>none
 | .own _ _=>none
 | .box _=>none
 | x=>some [x]
theorem FY {v:Value} (h:v.oneCell'=true):v.cells= [v].toArray:=by
 cases v<;>first|rfl|cases h
theorem mf {I:Info} {S:Nat->Prop} {w:World} {v:Value} {x:AV} {l:List AV} (hd:Den I S w v x) (hl:lp x=some l) :
  ∃vs:List Value,v.cells=vs.toArray∧vs.length=l.length∧ ∀(j:Nat) u c,vs[j]?=some u->l[j]?=some c->Den I S w u c:=by
 have single:∀y,Den I S w v y->v.oneCell'=true->l= [y]-> ∃vs:List Value,v.cells=vs.toArray∧vs.length=l.length∧ ∀(j:Nat) u c,vs[j]?=some u->l[j]?=some c->Den I S w u c:=by
  intro y hy ho hl
  subst hl
  refine ⟨[v],FY ho,rfl,fun j u c hu hc=>?_⟩
  cases j with
  | zero=>simp at hu hc;subst hu;subst hc;exact hy
  | succ j=>simp at hu
 have xh:=hd
 cases hd with
 | rep h=>cases h with
  | val v =>
   unfold lp at hl
   simp only at hl
   split at hl
   ·rename_i ho;injection hl with hl;exact single _ xh ho hl.symm
   ·cases hl
  | nil=>injection hl with hl;exact single _ xh rfl hl.symm
  | agg vs cs hlen h=>injection hl with hl;subst hl;exact ⟨vs,rfl,hlen,fun j u c hu hc=>.rep (h j u c hu hc)⟩
  | bk vs cs hlen h=>cases hl
  | arr vs cs hlen h=>injection hl with hl;subst hl;exact ⟨vs,rfl,hlen,fun j u c hu hc=>.rep (h j u c hu hc)⟩
  | sl=>injection hl with hl;exact single _ xh rfl hl.symm
  | pC=>injection hl with hl;exact single _ xh rfl hl.symm
  | ptr=>injection hl with hl;exact single _ xh rfl hl.symm
  | kX=>injection hl with hl;exact single _ xh rfl hl.symm
 | agg vs cs hlen h=>injection hl with hl;subst hl;exact ⟨vs,rfl,hlen,h⟩
 | bk=>cases hl
 | dead=>cases hl
 | ref=>injection hl with hl;exact single _ xh rfl hl.symm
 | cD=>injection hl with hl;exact single _ xh rfl hl.symm
 | pre=>injection hl with hl;exact single _ xh rfl hl.symm
 | dB=>injection hl with hl;exact single _ xh rfl hl.symm
 | js=>injection hl with hl;exact single _ xh rfl hl.symm
 | addr=>injection hl with hl;exact single _ xh rfl hl.symm
def BQ (place:Nat->Option (Nat×Nat)) (cells:List AV):List (Nat×AV)->Option (List AV)
 | []=>some cells
 | (i,x)::rest=>match place i,lp x with
  | some (off,size),some l=>(match Nat.beq l.length size,Nat.ble (off+l.length) cells.length with
   | true,true=>BQ place (cells.take off++l++cells.drop (off+l.length)) rest
   | _,_=>none)
  | _,_=>none
theorem kv (off:Nat):∀(vs:List Value) (k:Nat) (cells:Array Value) (p:Nat),((vs.zipIdx k).foldl (fun cs (cj:Value×Nat)=>cs.setIfInBounds (off+cj.2) cj.1) cells)[p]?=if off+k≤p∧p<off+k+vs.length∧p<cells.size then vs[p-(off+k)]? else cells[p]?
 | [],k,cells,p=>by simp;omega
 | v::vs,k,cells,p=>by
  simp only [List.zipIdx_cons,List.foldl_cons]
  rw [kv off vs (k+1)]
  simp only [Array.size_setIfInBounds,List.length_cons]
  by_cases h1:off+(k+1)≤p∧p<off+(k+1)+vs.length∧p<cells.size
  ·rw [if_pos h1,if_pos ah]
   rw [show p-(off+k)=(p-(off+(k+1)))+1 by omega,List.getElem?_cons_succ]
  ·rw [if_neg h1]
   by_cases h2:off+k=p
   ·subst h2
    by_cases h3:off+k<cells.size
    ·rw [Array.getElem?_setIfInBounds_self_of_lt h3,if_pos ah];simp
    ·rw [if_neg ah,Array.getElem?_eq_none (by simp;omega),Array.getElem?_eq_none ah]
   ·rw [Array.getElem?_setIfInBounds_ne h2,if_neg ah]
theorem jk (off:Nat):∀(vs:List (Value×Nat)) (cells:Array Value),(vs.foldl (fun cs (cj:Value×Nat)=>cs.setIfInBounds (off+cj.2) cj.1) cells).size=cells.size
 | [],_=>rfl
 | v::vs,cells=>by rw [List.foldl_cons,jk off vs];simp
theorem yZ {I:Info} {S:Nat->Prop} {w:World} (place:Nat->Option (Nat×Nat)):∀(parts:List (Nat×AV)) (mo:List (Nat×Value)) (cells out:List AV) (cs:Array Value),BQ place cells parts=some out->mo.map (·.1)=parts.map (·.1) ->
  (∀(j:Nat) v x,mo[j]?=some v->parts[j]?=some x->Den I S w v.2 x.2)->cs.size=cells.length->(∀(j:Nat) u c,cs[j]?=some u->cells[j]?=some c->Den I S w u c) ->
  ∃us:List Value,Instr.fill place cs mo=some us.toArray∧us.length=out.length∧ ∀(j:Nat) u c,us[j]?=some u->out[j]?=some c->Den I S w u c
 | [],mo,cells,out,cs,hf,hm,hp,hs,hd=>by
  have:mo= []:=by simpa using hm
  subst this
  injection hf with hf;subst hf
  exact ⟨cs.toList,by simp [Instr.fill],by simpa using hs,fun j u c hu hc=>hd j u c (by simpa using hu) hc⟩
 | (i,x)::parts,mo,cells,out,cs,hf,hm,hp,hs,hd=>by
  cases mo with
  | nil=>simp at hm
  | cons p mo =>
   obtain ⟨i',v⟩:=p
   simp only [List.map_cons,List.cons.injEq] at hm
   obtain ⟨hi,hm⟩:=hm
   subst hi
   have hv:=hp 0 (i',v) (i',x) rfl rfl
   simp only [BQ] at hf
   split at hf
   ·rename_i off size l oY hl
    split at hf
    ·rename_i Ku rF
     have h1:=Nat.eq_of_beq_eq_true Ku
     have h2:off+l.length≤cells.length:=Nat.le_of_ble_eq_true rF
     obtain ⟨vs,EV,hlen,dV⟩:=mf hv hl
     have hz:v.cells.zipIdx.foldl (fun cs (cj:Value×Nat)=>cs.setIfInBounds (off+cj.2) cj.1) cs=(vs.zipIdx).foldl (fun cs (cj:Value×Nat)=>cs.setIfInBounds (off+cj.2) cj.1) cs:=by
      rw [EV];simp
     have ih:=yZ (I:=I) (S:=S) (w:=w) place parts mo (cells.take off++l++cells.drop (off+l.length)) out ((vs.zipIdx).foldl (fun cs (cj:Value×Nat)=>cs.setIfInBounds (off+cj.2) cj.1) cs) hf hm (fun j v x hv hx=>hp (j+1) v x (by simpa using hv) (by simpa using hx)) (by
       rw [jk,hs];simp only [List.length_append,List.length_take,List.length_drop];omega) (fun j u c hu hc=>by
       rw [kv off vs 0 cs j] at hu
       simp only [Nat.add_zero] at hu
       split at hu
       ·rename_i hj
        rw [List.getElem?_append_left (by simp only [List.length_append,List.length_take];omega),List.getElem?_append_right (by simp only [List.length_take];omega)] at hc
        refine dV _ u c hu ?_
        rw [←hc];congr 1;simp only [List.length_take];omega
       ·rename_i hj
        have WD:j<cs.size:=by
         rcases Nat.lt_or_ge j cs.size with h|h
         ·exact h
         ·rw [Array.getElem?_eq_none h] at hu;cases hu
        refine hd j u c hu ?_
        by_cases Vh:j<off
        ·rw [List.getElem?_append_left (by simp only [List.length_append,List.length_take];omega),List.getElem?_append_left (by simp only [List.length_take];omega),List.getElem?_take,if_pos Vh] at hc
         exact hc
        ·rw [List.getElem?_append_right (by simp only [List.length_append,List.length_take];omega),List.getElem?_drop] at hc
         rw [←hc];congr 1;simp only [List.length_append,List.length_take];omega)
     obtain ⟨us,Gc,r⟩:=ih
     refine ⟨us,?_,r⟩
     have PF:v.cells.size=l.length:=by rw [EV];simpa using hlen
     unfold Instr.fill
     rw [oY]
     simp only
     rw [if_neg (by rw [PF,←h1,hs];simp;omega),hz]
     exact Gc
    ·cases hf
   ·cases hf
def tf (P:Program):List Field->Option (List (Nat×Nat))
 | []=>some []
 | f::l=>match eC P f.type,tf P l with|some z,some m=>some ((f.offset,z)::m)|_,_=>none
theorem run_places {P:Program} {w:World}:∀(l:List Field) (m:List (Nat×Nat)),tf P l=some m->(l.mapM fun f=>(do pure (f.offset,←sizeOf f.type):Sem (Nat×Nat))).run P w= .ok m w
 | [],m,h=>by cases h;rfl
 | f::l,m,h=>by
  simp only [tf] at h
  split at h
  ·rename_i z q hz hq
   cases h
   have:=run_places (w:=w) l q hq
   have Bj:(sizeOf f.type).run P w= .ok z w:=run_sizeOf hz
   simp only [List.mapM_cons,Sem.run_bind,Bj,Result.andThen_ok,Sem.run_pure,this]
  ·cases h
def partsOf (s:AS):List (Nat×Operand)->List (Nat×AV)
 | []=>[]
 | (i,x)::l=>(i,bp s x)::partsOf s l
def zm (P:Program) (s:AS) (t:TypeId) (parts:List (Nat×Operand)):Option (AV×List Prop) :=
 match (P.info? t).bind (·.zero),P.underlying t with
 | some z,some (.struct fields)=>(match tf P fields.toList with
  | some places=>(match BQ (fun i=>places[i]?) (z.cells.toList.map bE) (partsOf s parts) with|some l=>some (.agg l,[])|none=>none)
  | none=>none)
 | some z,some (.array _ el)=>(match eC P el with
  | some k=>(match BQ (fun i=>some (i*k,k)) (z.cells.toList.map bE) (partsOf s parts) with|some l=>some (.agg l,[])|none=>none)
  | none=>none)
 | _,_=>none
section
variable {P:Program} {s:AS} {o:Oper} {h:Hint} {r:AV×List Prop}
theorem sm (parts:List (Nat×Operand)) (f:Operand->Value):(parts.map fun p=>(p.1,f p.2)).map (·.1)=(partsOf s parts).map (·.1):=by
 induction parts with
 | nil=>rfl
 | cons p l ih=>obtain ⟨i,x⟩:=p;simp only [List.map_cons,partsOf,ih]
theorem nD {S0:bn} {w0 w:World} {n:Nat} {O:List Nat} {a:Act} {φ:Nat->Option Nat} (hs:aO S0 w0 n O s a w φ):∀(parts:List (Nat×Operand)) (j:Nat) (v:Nat×Value) (x:Nat×AV),(parts.map fun p=>(p.1,a.eval p.2))[j]?=some v->(partsOf s parts)[j]?=some x->Den (az s.H φ) (aQ S0 w φ O) w v.2 x.2
 | [],j,v,x,hv,hx=>by simp at hv
 | (i,y)::l,j,v,x,hv,hx=>by
  cases j with
  | zero=>simp [partsOf] at hv hx;subst hv;subst hx;exact hs.bp y
  | succ j=>exact nD hs l j v x (by simpa using hv) (by simpa [partsOf] using hx)
theorem iO {w:World} {t:TypeId} {z:Value} (h:(P.info? t).bind (·.zero)=some z):(zeroValue t).run P w= .ok z w:=by
 cases hi:P.info? t with
 | none=>rw [hi] at h;cases h
 | some i=>rw [hi] at h;simp at h;simp [zeroValue,typeInfo,hi,h]
theorem tG {I:Info} {S:Nat->Prop} {w:World} (z:Value) (j:Nat) (u:Value) (c:AV) (hu:z.cells[j]?=some u) (hc:(z.cells.toList.map bE)[j]?=some c):Den I S w u c:=by
 rw [List.getElem?_map] at hc
 have:z.cells.toList[j]?=some u:=by simpa using hu
 rw [this] at hc
 injection hc with hc;subst hc
 exact .rep (fV u)
theorem DJ {t:TypeId} {parts:Array (Nat×Operand)} (ho:o.op= .build t parts) (hr:zm P s t parts.toList=some r):dc P s o r.1 r.2:=by
 intro hC S0 w0 n O a w φ hs
 unfold zm at hr
 have oY:(parts.map fun p=>(p.1,a.eval p.2)).toList=parts.toList.map fun p=>(p.1,a.eval p.2):=by simp
 split at hr
 ·rename_i z fields hz hu
  split at hr
  ·rename_i places hp
   split at hr
   ·rename_i l hl
    injection hr with hr;subst hr
    obtain ⟨us,Gc,hlen,dV⟩:=yZ (I:=az s.H φ) (S:=aQ S0 w φ O) (w:=w) (fun i=>places[i]?) (partsOf s parts.toList) (parts.toList.map fun p=>(p.1,a.eval p.2)) _ l z.cells hl (sm _ _) (nD hs parts.toList) (by simp) (tG z)
    refine ⟨.agg us.toArray,?_,.agg us l hlen dV⟩
    have hm:(fields.mapM fun f=>(do pure (f.offset,←sizeOf f.type):Sem (Nat×Nat))).run P w= .ok places.toArray w:=by
     rw [Array.mapM_eq_mapM_toList,Sem.run_map,run_places _ _ hp];rfl
    have Qf:Instr.fill (fun i=>places.toArray[i]?) z.cells (parts.map fun p=>(p.1,a.eval p.2)).toList=some us.toArray:=by
     rw [oY,←Gc];congr 1;funext i;simp
    unfold execOp
    simp only [ho,Instr.build,Sem.run_bind,iO hz,Result.andThen_ok,run_underlying hu]
    rw [hm]
    simp only [Result.andThen_ok]
    rw [Qf]
    rfl
   ·cases hr
  ·cases hr
 ·rename_i z n' el hz hu
  split at hr
  ·rename_i k hk
   split at hr
   ·rename_i l hl
    injection hr with hr;subst hr
    obtain ⟨us,Gc,hlen,dV⟩:=yZ (I:=az s.H φ) (S:=aQ S0 w φ O) (w:=w) (fun i=>some (i*k,k)) (partsOf s parts.toList) (parts.toList.map fun p=>(p.1,a.eval p.2)) _ l z.cells hl (sm _ _) (nD hs parts.toList) (by simp) (tG z)
    refine ⟨.agg us.toArray,?_,.agg us l hlen dV⟩
    have oK:(sizeOf el).run P w= .ok k w:=run_sizeOf hk
    unfold execOp
    simp only [ho,Instr.build,Sem.run_bind,iO hz,Result.andThen_ok,run_underlying hu,oK]
    rw [oY,Gc]
    rfl
   ·cases hr
  ·cases hr
 ·cases hr
def qv (P:Program) (s:AS) (o:Oper) (h:Hint):Option (AV×List Prop) :=
 match o.op with
 | .move x=>some (fin h (bp s x,[]))
 | .assign x=>some (fin h (bp s x,[]))
 | .binOp op t x y _=>(match bp s x,bp s y with
  | .val u,.val v=>(match JE P op t x y u v with|some r=>some (fin h r)|none=>none)
  | .agg cs,.agg ds=>(match zf P op t cs ds with|some r=>some (fin h r)|none=>none)
  | .arr cs,.arr ds=>ze P op t cs ds h
  | _,_=>none)
 | .unOp op _ x=>(match bp s x with| .val u=>(match N9 P op u with|some r=>some (fin h r)|none=>none)|_=>none)
 | .convert src dst x=>DG P s src dst (bp s x) h
 | .load t x=>Du P s t (bp s x) h
 | .fieldAddr t x f=>nV P t (bp s x) f
 | .indexAddr t x i=>(match bp s i with| .val (.int _ n)=>Jy P s t (bp s x) n h|_=>none)
 | .index t x i=>(match bp s i with| .val (.int _ n)=>za P t (bp s x) n h|_=>none)
 | .slice t x lo hi mx=>(match vy s lo hi mx with|some c=>y9 P s t (bp s x) c h|none=>none)
 | .field t x f=>zc P t (bp s x) f h
 | .extract x i=>rP (bp s x) i
 | .nilCheck x=>Ju (bp s x)
 | .pick c x y=>(match Dr s c x y h with|some r=>some (fin h r)|none=>none)
 | .build t parts=>zm P s t parts.toList
 | .sliceToArrayPointer t x=>zn P s t (bp s x)
 | .call ⟨.builtin .len,⟨[x]⟩,ts⟩=>Jw P s ts o.type (bp s x) h
 | .call ⟨.builtin b,xs,ts⟩=>(match tQ s xs.toList with|some us=>(match Oc P b ts o.type us with|some r=>some (fin h r)|none=>none)|none=>none)
 | _=>none
theorem kU (hr:qv P s o h=some r):dc P s o r.1 r.2:=by
 unfold qv at hr
 split at hr
 ·rename_i x ho
  injection hr with hr;subst hr
  refine gD fun _ S0 w0 n O a w φ hs=>⟨a.eval x,?_,hs.bp x⟩
  unfold execOp;simp only [ho];rfl
 ·rename_i x ho
  injection hr with hr;subst hr
  refine gD fun _ S0 w0 n O a w φ hs=>⟨a.eval x,?_,hs.bp x⟩
  unfold execOp;simp only [ho];rfl
 ·rename_i op t x y t' ho
  split at hr
  ·rename_i u v hu hv
   split at hr
   ·rename_i q hq
    injection hr with hr;subst hr
    exact gD (JD ho hu hv hq)
   ·cases hr
  ·rename_i cs ds hu hv
   split at hr
   ·rename_i q hq
    injection hr with hr;subst hr
    exact gD (Dz ho hu hv hq)
   ·cases hr
  ·rename_i cs ds hu hv
   exact Dy ho hu hv hr
  ·cases hr
 ·rename_i op t x ho
  split at hr
  ·rename_i u hu
   split at hr
   ·rename_i q hq
    injection hr with hr;subst hr
    exact gD (LL ho hu hq)
   ·cases hr
  ·cases hr
 ·rename_i ho;exact GH ho hr
 ·rename_i ho;exact Gz ho hr
 ·rename_i ho;exact vp ho hr
 ·rename_i ho
  split at hr
  ·rename_i hi;exact Jx ho hi hr
  ·cases hr
 ·rename_i ho
  split at hr
  ·rename_i hi;exact Dv ho hi hr
  ·cases hr
 ·rename_i ho
  split at hr
  ·rename_i hc;exact Dq ho hc hr
  ·cases hr
 ·rename_i ho;exact Dx ho hr
 ·rename_i ho;exact zd ho hr
 ·rename_i ho;exact Jt ho hr
 ·rename_i ho
  split at hr
  ·rename_i q hq
   injection hr with hr;subst hr
   exact gD (Gw ho hq)
  ·cases hr
 ·rename_i ho;exact DJ ho hr
 ·rename_i ho;exact DK ho hr
 ·rename_i ho;exact Jv ho hr
 ·rename_i b xs ts _ ho
  split at hr
  ·rename_i us hu
   split at hr
   ·rename_i q hq
    injection hr with hr;subst hr
    exact gD (LM ho hu hq)
   ·cases hr
  ·cases hr
 ·cases hr
end
def mi (P:Program) (n:Nat) (s:AS) (o:Oper) (s':AS) (C:List Prop):Prop :=
 bz C-> ∀S0 w0 a w Q,ix S0 w0 n s a w->o.wp P a w (fun a' w'=>ix S0 w0 n s' a' w') Q
def gr (n:Nat) (s:AS) (d:Option Nat) (x:AV):Option AS :=
 match d with
 | none=>some s
 | some d=>(match Nat.blt d n,Nat.ble n 1000000000 with|true,true=>some (lx s d x)|_,_=>none)
theorem dX {S0:bn} {w0 w:World} {n:Nat} {O:List Nat} {s s':AS} {a:Act} {φ:Nat->Option Nat} {d:Option Nat} {v:Value} {x:AV} (h:aO S0 w0 n O s a w φ) (hx:Den (az s.H φ) (aQ S0 w φ O) w v x) (hp:gr n s d x=some s'):aO S0 w0 n O s' (a.put d v) w φ:=by
 unfold gr at hp
 split at hp
 ·injection hp with hp;subst hp
  exact ⟨h.jS,h.jV,h.cZ,h.cC,h.rows,h.only,h.inj,h.cY,h.apart,h.new⟩
 ·split at hp
  ·rename_i d _ _ hb _
   injection hp with hp;subst hp
   have hd:d<n:=by simpa [Nat.blt_eq] using hb
   exact h.put hd hx
  ·cases hp
theorem cU {P:Program} {o:Oper} {a:Act} {w w':World} {v:Value} {next:Act->World->Prop} {Q:Exit->Act->World->Prop} (cw:(execOp a.eval o).run P w= .ok (.value v) w') (hn:next (a.put o.dst v) w'):o.wp P a w next Q:=by
 unfold Oper.wp
 rw [cw]
 exact hn
theorem iT {n:Nat} {s s':AS} {d:Nat} {x:AV} (hp:gr n s (some d) x=some s'):d<1000000000000:=by
 unfold gr at hp
 simp only at hp
 split at hp
 ·rename_i h1 h2
  have h1:d<n:=by simpa [Nat.blt_eq] using h1
  have h2:=Nat.le_of_ble_eq_true h2
  omega
 ·cases hp
theorem H3 {P:Program} {n:Nat} {s s':AS} {o:Oper} {x:AV} {C:List Prop} (h:dc P s o x C) (hp:gr n s o.dst x=some s'):mi P n s o s' C:=by
 intro hC S0 w0 a w Q ⟨φ,hs⟩
 obtain ⟨v,cw,dV⟩:=h hC S0 w0 n [] a w φ hs
 unfold Oper.wp
 rw [cw]
 exact ⟨φ,dX hs dV hp⟩
def named (h:Hint) (cells:List AV):List AV×List Prop:=match h.av with|some (.arr row)=>(row,[cells=row])|_=>(cells,[])
theorem hU {h:Hint} {cells:List AV} {C:List Prop} (hC:bz ((named h cells).2++C)):(named h cells).1=cells∧bz C:=by
 unfold named at *
 split at hC
 ·exact ⟨hC.1.symm,hC.2⟩
 ·exact ⟨rfl,hC⟩
def install (s:AS) (id:Nat) (r:Row):AS:=⟨(cp id s).F,(id,r)::(cp id s).H⟩
section
variable {S0:bn} {w0 w w':World} {n:Nat} {s:AS} {a:Act} {φ:Nat->Option Nat}
theorem aO.mv (h:aO S0 w0 n [] s a w φ) (id:Nat):aO S0 w0 n [] (cp id s) a w (erase φ id):=by
 cases ct:φ id with
 | none=>exact h.jx id [] (by rw [ct])
 | some g=>exact (h.jx id [g] (by rw [ct])).vf
theorem dp (id:Nat):look (cp id s).H id=none:=by
 unfold cp;rw [cy,bJ,if_pos rfl];rfl
theorem aO.fresh (h:aO S0 w0 n [] s a w φ) (id:Nat) (r:Row) (hid:id<1000000000000) (IP:w'.os=w.os) (uQ:w'.tape=w.tape) (uR:w'.output=w.output) (dw:w.heap.size<w'.heap.size) (hb:∀b,b<w.heap.size->w'.heap[b]?=w.heap[b]?)
  {cur:Array Value} {te:TypeId} {fr:Nat×Nat} (hg:w'.heap[w.heap.size]?=some (.cells cur te fr)) (gJ:∀j,j<cur.size-> ¬(fr.1≤j∧j<fr.2)) (hl:r.cells.length≤cur.size) (m7:r.full=true->cur.size=r.cells.length)
  (hc:∀(j:Nat) u x,cur[j]?=some u->r.cells[j]?=some x->(r.pure=true->cB (aQ S0 w φ []) w u x)∧(r.pure=false-> ∃y,x=aB id y∧Den (az s.H φ) (aQ S0 w φ []) w u y)) :
  aO S0 w0 n [] (install s id r) a w' (fI (erase φ id) id w.heap.size):=by
 have h1:=h.mv id
 have h2:=h1.await w.heap.size (Nat.le_refl _)
 have h3:=h2.wK (w':=w') (fun g hg=>by simp at hg;rw [hg];exact .inl h.cZ.size) IP uQ uR (Nat.le_of_lt dw) (fun b Ku _=>hb b Ku)
 have Ul:∀b,aQ S0 w φ [] b->aQ S0 w (erase φ id) [] b:=by
  intro b ⟨h1,h2,h3,h4⟩
  refine ⟨h1,h2,fun i hi=>?_,h4⟩
  unfold erase at hi
  split at hi
  ·cases hi
  ·exact h3 i hi
 have hF:∀b,aQ S0 w (erase φ id) [] b->aQ S0 w' (erase φ id) [w.heap.size] b∧w'.heap[b]?=w.heap[b]?:=by
  intro b ⟨h1,h2,h3⟩
  exact ⟨⟨ah,by simp;omega,h3⟩,hb b h1⟩
 refine h3.xz ⟨.inl hid,.inl h.cZ.size⟩ dw (by simp) (dp id) ⟨cur,te,fr,hg,gJ,hl,m7,fun j u x hu hx=>?_⟩
 obtain ⟨hp,hi⟩:=hc j u x hu hx
 unfold bh
 cases qo:r.pure with
 | true=>exact ((hp qo).mono fun b hb=>⟨Ul b hb,rfl⟩).mono hF
 | false =>
  obtain ⟨y,rfl,hy⟩:=hi qo
  have hk:=(uM id (nK id) Ul).all hy
  exact hk.mono (fun _ _ h=>h) hF (fun i e m g hi=>by
   obtain ⟨q,-,-,-,hg⟩:=aT hi
   unfold a7;rw [hb g (h1.cY i g hg).2])
theorem fp (id:Nat) (r:Row) (g:Nat):az (install s id r).H (fI (erase φ id) id g) id=some (r.e,r.cells.length,some g):=by
 rw [bu (r:=r) (by unfold install;rw [aF,if_pos rfl])]
 unfold fI;rw [if_pos rfl]
end
def rV (P:Program) (t:TypeId):Nat:=match P.underlying t with|some (.array _ el)=>(match eC P el with|some k=>k|none=>1)|_=>1
theorem il {α:Type} (f:Nat->α):(Array.range 0).map f= #[]:=Array.eq_empty_of_size_eq_zero (by simp)
def ow (P:Program) (n:Nat) (s:AS) (d t:Nat) (h:Hint):Option (AS×List Prop) :=
 match (P.info? t).bind (·.zero) with
 | some z=>(match h.av with
  | some (.arr row)=>(match gr n (install s d ⟨rV P t,true,true,row⟩) (some d) (.addr d 0) with|some s'=>some (s',[z.cells.toList.map bE=row])|none=>none)
  | _=>(match gr n (install s d ⟨rV P t,false,true,z.cells.toList.map bE⟩) (some d) (.addr d 0) with|some s'=>some (s',[])|none=>none))
 | none=>none
theorem dM (w:World) (o:Obj):({w with heap:=w.heap.push o}:World).heap[w.heap.size]?=some o:=by simp
theorem cL (w:World) (o:Obj) (b:Nat) (h:b<w.heap.size):({w with heap:=w.heap.push o}:World).heap[b]?=w.heap[b]?:=by
 show (w.heap.push o)[b]?=_
 rw [Array.getElem?_push,if_neg ah]
section
variable {P:Program} {n:Nat} {s:AS} {o:Oper} {h:Hint} {q:AS×List Prop}
theorem CZ (id:Nat) (v:Value):aB id (bE v)=bE v:=by
 unfold bE
 split<;>rfl
theorem vr {t d:Nat} (ho:o.op= .alloc t) (hd:o.dst=some d) (hr:ow P n s d t h=some q):mi P n s o q.1 q.2:=by
 intro hC S0 w0 a w Q ⟨φ,hs⟩
 unfold ow at hr
 split at hr
 ·rename_i z hz
  have cw:(execOp a.eval o).run P w= .ok (.value (.pointer (some ⟨w.heap.size,0,none⟩))) {w with heap:=w.heap.push (.cells z.cells t (0,0))}:=by
   unfold execOp
   simp [ho,Instr.alloc,iO hz,newVar,newRow]
  refine cU cw ?_
  rw [hd]
  split at hr
  ·rename_i row _
   split at hr
   ·rename_i s' b7
    injection hr with hr;subst hr
    have e:=hC.1
    have h1:=hs.fresh (w':={w with heap:=w.heap.push (.cells z.cells t (0,0))}) d ⟨rV P t,true,true,row⟩ (iT b7) rfl rfl rfl (by simp) (cL w _) (dM w _) (by simp) (by simp [←e]) (by simp [←e]) (fun j u x hu hx=>⟨fun _=>by
     simp only [←e,List.getElem?_map] at hx
     have:z.cells.toList[j]?=some u:=by simpa using hu
     rw [this] at hx;injection hx with hx;subst hx;exact fV u,fun h=>by cases h⟩)
    exact ⟨_,dX h1 (.addr d 0 _ _ _ (fp d _ _)) b7⟩
   ·cases hr
  ·split at hr
   ·rename_i s' b7
    injection hr with hr;subst hr
    have h1:=hs.fresh (w':={w with heap:=w.heap.push (.cells z.cells t (0,0))}) d ⟨rV P t,false,true,z.cells.toList.map bE⟩ (iT b7) rfl rfl rfl (by simp) (cL w _) (dM w _) (by simp) (by simp) (by simp) (fun j u x hu hx=>⟨fun h=>(by cases h),fun _=>by
     simp only [List.getElem?_map] at hx
     have:z.cells.toList[j]?=some u:=by simpa using hu
     rw [this] at hx;injection hx with hx;subst hx
     exact ⟨bE u,(CZ d u).symm,.rep (fV u)⟩⟩)
    exact ⟨_,dX h1 (.addr d 0 _ _ _ (fp d _ _)) b7⟩
   ·cases hr
 ·cases hr
def JC (P:Program) (n:Nat) (s:AS) (d t:Nat) (x:AV):Option (AS×List Prop) :=
 match x with
 | .arr row=>(match gr n (install s d ⟨rV P t,true,true,row⟩) (some d) (.addr d 0) with|some s'=>some (s',[])|none=>none)
 | x=>(match lp x with
  | some l=>(match gr n (install s d ⟨rV P t,false,true,l.map (aB d)⟩) (some d) (.addr d 0) with|some s'=>some (s',[])|none=>none)
  | none=>none)
theorem JB {t d:Nat} {x:Operand} (ho:o.op= .box t x) (hd:o.dst=some d) (hr:JC P n s d t (bp s x)=some q):mi P n s o q.1 q.2:=by
 intro hC S0 w0 a w Q ⟨φ,hs⟩
 have hx:=hs.bp x
 have cw:(execOp a.eval o).run P w= .ok (.value (.pointer (some ⟨w.heap.size,0,none⟩))) {w with heap:=w.heap.push (.cells (a.eval x).cells t (0,0))}:=by
  unfold execOp
  simp [ho,Instr.box,newVar,newRow]
 refine cU cw ?_
 rw [hd]
 unfold JC at hr
 split at hr
 ·rename_i row he
  split at hr
  ·rename_i s' b7
   injection hr with hr;subst hr
   rw [he] at hx
   obtain ⟨vs,hv,hl,b_⟩:=qF hx
   have dN:(a.eval x).cells=vs.toArray:=by rw [hv];rfl
   rw [dN]
   have h1:=hs.fresh (w':={w with heap:=w.heap.push (.cells vs.toArray t (0,0))}) d ⟨rV P t,true,true,row⟩ (iT b7) rfl rfl rfl (by simp) (cL w _) (dM w _) (by simp) (by simp [hl]) (by simp [hl]) (fun j u x hu hx=>⟨fun _=>b_ j u x (by simpa using hu) hx,fun h=>by cases h⟩)
   exact ⟨_,dX h1 (.addr d 0 _ _ _ (fp d _ _)) b7⟩
  ·cases hr
 ·split at hr
  ·rename_i l hl
   split at hr
   ·rename_i s' b7
    injection hr with hr;subst hr
    obtain ⟨vs,dN,hlen,dV⟩:=mf hx hl
    rw [dN]
    have h1:=hs.fresh (w':={w with heap:=w.heap.push (.cells vs.toArray t (0,0))}) d ⟨rV P t,false,true,l.map (aB d)⟩ (iT b7) rfl rfl rfl (by simp) (cL w _) (dM w _) (by simp) (by simp [hlen]) (by simp [hlen]) (fun j u x hu hx=>⟨fun h=>(by cases h),fun _=>by
     simp only [List.getElem?_map] at hx
     cases hj:l[j]? with
     | none=>rw [hj] at hx;cases hx
     | some y=>rw [hj] at hx;injection hx with hx;subst hx;exact ⟨y,rfl,dV j u y (by simpa using hu) hj⟩⟩)
    exact ⟨_,dX h1 (.addr d 0 _ _ _ (fp d _ _)) b7⟩
   ·cases hr
  ·cases hr
def Py:AV->List Nat
 | .ref i=>[i]
 | .pre i _=>[i]
 | .js i _ _=>[i]
 | .addr i _=>[i]
 | _=>[]
def oI:AV->List Nat
 | .agg cs=>cs.flatMap Py
 | x=>Py x
def fT:AS->List Nat->Option AS
 | s,[]=>some s
 | s,i::l=>match look s.H i with
  | some r=>(match r.pure with|true=>fT (gq i r s) l|false=>none)
  | none=>fT s l
theorem fS {S0:bn} {w0 w:World} {a:Act}:∀(l:List Nat) (s s':AS) (φ:Nat->Option Nat),fT s l=some s'->aO S0 w0 n [] s a w φ-> ∃ cA,aO S0 w0 n [] s' a w cA
 | [],s,s',φ,h,hs=>by cases h;exact ⟨φ,hs⟩
 | i::l,s,s',φ,h,hs=>by
  simp only [fT] at h
  split at h
  ·rename_i r hr
   split at h
   ·rename_i hp
    exact fS l _ s' _ h (hs.Md hr hp)
   ·cases h
  ·exact fS l s s' φ h hs
def ij:AV->Bool
 | .val u=>u.oneCell'
 | .nil=>true
 | .sl _ _=>true
 | .ptr _ _=>true
 | .kX _ _=>true
 | _=>false
def dZ:List AV->Bool
 | []=>true
 | x::l=>match ij x with|true=>dZ l|false=>false
theorem eK {I:Info} {S:Nat->Prop} {w:World} {v:Value} {x:AV} (hd:Den I S w v x) (hp:ij x=true):cB S w v x∧v.oneCell'=true:=by
 cases hd with
 | rep h=>refine ⟨h,?_⟩;cases h<;>first|exact hp|rfl|cases hp
 | _=>cases hp
theorem iB:∀ {l:List AV} {j:Nat} {x:AV},dZ l=true->l[j]?=some x->ij x=true
 | [],j,x,_,h=>by simp at h
 | y::l,j,x,hp,h=>by
  simp only [dZ] at hp
  split at hp
  ·rename_i hy
   cases j with
   | zero=>simp at h;subst h;exact hy
   | succ j=>exact iB hp (by simpa using h)
  ·cases hp
def gg (s:AS) (z:Nat):Nat->List (Nat×Operand)->Option (List AV)
 | _,[]=>some []
 | i,(j,x)::l=>match Nat.beq i j,lp (bp s x),gg s z (i+1) l with
  | true,some c,some m=>(match Nat.beq c.length z with|true=>some (c++m)|false=>none)
  | _,_,_=>none
def vm (P:Program) (n:Nat) (s:AS) (d t len:Nat) (parts:List (Nat×Operand)) (h:Hint):Option (AS×List Prop) :=
 match P.underlying t with
 | some (.slice el)=>(match eC P el,(P.info? el).bind (·.zero),fT s (parts.flatMap fun p=>oI (bp s p.2)) with
  | some (z+1),some zero,some s1=>(match gg s1 (z+1) 0 parts,Nat.beq parts.length len,Nat.ble (len*(z+1)) 16777216 with
   | some cells,true,true=>(match Nat.beq zero.cells.size (z+1) with
    | true=>(match h.av with
     | some (.arr row)=>(match dZ cells,gr n (install s1 d ⟨z+1,true,true,row⟩) (some d) (.ref d) with|true,some s'=>some (s',[cells=row])|_,_=>none)
     | _=>(match dZ cells,gr n (install s1 d ⟨z+1,true,true,cells⟩) (some d) (.ref d) with|true,some s'=>some (s',[])|_,_=>none))
    | false=>none)
   | _,_,_=>none)
  | _,_,_=>none)
 | _=>none
theorem CX {S0:bn} {w0 w:World} {a:Act} {φ:Nat->Option Nat} (hs:aO S0 w0 n [] s a w φ) (z:Nat):∀(parts:List (Nat×Operand)) (i:Nat) (cells:List AV) (cur:Array Value),gg s z i parts=some cells->dZ cells=true->i*z+parts.length*z=cur.size ->
  cells.length=parts.length*z∧ ∃us:Array Value,Instr.fill (fun i=>some (i*z,z)) cur (parts.map fun p=>(p.1,a.eval p.2))=some us∧us.size=cur.size∧(∀j,j<i*z->us[j]?=cur[j]?)∧ ∀(j:Nat) u x,us[i*z+j]?=some u->cells[j]?=some x->cB (aQ S0 w φ []) w u x
 | [],i,cells,cur,hc,hp,dw=>by cases hc;exact ⟨by simp,cur,rfl,rfl,fun _ _=>rfl,fun j u x _ hx=>by simp at hx⟩
 | (j,x)::l,i,cells,cur,hc,hp,dw=>by
  simp only [gg] at hc
  split at hc
  ·rename_i c m Nx Lv hm
   split at hc
   ·rename_i Lu
    cases hc
    have Nx:=Nat.eq_of_beq_eq_true Nx
    have Lu:=Nat.eq_of_beq_eq_true Lu
    subst Nx
    obtain ⟨vs,hv,hlen,dV⟩:=mf (hs.bp x) Lv
    have Sa:dZ m=true:=by
     have key:∀(c m:List AV),dZ (c++m)=true->dZ m=true:=by
      intro c
      induction c with
      | nil=>intro m h;exact h
      | cons y c ih =>
       intro m h
       simp only [List.cons_append,dZ] at h
       split at h
       ·exact ih m h
       ·cases h
     exact key c m hp
    simp only [List.length_cons] at dw
    have Ld:(l.length+1)*z=l.length*z+z:=by rw [Nat.add_mul,Nat.one_mul]
    have cX:(i+1)*z=i*z+z:=by rw [Nat.add_mul,Nat.one_mul]
    have I6:((a.eval x).cells.zipIdx.foldl (fun cs (cj:Value×Nat)=>cs.setIfInBounds (i*z+cj.2) cj.1) cur)=(vs.zipIdx.foldl (fun cs (cj:Value×Nat)=>cs.setIfInBounds (i*z+cj.2) cj.1) cur):=by rw [hv];simp
    obtain ⟨E3,us,Gc,IF,IE,Np⟩:=CX hs z l (i+1) m (vs.zipIdx.foldl (fun cs (cj:Value×Nat)=>cs.setIfInBounds (i*z+cj.2) cj.1) cur) hm Sa (by rw [jk];omega)
    rw [jk] at IF
    refine ⟨by rw [List.length_append,List.length_cons,E3,Lu];omega,us,?_,IF,fun j hj=>?_,fun j u y hu hy=>?_⟩
    ·rw [List.map_cons]
     unfold Instr.fill
     simp only
     have PF:(a.eval x).cells.size=z:=by rw [hv];simp;omega
     rw [if_neg (by rw [PF];simp;omega),I6]
     exact Gc
    ·rw [IE j ah,kv,if_neg ah]
    ·by_cases hj:j<z
     ·rw [IE _ ah,kv,if_pos ah] at hu
      rw [List.getElem?_append_left ah] at hy
      have R2:vs[j]?=some u:=by rw [←hu];congr 1;omega
      exact (eK (dV j u y R2 hy) (iB (l:=c++m) (j:=j) hp (by rw [List.getElem?_append_left ah];exact hy))).1
     ·rw [List.getElem?_append_right ah] at hy
      refine Np (j-z) u y ?_ (by rw [←hy,Lu])
      rw [←hu];congr 1;omega
   ·cases hc
  ·cases hc
theorem BV {t d len:Nat} {parts:Array (Nat×Operand)} (ho:o.op= .buildSlice t len parts) (hd:o.dst=some d) (hr:vm P n s d t len parts.toList h=some q):mi P n s o q.1 q.2:=by
 intro hC S0 w0 a w Q ⟨Rw,lP⟩
 unfold vm at hr
 split at hr
 ·rename_i el hu
  split at hr
  ·rename_i z zero s1 hz hzero PJ
   obtain ⟨φ,hs⟩:=fS _ _ _ _ PJ lP
   split at hr
   ·rename_i cells dN hlen Bx
    split at hr
    ·rename_i uP
     have uP:=Nat.eq_of_beq_eq_true uP
     have hlen:=Nat.eq_of_beq_eq_true hlen
     have Bx:len*(z+1)≤16777216:=Nat.le_of_ble_eq_true Bx
     have cw:dZ cells=true-> ∃us:Array Value,(execOp a.eval o).run P w= .ok (.value (.slice (some ⟨w.heap.size,0,none⟩) len len)) {w with heap:=w.heap.push (.cells us el (0,0))}∧us.size=cells.length∧cells.length=(z+1)*len∧ ∀(j:Nat) u x,us[j]?=some u->cells[j]?=some x->cB (aQ S0 w φ []) w u x:=by
      intro hp
      obtain ⟨h1,us,h2,h3,-,h4⟩:=CX hs (z+1) parts.toList 0 cells ((Array.range (len*(z+1))).map (zero.cells[· %zero.cells.size]!)) dN hp (by simp [←hlen])
      refine ⟨us,?_,by rw [h3,h1,hlen];simp,by rw [h1,hlen,Nat.mul_comm],fun j u x hu hx=>h4 j u x (by simpa using hu) hx⟩
      have Bj:(sizeOf el).run P w= .ok (z+1) w:=run_sizeOf hz
      have oY:(parts.map fun p=>(p.1,a.eval p.2)).toList=parts.toList.map fun p=>(p.1,a.eval p.2):=by simp
      unfold execOp
      simp only [ho,Instr.buildSlice,Sem.run_bind,run_underlying hu,Result.andThen_ok,Bj,Sem.run_ite]
      rw [if_neg ah]
      by_cases h0:len*(z+1)=0
      ·rw [if_pos h0]
       simp only [Sem.run_pure,Result.andThen_ok]
       have:(Array.range (len*(z+1))).map (fun x=>(#[]:Array Value)[x%(#[]:Array Value).size]!)=(Array.range (len*(z+1))).map (fun x=>zero.cells[x%zero.cells.size]!):=by rw [h0,il,il]
       rw [this,oY,h2]
       rfl
      ·rw [if_neg h0]
       simp only [iO hzero,Result.andThen_ok,Sem.run_pure]
       rw [oY,h2]
       rfl
     have hm:len≤maxLen:=by
      have:len≤len*(z+1):=Nat.le_mul_of_pos_right _ ah
      unfold maxLen;omega
     split at hr
     ·rename_i row _
      split at hr
      ·rename_i s' hp b7
       injection hr with hr;subst hr
       obtain ⟨us,cw,h1,h2,h3⟩:=cw hp
       have e:=hC.1
       subst e
       refine cU cw ?_
       rw [hd]
       have hf:=hs.fresh (w':={w with heap:=w.heap.push (.cells us el (0,0))}) d ⟨z+1,true,true,cells⟩ (iT b7) rfl rfl rfl (by simp) (cL w _) (dM w _) (by simp) (by simp [h1]) (by simp [h1]) (fun j u x hu hx=>⟨fun _=>h3 j u x hu hx,fun h=>by cases h⟩)
       exact ⟨_,dX hf (.ref d _ _ _ len len (fp d _ _) h2 (Nat.le_refl _) hm (by unfold a7;rw [dM];show us.size=_;rw [h1,h2])) b7⟩
      ·cases hr
     ·split at hr
      ·rename_i s' hp b7
       injection hr with hr;subst hr
       obtain ⟨us,cw,h1,h2,h3⟩:=cw hp
       refine cU cw ?_
       rw [hd]
       have hf:=hs.fresh (w':={w with heap:=w.heap.push (.cells us el (0,0))}) d ⟨z+1,true,true,cells⟩ (iT b7) rfl rfl rfl (by simp) (cL w _) (dM w _) (by simp) (by simp [h1]) (by simp [h1]) (fun j u x hu hx=>⟨fun _=>h3 j u x hu hx,fun h=>by cases h⟩)
       exact ⟨_,dX hf (.ref d _ _ _ len len (fp d _ _) h2 (Nat.le_refl _) hm (by unfold a7;rw [dM];show us.size=_;rw [h1,h2])) b7⟩
      ·cases hr
    ·cases hr
   ·cases hr
  ·cases hr
 ·cases hr
def tF (zs:List AV) (k:Nat):List AV:=match zs with| [x]=>List.replicate k x|zs=>(List.replicate k zs).flatten
theorem Ff (zs:List AV) (e:Nat) (he:zs.length=e) (h0:0<e):∀(k j:Nat) (x:AV),((List.replicate k zs).flatten)[j]?=some x->zs[j%e]?=some x
 | 0,j,x,h=>by simp at h
 | k+1,j,x,h=>by
  rw [List.replicate_succ,List.flatten_cons] at h
  by_cases hj:j<e
  ·rw [List.getElem?_append_left ah] at h
   rw [Nat.mod_eq_of_lt hj];exact h
  ·rw [List.getElem?_append_right ah] at h
   have:=Ff zs e he h0 k _ x h
   rw [he] at this
   rw [show j%e=(j-e)%e from ?_]
   ·exact this
   ·rw [Nat.mod_eq_sub_mod ah]
theorem xE (zs:List AV) (e:Nat) (he:zs.length=e) (h0:0<e) (k j:Nat) (x:AV) (h:(tF zs k)[j]?=some x):zs[j%e]?=some x:=by
 unfold tF at h
 split at h
 ·simp at he
  subst he
  rw [List.getElem?_replicate] at h
  split at h
  ·injection h with h;subst h;simp [Nat.mod_one]
  ·cases h
 ·exact Ff zs e he h0 k j x h
theorem tE (zs:List AV) (e:Nat) (he:zs.length=e) (k:Nat):(tF zs k).length=e*k:=by
 unfold tF
 split
 ·simp at he;subst he;simp
 ·rw [List.length_flatten];simp [he,Nat.mul_comm]
def Dt (P:Program) (n:Nat) (s:AS) (d t:Nat) (L C:Int) (h:Hint):Option (AS×List Prop) :=
 match P.underlying t with
 | some (.slice el)=>(match P.info? el with
  | some i=>(match i.zero,i.size with
   | some zero,z+1=>(match Nat.beq zero.cells.size (z+1) with
    | true=>(match gr n (install s d ⟨z+1,true,false,(named h (tF (zero.cells.toList.map bE) h.k)).1⟩) (some d) (.ref d) with
     | some s'=>some (s',(named h (tF (zero.cells.toList.map bE) h.k)).2++ [L=(h.k:Int),C=(h.m:Int),h.k≤h.m,i.bytes*h.m≤281474976710656,h.m≤maxLen])|none=>none)
    | false=>none)
   | _,_=>none)
  | none=>none)
 | _=>none
theorem run_make {P:Program} {o:Oper} {ev:Operand->Value} {t:Nat} {l c:Operand} {kl kc:IntKind} {L C:Int} {el:TypeId} {i:TypeInfo} {zero:Value} {z k m:Nat} (ho:o.op= .makeSlice t l c) (MC:ev l= .int kl L) (ec:ev c= .int kc C) (hu:P.underlying t=some (.slice el)) (hi:P.info? el=some i) (hz:i.zero=some zero) (dw:i.size=z+1) (hb:zero.cells.size=z+1)
  (h1:L=(k:Int)) (h2:C=(m:Int)) (h3:k≤m) (h4:i.bytes*m≤281474976710656) (h5:m≤maxLen) (w:World) :
  ∃cur:Array Value,(execOp ev o).run P w= .ok (.value (.slice (some ⟨w.heap.size,0,none⟩) k m)) {w with heap:=w.heap.push (.cells cur el (0,0))}∧cur.size=(z+1)*m∧ ∀(j:Nat) u,cur[j]?=some u->zero.cells[j%(z+1)]?=some u:=by
 have Wz:m≤9223372036854775807:=by have:=h5;unfold maxLen at this;omega
 have wl:IntKind.i64.wrap L=(k:Int):=by rw [h1,IntKind.wrap_i64];omega
 have wc:IntKind.i64.wrap C=(m:Int):=by rw [h2,IntKind.wrap_i64];omega
 have VD:((i.bytes:Int)*(m:Int))≤281474976710656:=by
  have Rm:((i.bytes*m:Nat):Int)≤281474976710656:=ah
  rw [Int.natCast_mul] at Rm;exact Rm
 have UJ:(zeroValue el).run P w= .ok zero w:=iO (by rw [hi];exact hz)
 have TS:(sizeOf el).run P w= .ok (z+1) w:=by simp [sizeOf,typeInfo,hi,dw]
 have TP:(typeInfo el).run P w= .ok i w:=by simp [typeInfo,hi]
 have t1:¬((m:Int)<0):=ah
 have t2:¬(281474976710656<(i.bytes:Int)*(m:Int)):=ah
 have t3:¬((k:Int)<0):=ah
 have t4:¬((m:Int)<(k:Int)):=ah
 by_cases h0:m*(z+1)=0
 ·refine ⟨#[],?_,by rw [Nat.mul_comm];simp [h0],fun j u hu=>by simp at hu⟩
  unfold execOp
  simp [ho,MC,ec,Instr.makeSlice,run_underlying hu,TP,TS,asInt,asIntOf,wl,wc,t1,t2,t3,t4,newRow]
  have:m=0:=by
   rcases Nat.eq_zero_or_pos m with h6|h6
   ·exact h6
   ·have:=Nat.mul_pos h6 (ah:0<z+1);omega
  simp [this,il]
 ·refine ⟨(Array.range (m*(z+1))).map (zero.cells[· %zero.cells.size]!),?_,by simp [Nat.mul_comm],fun j u hu=>?_⟩
  ·unfold execOp
   simp [ho,MC,ec,Instr.makeSlice,run_underlying hu,TP,TS,asInt,asIntOf,wl,wc,t1,t2,t3,t4,newRow,UJ]
   exact fun e=>absurd e h0
  ·simp only [Array.getElem?_map] at hu
   cases hj:(Array.range (m*(z+1)))[j]? with
   | none=>rw [hj] at hu;cases hu
   | some k =>
    have hk:k=j:=by
     have:=Array.getElem?_eq_some_iff.1 hj
     obtain ⟨dk,he⟩:=this
     rw [←he];simp
    subst hk
    rw [hj] at hu
    injection hu with hu
    rw [hb] at hu
    have dk:k%(z+1)<zero.cells.size:=by rw [hb];exact Nat.mod_lt _ ah
    simp [getElem!_pos,dk] at hu
    simp [dk,hu]
theorem Gy {t d:Nat} {l c:Operand} {kl kc:IntKind} {L C:Int} (ho:o.op= .makeSlice t l c) (hl:bp s l= .val (.int kl L)) (hc:bp s c= .val (.int kc C)) (hd:o.dst=some d) (hr:Dt P n s d t L C h=some q):mi P n s o q.1 q.2:=by
 intro hC S0 w0 a w Q ⟨φ,hs⟩
 have MC:a.eval l= .int kl L:=bM (hl ▸ hs.bp l)
 have ec:a.eval c= .int kc C:=bM (hc ▸ hs.bp c)
 unfold Dt at hr
 split at hr
 ·rename_i el hu
  split at hr
  ·rename_i i hi
   split at hr
   ·rename_i zero z hz dw
    split at hr
    ·rename_i hb
     have hb:=Nat.eq_of_beq_eq_true hb
     split at hr
     ·rename_i s' b7
      injection hr with hr;subst hr
      obtain ⟨Lj,hC⟩:=hU hC
      rw [Lj] at b7
      obtain ⟨h1,h2,h3,h4,h5,-⟩:=hC
      have cw:=run_make ho MC ec hu hi hz dw hb h1 h2 h3 h4 h5 w
      obtain ⟨cur,cw,xi,bw⟩:=cw
      refine cU cw ?_
      rw [hd]
      have G7:(zero.cells.toList.map bE).length=z+1:=by simp [hb]
      have G_:=tE (zero.cells.toList.map bE) (z+1) G7 h.k
      have hle:(z+1)*h.k≤(z+1)*h.m:=Nat.mul_le_mul_left _ h3
      have hf:=hs.fresh (w':={w with heap:=w.heap.push (.cells cur el (0,0))}) d ⟨z+1,true,false,tF (zero.cells.toList.map bE) h.k⟩ (iT b7) rfl rfl rfl (by simp) (cL w _) (dM w _) (by simp) (by simp only [G_,xi];exact hle) (fun h=>by cases h) (fun j u x hu hx=>⟨fun _=>by
       have h6:=xE _ (z+1) G7 ah _ _ _ hx
       have h7:=bw j u hu
       rw [List.getElem?_map] at h6
       have h8:zero.cells.toList[j%(z+1)]?=some u:=by simpa using h7
       rw [h8] at h6;injection h6 with h6;subst h6;exact fV u,fun h=>by cases h⟩)
      exact ⟨_,dX hf (.ref d _ _ _ h.k h.m (fp d _ _) G_ h3 h5 (by unfold a7;rw [dM];exact xi)) b7⟩
     ·cases hr
    ·cases hr
   ·cases hr
  ·cases hr
 ·cases hr
def zl (P:Program) (n:Nat) (s:AS) (d src dst:Nat) (b:ByteArray):Option (AS×List Prop) :=
 match P.underlying src,P.underlying dst with
 | some .string,some (.slice el)=>(match P.underlying el with
  | some (.int .u8)=>(match gr n (install s d ⟨1,true,false,ag b.data.toList⟩) (some d) (.ref d) with|some s'=>some (s',[b.size≤maxLen])|none=>none)
  | _=>none)
 | _,_=>none
theorem DI {src dst d:Nat} {x:Operand} {b:ByteArray} (ho:o.op= .convert src dst x) (hx:bp s x= .val (.string b)) (hd:o.dst=some d) (hr:zl P n s d src dst b=some q):mi P n s o q.1 q.2:=by
 intro hC S0 w0 a w Q ⟨φ,hs⟩
 have ex:a.eval x= .string b:=bM (hx ▸ hs.bp x)
 unfold zl at hr
 split at hr
 ·rename_i el h1 h2
  split at hr
  ·rename_i h3
   split at hr
   ·rename_i s' b7
    injection hr with hr;subst hr
    have dw:=hC.1
    have Bo:=wu.of_string w b el dw
    have cw:(execOp a.eval o).run P w= .ok (.value (.slice (some ⟨w.heap.size,0,none⟩) b.size (grownCap w b.size 0 el))) (w.drew.alloc (.cells (bytesRow b (grownCap w b.size 0 el)) el ((bytesRow b (grownCap w b.size 0 el)).size,(bytesRow b (grownCap w b.size 0 el)).size+1))):=by
     unfold execOp
     simp [ho,ex,run_bytes_of_string w src dst el b h1 h2 h3]
    refine cU cw ?_
    rw [hd]
    have uW:=grownCap_ge w b.size 0 el
    have tq:grownCap w b.size 0 el≤maxLen:=grownCap_le_maxLen w _ 0 el dw
    have Qo:(bytesRow b (grownCap w b.size 0 el)).size=grownCap w b.size 0 el:=by
     unfold bytesRow;simp only [Array.size_append,Array.size_map,Array.size_replicate]
     show b.size+_=_
     omega
    have lJ:(ag b.data.toList).length=b.size:=by rw [aD];rfl
    have l7:(w.drew.alloc (.cells (bytesRow b (grownCap w b.size 0 el)) el ((bytesRow b (grownCap w b.size 0 el)).size,(bytesRow b (grownCap w b.size 0 el)).size+1))).heap[w.heap.size]?=some (.cells (bytesRow b (grownCap w b.size 0 el)) el ((bytesRow b (grownCap w b.size 0 el)).size,(bytesRow b (grownCap w b.size 0 el)).size+1)):=heap_alloc_new w.drew _
    have hf:=hs.fresh (w':=w.drew.alloc (.cells (bytesRow b (grownCap w b.size 0 el)) el ((bytesRow b (grownCap w b.size 0 el)).size,(bytesRow b (grownCap w b.size 0 el)).size+1))) d ⟨1,true,false,ag b.data.toList⟩ (iT b7) rfl rfl rfl (by simp) (fun k hk=>Below.heap_alloc w.drew _ k hk) l7 (fun j hj=>by simp only;omega) (by simp only [lJ,Qo];exact uW) (fun h=>by cases h) (fun j u x hu hx=>⟨fun _=>by
     have hj:j<b.size:=by have:=(List.getElem?_eq_some_iff.1 hx).1;rw [lJ] at this;exact this
     have WE:j<b.data.toList.length:=hj
     have yC:j<b.data.size:=hj
     have e1:(bytesRow b (grownCap w b.size 0 el))[j]?=some (.int .u8 (b.data.toList[j].toNat)):=by
      unfold bytesRow
      rw [Array.getElem?_append_left (by simpa using hj)]
      simp
      exact ⟨_,Array.getElem?_eq_getElem yC,rfl⟩
     rw [e1] at hu;injection hu with hu;subst hu
     have e2:(ag b.data.toList)[j]?=some (.val (.int .u8 (bv b.data.toList[j]))):=by
      simp [ag]
      exact ⟨_,Array.getElem?_eq_getElem yC,rfl⟩
     rw [e2] at hx;injection hx with hx;subst hx
     exact .val _,fun h=>by cases h⟩)
    exact ⟨_,dX hf (.ref d 1 _ _ b.size (grownCap w b.size 0 el) (fp d _ _) (by rw [Nat.one_mul];exact lJ) uW tq (by unfold a7;rw [l7];simp only [Qo,Nat.one_mul])) b7⟩
   ·cases hr
  ·cases hr
 ·cases hr
end
section
variable {S0:bn} {w0 w w':World} {n:Nat} {s:AS} {a:Act} {φ:Nat->Option Nat}
theorem aO.stored (h:aO S0 w0 n [] s a w φ) {id:Nat} {r r':Row} {g:Nat} (hr:look s.H id=some r) (ct:φ id=some g) (he:r'.e=r.e) (hlen:r'.cells.length=r.cells.length) (I5:r'.full=r.full)
  {cur cur':Array Value} {te:TypeId} {fr:Nat×Nat} (hg:w.heap[g]?=some (.cells cur te fr)) (ja:w'.heap[g]?=some (.cells cur' te fr)) (dw:cur'.size=cur.size)
  (IP:w'.os=w.os) (uQ:w'.tape=w.tape) (uR:w'.output=w.output) (RW:w'.heap.size=w.heap.size) (hb:∀b,b≠g->w'.heap[b]?=w.heap[b]?)
  (hc:∀(j:Nat) u x,cur'[j]?=some u->r'.cells[j]?=some x->bh (az s.H φ) (aQ S0 w φ []) w r'.pure u x):aO S0 w0 n [] ⟨s.F,(id,r')::cP s.H id⟩ a w' φ:=by
 have hI:∀i x,az s.H φ i=some x->az ((id,r')::cP s.H id) φ i=some x:=by
  intro i x hi
  obtain ⟨e,m,b⟩:=x
  obtain ⟨q,hl,h1,h2,h3⟩:=aT hi
  by_cases cW:id=i
  ·subst cW
   rw [hr] at hl;injection hl with hl;subst hl
   rw [bu (r:=r') (by rw [aF,if_pos rfl]),he,hlen,h1,h2,h3]
  ·rw [bu (r:=q) (by rw [aF,if_neg cW,bJ,if_neg cW,hl]),h1,h2,h3]
 have hF:∀b,aQ S0 w φ [] b->aQ S0 w' φ [] b∧w'.heap[b]?=w.heap[b]?:=fun b kP=>⟨⟨by rw [RW];exact kP.1,kP.2⟩,hb b fun e=>kP.2.2.1 id (by rw [ct,e])⟩
 have hL:∀i e m g',az s.H φ i=some (e,m,some g')->a7 w' g'=a7 w g':=by
  intro i e m g' _
  unfold a7
  by_cases e:g'=g
  ·subst e;rw [hg,ja];exact dw
  ·rw [hb g' e]
 have aR:=h.rows id r hr
 unfold bR at aR
 rw [ct] at aR
 obtain ⟨Wa,Wr,WO,Bu,gJ,hle,m7,-⟩:=aR
 rw [hg] at Bu
 injection Bu with Bu
 injection Bu with e1 e2 e3
 subst e1;subst e2;subst e3
 refine ⟨h.jS,h.jV,⟨IP.trans h.cZ.os,uQ.trans h.cZ.tape,uR.trans h.cZ.output,by rw [RW];exact h.cZ.size,fun k hk hx=>?_,h.cZ.g0,h.cZ.gx⟩,fun i av hi=>(h.cC i av hi).mono hI hF hL,fun i q hq=>?_,fun i hi=>?_,h.inj,fun i g' ja=>by rw [RW];exact h.cY i g' ja,h.apart,h.new⟩
 ·rw [hb k (fun e=>by rcases (h.cY id g ct).1.2 with h|h;omega;rw [e] at hx;exact hx h)]
  exact h.cZ.block k hk hx
 ·rw [aF] at hq
  by_cases cW:id=i
  ·rw [if_pos cW] at hq;injection hq with hq;subst hq;subst cW
   rw [ct]
   refine ⟨cur',te,fr,ja,fun j hj=>gJ j ah,by rw [hlen,dw];exact hle,fun hf=>by rw [hlen,dw];exact m7 (by rw [←I5];exact hf),fun j u x hu hx=>?_⟩
   have:=hc j u x hu hx
   unfold bh at this ⊢
   cases hp:r'.pure with
   | true=>rw [hp] at this;exact this.mono hF
   | false=>rw [hp] at this;exact this.mono hI hF hL
  ·rw [if_neg cW,bJ,if_neg cW] at hq
   have gO:=h.rows i q hq
   unfold bR at gO ⊢
   cases C6:φ i with
   | none=>rw [C6] at gO;exact gO
   | some g2 =>
    rw [C6] at gO
    obtain ⟨D0,Uy,V8,Qd,Hc,Bq,Sx,OY⟩:=gO
    have Se:g2≠g:=fun e=>cW (h.inj id i g ct (by rw [C6,e]))
    refine ⟨D0,Uy,V8,(hb g2 Se).trans Qd,Hc,Bq,Sx,fun j u x hu hx=>?_⟩
    have:=OY j u x hu hx
    unfold bh at this ⊢
    cases hp:q.pure with
    | true=>rw [hp] at this;exact this.mono hF
    | false=>rw [hp] at this;exact this.mono hI hF hL
 ·rw [aF] at hi
  by_cases cW:id=i
  ·rw [if_pos cW] at hi;cases hi
  ·rw [if_neg cW,bJ,if_neg cW] at hi
   exact h.only i hi
end
def D9:AV->Bool
 | .val u=>u.oneCell'
 | .nil=>true
 | .sl _ _=>true
 | .ptr _ _=>true
 | .ref _=>true
 | .pre _ _=>true
 | .js _ _ _=>true
 | .addr _ _=>true
 | _=>false
def qI:List AV->Bool
 | []=>true
 | x::l=>match D9 x with|true=>qI l|false=>false
theorem D8 {I:Info} {S:Nat->Prop} {w:World} {v:Value} {x:AV} (hd:Den I S w v x) (hp:D9 x=true):v.oneCell'=true:=by
 cases hd with
 | rep h=>cases h<;>first|exact hp|rfl|cases hp
 | agg=>cases hp
 | bk=>cases hp
 | dead=>cases hp
 | _=>rfl
theorem vC:∀ {l:List AV} {j:Nat} {x:AV},qI l=true->l[j]?=some x->D9 x=true
 | [],j,x,_,h=>by simp at h
 | y::l,j,x,hp,h=>by
  simp only [qI] at hp
  split at hp
  ·rename_i hy
   cases j with
   | zero=>simp at h;subst h;exact hy
   | succ j=>exact vC hp (by simpa using h)
  ·cases hp
def setCells (cells:List AV) (off:Nat) (l:List AV):List AV:=match l with| [x]=>cells.set off x|l=>cells.take off++l++cells.drop (off+l.length)
theorem nw (cells:List AV) (off:Nat) (l:List AV) (h:off+l.length≤cells.length):setCells cells off l=cells.take off++l++cells.drop (off+l.length):=by
 unfold setCells
 split
 ·rename_i x
  simp only [List.length_cons,List.length_nil] at h ⊢
  rw [List.set_eq_take_append_cons_drop,if_pos ah]
  simp
 ·rfl
theorem wP {α:Type} (l m:List α) (off j:Nat) (h:off+m.length≤l.length):(l.take off++m++l.drop (off+m.length))[j]?=if off≤j∧j<off+m.length then m[j-off]? else l[j]?:=by
 by_cases h1:j<off
 ·rw [List.getElem?_append_left (by simp only [List.length_append,List.length_take];omega),List.getElem?_append_left (by simp only [List.length_take];omega),List.getElem?_take,if_pos h1,if_neg ah]
 ·by_cases h2:j<off+m.length
  ·rw [List.getElem?_append_left (by simp only [List.length_append,List.length_take];omega),List.getElem?_append_right (by simp only [List.length_take];omega),if_pos ah]
   congr 1;simp only [List.length_take];omega
  ·rw [List.getElem?_append_right (by simp only [List.length_append,List.length_take];omega),List.getElem?_drop,if_neg ah]
   congr 1;simp only [List.length_append,List.length_take];omega
theorem o_ {α:Type} (l m:List α) (off:Nat) (h:off+m.length≤l.length):(l.take off++m++l.drop (off+m.length)).length=l.length:=by
 simp only [List.length_append,List.length_take,List.length_drop];omega
def FJ (s:AS) (id:Nat) (r:Row):AS:=⟨s.F,(id,r)::cP s.H id⟩
def vk (P:Program) (s:AS) (t:TypeId) (x:Operand) (cs:List AV) (h:Hint):Option (AS×List Prop) :=
 match bp s x with
 | .addr id off=>(match look s.H id,eC P t with
  | some r,some z=>(match r.pure with
   | true=>some (FJ s id ⟨r.e,true,r.full,(named h (r.cells.take off++cs++r.cells.drop (off+cs.length))).1⟩,(named h (r.cells.take off++cs++r.cells.drop (off+cs.length))).2++ [cs.length=z,∀x∈cs,ij x=true,off+cs.length≤r.cells.length])
   | false=>none)
  | _,_=>none)
 | _=>none
def kS (P:Program) (s:AS) (t:TypeId) (x:Operand) (y:Operand) (h:Hint):Option (AS×List Prop) :=
 match bp s x with
 | .addr id off=>(match look s.H id,eC P t with
  | some r,some z=>(match r.pure with
   | true=>(match fT s (oI (bp s y)) with
    | some s1=>(match look s1.H id,lp (bp s1 y),bp s1 x with
     | some r1,some l,.addr pw CS=>(match Nat.beq id pw,Nat.beq l.length z,dZ l,r1.pure with
      | true,true,true,true=>some (FJ s1 id ⟨r1.e,true,r1.full,(named h (setCells r1.cells CS l)).1⟩,(named h (setCells r1.cells CS l)).2++ [CS+l.length≤r1.cells.length])
      | _,_,_,_=>none)
     | _,_,_=>none)
    | none=>none)
   | false=>(match lp (bp s y) with
    | some l=>(match Nat.beq l.length z,qI l with
     | true,true=>some (FJ s id ⟨r.e,false,r.full,(named h (setCells r.cells off l)).1⟩,(named h (setCells r.cells off l)).2++ [off+l.length≤r.cells.length])
     | _,_=>none)
    | none=>none))
  | _,_=>none)
 | _=>none
def y8 (P:Program) (s:AS) (t:TypeId) (x:Operand) (y:Operand) (h:Hint):Option (AS×List Prop) :=
 match bp s y,h.k with
 | .arr cs,1=>vk P s t x cs h
 | _,_=>kS P s t x y h
section
variable {P:Program} {n:Nat} {s:AS} {o:Oper} {h:Hint} {q:AS×List Prop}
theorem sP {w:World} {t:TypeId} {g off z:Nat} {v:Value} {vs:List Value} {cur:Array Value} {te:TypeId} {fr:Nat×Nat} (hz:eC P t=some z) (hv:v.cells=vs.toArray) (hl:vs.length=z) (hg:w.heap[g]?=some (.cells cur te fr)) (hf:∀j,j<cur.size-> ¬(fr.1≤j∧j<fr.2)) (mO:off+vs.length≤cur.size) (h1:∀u∈vs,u.oneCell'=true) :
  (storeVar t ⟨g,off,none⟩ v).run P w= .ok () (w.setRow g (cur.toList.take off++vs++cur.toList.drop (off+vs.length)).toArray):=by
 have dC:=c_ P g te fr cur.size hf off vs 0 cur w hg ah rfl h1
 simp only [Nat.add_zero] at dC
 unfold storeVar
 have Bj:(sizeOf t).run P w= .ok z w:=run_sizeOf hz
 simp only [Sem.run_bind,Bj,Result.andThen_ok,Sem.run_ite,hv]
 rw [if_neg (by simp [hl])]
 simp [dC]
theorem pY {w:World} {g:Nat} {cur cur':Array Value} {te:TypeId} {fr:Nat×Nat} (hg:w.heap[g]?=some (.cells cur te fr)):(w.setRow g cur').heap[g]?=some (.cells cur' te fr)∧(w.setRow g cur').heap.size=w.heap.size∧ ∀b,b≠g->(w.setRow g cur').heap[b]?=w.heap[b]? :=
 ⟨setRow_heap w g cur cur' te fr hg,by simp,fun b hb=>setRow_other w g b _ hb⟩
theorem aO.written {S0:bn} {w0 w:World} {a:Act} {φ:Nat->Option Nat} (hs:aO S0 w0 n [] s a w φ) {id off g:Nat} {r:Row} {l cells:List AV} {vs:List Value} {cur:Array Value} {te:TypeId} {fr:Nat×Nat} (hr:look s.H id=some r) (ct:φ id=some g) (hg:w.heap[g]?=some (.cells cur te fr)) (hle:r.cells.length≤cur.size)
  (hold:∀(j:Nat) u x,cur[j]?=some u->r.cells[j]?=some x->bh (az s.H φ) (aQ S0 w φ []) w r.pure u x) (hlen:vs.length=l.length) (mO:off+l.length≤r.cells.length) (dN:cells=setCells r.cells off l)
  (l7:∀(j:Nat) u x,vs[j]?=some u->l[j]?=some x->bh (az s.H φ) (aQ S0 w φ []) w r.pure u x) :
  aO S0 w0 n [] (FJ s id ⟨r.e,r.pure,r.full,cells⟩) a (w.setRow g (cur.toList.take off++vs++cur.toList.drop (off+vs.length)).toArray) φ:=by
 obtain ⟨f1,f2,f3⟩:=pY (cur':=(cur.toList.take off++vs++cur.toList.drop (off+vs.length)).toArray) hg
 have gF:cur.toList.length=cur.size:=rfl
 rw [nw _ _ _ mO] at dN
 refine hs.stored (r':=⟨r.e,r.pure,r.full,cells⟩) hr ct rfl (by rw [dN,o_ _ _ _ mO]) rfl hg f1 (by simp only [List.size_toArray];rw [o_ _ _ _ ah];rfl) rfl rfl rfl f2 f3 fun j u x hu hx=>?_
 simp only [List.getElem?_toArray] at hu
 rw [wP _ _ _ _ ah] at hu
 simp only [dN] at hx
 rw [wP _ _ _ _ mO] at hx
 by_cases hj:off≤j∧j<off+l.length
 ·rw [if_pos hj] at hx
  rw [if_pos ah] at hu
  exact l7 _ u x hu hx
 ·rw [if_neg hj] at hx
  rw [if_neg ah] at hu
  exact hold j u x (by simpa using hu) hx
theorem CE {S0:bn} {w0 w:World} {a:Act} {φ:Nat->Option Nat} (hs:aO S0 w0 n [] s a w φ) {id g:Nat} {r:Row} (hr:look s.H id=some r) (ct:φ id=some g):∃cur te fr,w.heap[g]?=some (.cells cur te fr)∧(∀j,j<cur.size-> ¬(fr.1≤j∧j<fr.2))∧r.cells.length≤cur.size∧ ∀(j:Nat) u x,cur[j]?=some u->r.cells[j]?=some x->bh (az s.H φ) (aQ S0 w φ []) w r.pure u x:=by
 have aR:=hs.rows id r hr
 unfold bR at aR
 rw [ct] at aR
 obtain ⟨cur,te,fr,hg,hf,hl,-,hc⟩:=aR
 exact ⟨cur,te,fr,hg,hf,hl,hc⟩
theorem tW {S0:bn} {w0 w:World} {a:Act} {φ:Nat->Option Nat} {Q:Exit->Act->World->Prop} (hs:aO S0 w0 n [] s a w φ) {t:TypeId} {x y:Operand} (ho:o.op= .store t x y) (hd:o.dst=none) {id off z:Nat} {r:Row} {l cells:List AV} (hx:bp s x= .addr id off) (hr:look s.H id=some r) (hz:eC P t=some z) (hl:lp (bp s y)=some l) (WA:l.length=z) (mO:off+l.length≤r.cells.length) (dN:cells=setCells r.cells off l)
  (hp:(r.pure=true∧ ∀x∈l,ij x=true)∨(r.pure=false∧qI l=true)):o.wp P a w (fun a' w'=>ix S0 w0 n (FJ s id ⟨r.e,r.pure,r.full,cells⟩) a' w') Q:=by
 have TK:=hs.bp x
 rw [hx] at TK
 obtain ⟨e,m,g,hi,hv⟩:=jR TK
 obtain ⟨r',iq,-,-,ct⟩:=aT hi
 obtain ⟨cur,te,fr,hg,hf,hle,hold⟩:=CE hs hr ct
 obtain ⟨vs,UU,yx,dV⟩:=mf (hs.bp y) hl
 have uS:∀u∈vs,u.oneCell'=true:=by
  intro u hu
  obtain ⟨j,hj⟩:=List.getElem?_of_mem hu
  have Mu:j<l.length:=by have:=(List.getElem?_eq_some_iff.1 hj).1;omega
  have Sl:l[j]?=some l[j]:=List.getElem?_eq_getElem Mu
  rcases hp with ⟨-,hp⟩|⟨-,hp⟩
  ·exact (eK (dV j u _ hj Sl) (hp _ (List.getElem_mem Mu))).2
  ·exact D8 (dV j u _ hj Sl) (vC hp Sl)
 have cw:=sP (P:=P) (w:=w) (t:=t) (g:=g) (off:=off) hz UU ah hg hf ah uS
 unfold Oper.wp
 have:(execOp a.eval o).run P w= .ok .skip (w.setRow g (cur.toList.take off++vs++cur.toList.drop (off+vs.length)).toArray):=by
  unfold execOp
  simp [ho,Instr.storeAt,Instr.sureAddr,hv,cw]
 rw [this]
 show ix S0 w0 n _ (a.put o.dst undef) _
 rw [hd]
 refine ⟨φ,hs.written hr ct hg hle hold yx mO dN fun j u x hu hx=>?_⟩
 unfold bh
 rcases hp with ⟨Mo,hp⟩|⟨Mo,hp⟩<;>rw [Mo]
 ·exact (eK (dV j u x hu hx) (hp x (List.mem_of_getElem? hx))).1
 ·exact dV j u x hu hx
theorem BR {t:TypeId} {x y:Operand} {cs:List AV} (ho:o.op= .store t x y) (hd:o.dst=none) (hy:bp s y= .arr cs) (hr:vk P s t x cs h=some q):mi P n s o q.1 q.2:=by
 intro hC S0 w0 a w Q ⟨φ,hs⟩
 unfold vk at hr
 split at hr
 ·rename_i id off hx
  split at hr
  ·rename_i r z aR hz
   split at hr
   ·rename_i qo
    injection hr with hr;subst hr
    obtain ⟨hn,hlen,hp,mO,-⟩:=hU hC
    have:=tW (Q:=Q) hs ho hd hx aR hz (l:=cs) (by rw [hy];rfl) hlen mO (hn.trans (nw _ _ _ mO).symm) (.inl ⟨qo,hp⟩)
    rw [qo] at this
    exact this
   ·cases hr
  ·cases hr
 ·cases hr
theorem sy {t:TypeId} {x y:Operand} (ho:o.op= .store t x y) (hd:o.dst=none) (hr:kS P s t x y h=some q):mi P n s o q.1 q.2:=by
 intro hC S0 w0 a w Q ⟨Rw,lP⟩
 unfold kS at hr
 split at hr
 ·rename_i id off hx
  split at hr
  ·rename_i r z aR hz
   split at hr
   ·rename_i qo
    split at hr
    ·rename_i s1 IH
     obtain ⟨φ,hs⟩:=fS _ _ _ _ IH lP
     split at hr
     ·rename_i r1 l pw CS PT hl RV
      split at hr
      ·rename_i h1 h2 h3 h4
       injection hr with hr;subst hr
       have h1:=Nat.eq_of_beq_eq_true h1
       have h2:=Nat.eq_of_beq_eq_true h2
       subst h1
       obtain ⟨hn,mO,-⟩:=hU hC
       have:=tW (Q:=Q) hs ho hd RV PT hz hl h2 mO hn (.inl ⟨h4,fun x hx=>by obtain ⟨j,hj⟩:=List.getElem?_of_mem hx;exact iB h3 hj⟩)
       rw [h4] at this
       exact this
      ·cases hr
     ·cases hr
    ·cases hr
   ·rename_i qo
    split at hr
    ·rename_i l hl
     split at hr
     ·rename_i h2 h3
      injection hr with hr;subst hr
      have h2:=Nat.eq_of_beq_eq_true h2
      obtain ⟨hn,mO,-⟩:=hU hC
      have:=tW (Q:=Q) lP ho hd hx aR hz hl h2 mO hn (.inr ⟨qo,h3⟩)
      rw [qo] at this
      exact this
     ·cases hr
    ·cases hr
  ·cases hr
 ·cases hr
theorem Dp {t:TypeId} {x y:Operand} (ho:o.op= .store t x y) (hd:o.dst=none) (hr:y8 P s t x y h=some q):mi P n s o q.1 q.2:=by
 unfold y8 at hr
 split at hr
 ·rename_i cs hy _;exact BR ho hd hy hr
 ·exact sy ho hd hr
def tZ (s:AS):AV->Option (Nat×List AV)
 | .nil=>some (0,[])
 | .sl e row=>some (e,row)
 | .ref id=>(match look s.H id with|some ⟨e,true,_,cells⟩=>some (e,cells)|_=>none)
 | .pre id l=>(match look s.H id with|some ⟨e,true,_,cells⟩=>some (e,cells.take l)|_=>none)
 | .js id o l=>(match look s.H id with|some ⟨e,true,_,cells⟩=>some (e,(cells.drop o).take l)|_=>none)
 | _=>none
theorem MZ {S0:bn} {w0 w:World} {a:Act} {φ:Nat->Option Nat} (hs:aO S0 w0 n [] s a w φ) {v:Value} {x:AV} (hx:Den (az s.H φ) (aQ S0 w φ []) w v x) {e:Nat} {row:List AV} (he:tZ s x=some (e,row)) :
  ∃(A:Option Addr) (m c:Nat) (us:List Value),v= .slice A m c∧row.length=e*m∧us.length=row.length∧(0<row.length-> ∃ad,A=some ad∧ ∀(j:Nat) u,us[j]?=some u->w.cell? (ad.add j)=some u)∧(∀(j:Nat) u x,us[j]?=some u->row[j]?=some x->cB (aQ S0 w φ []) w u x)∧m≤maxLen:=by
 have L0:∀(id g:Nat) (r:Row),look s.H id=some r->r.pure=true->φ id=some g-> ∃us:List Value,r.cells.length≤us.length∧(∀(j:Nat) u,us[j]?=some u->w.cell? ⟨g,j,none⟩=some u)∧ ∀(j:Nat) u x,us[j]?=some u->r.cells[j]?=some x->cB (aQ S0 w φ []) w u x:=by
  intro id g r hr hp hg
  obtain ⟨cur,te,fr,ja,hf,hl,hc⟩:=kG hs hr hp hg
  exact ⟨cur.toList,hl,fun j u hu=>by rw [cell_of_row w g _ cur te fr ja];simpa using hu,fun j u x hu hx=>hc j u x (by simpa using hu) hx⟩
 cases hx with
 | rep h =>
  cases h with
  | nil=>injection he with he;injection he with h1 h2;subst h1;subst h2;exact ⟨none,0,0,[],rfl,rfl,rfl,fun h=>(by simp at h),fun j u x hu=>(by simp at hu),by simp⟩
  | sl A n c e' us FL hl hn hc hm ha h =>
   injection he with he;injection he with h1 h2;subst h1;subst h2
   exact ⟨A,n,c,us,rfl,hn,hl,fun h0=>by obtain ⟨ad,e1,_,e2⟩:=ha h0;exact ⟨ad,e1,e2⟩,h,ah⟩
  | _=>cases he
 | agg=>cases he
 | bk=>cases he
 | dead=>cases he
 | addr=>cases he
 | ref id e' m g l c hi hm hc hx b7 =>
  obtain ⟨r,hr,h1,h2,ct⟩:=aT hi
  obtain ⟨re,rp,rf,rc⟩:=r
  simp only [tZ,hr] at he
  split at he
  ·rename_i heq
   injection heq with heq;cases heq
   injection he with he;injection he with h3 h4;subst h3;subst h4
   obtain ⟨us,PI,IG,Mm⟩:=L0 id g _ hr rfl ct
   simp only at h1 h2 PI Mm
   exact ⟨_,l,c,us.take rc.length,rfl,by rw [h2,hm,h1],by rw [List.length_take];omega,fun _=>⟨_,rfl,fun j u hu=>by rw [fi];exact IG j u (bZ _ _ _ _ hu)⟩,fun j u x hu hx=>Mm j u x (bZ _ _ _ _ hu) hx,ah⟩
  ·cases he
 | cD id e' hi =>
  obtain ⟨r,hr,h1,h2,ct⟩:=aT hi
  obtain ⟨re,rp,rf,rc⟩:=r
  simp only [tZ,hr] at he
  split at he
  ·rename_i heq
   injection heq with heq;cases heq
   injection he with he;injection he with h3 h4;subst h3;subst h4
   simp only at h2
   have:rc= []:=List.length_eq_zero_iff.1 h2
   subst this
   exact ⟨none,0,0,[],rfl,rfl,rfl,fun h=>(by simp at h),fun j u x hu=>(by simp at hu),by simp⟩
  ·cases he
 | pre id k e' m g l c hi hn hm hc hx b7 =>
  obtain ⟨r,hr,h1,h2,ct⟩:=aT hi
  obtain ⟨re,rp,rf,rc⟩:=r
  simp only [tZ,hr] at he
  split at he
  ·rename_i heq
   injection heq with heq;cases heq
   injection he with he;injection he with h3 h4;subst h3;subst h4
   obtain ⟨us,PI,IG,Mm⟩:=L0 id g _ hr rfl ct
   simp only at h1 h2 PI Mm
   have lH:(rc.take k).length=k:=by rw [List.length_take];omega
   exact ⟨_,l,c,us.take k,rfl,by rw [lH,hn,h1],by rw [lH,List.length_take];omega,fun _=>⟨_,rfl,fun j u hu=>by rw [fi];exact IG j u (bZ _ _ _ _ hu)⟩,fun j u x hu hx=>Mm j u x (bZ _ _ _ _ hu) (bZ _ _ _ _ hx),ah⟩
  ·cases he
 | dB id e' hi =>
  obtain ⟨r,hr,h1,h2,ct⟩:=aT hi
  obtain ⟨re,rp,rf,rc⟩:=r
  simp only [tZ,hr] at he
  split at he
  ·rename_i heq
   injection heq with heq;cases heq
   injection he with he;injection he with h3 h4;subst h3;subst h4
   simp only [List.take_zero]
   exact ⟨none,0,0,[],rfl,rfl,rfl,fun h=>(by simp at h),fun j u x hu=>(by simp at hu),by simp⟩
  ·cases he
 | js id off k e' m l c g A hi hn hm hc hx ha =>
  obtain ⟨r,hr,h1,h2,ct⟩:=aT hi
  obtain ⟨re,rp,rf,rc⟩:=r
  simp only [tZ,hr] at he
  split at he
  ·rename_i heq
   injection heq with heq;cases heq
   injection he with he;injection he with h3 h4;subst h3;subst h4
   simp only at h1 h2
   have lH:((rc.drop off).take k).length=k:=by rw [List.length_take,List.length_drop];omega
   by_cases hk:0<k
   ·obtain ⟨b,hb,hA⟩:=ha hk
    rw [hb] at ct
    obtain ⟨us,PI,IG,Mm⟩:=L0 id b _ hr rfl ct
    simp only at PI Mm
    exact ⟨A,l,c,(us.drop off).take k,rfl,by rw [lH,hn,h1],by rw [lH,List.length_take,List.length_drop];omega,fun _=>⟨_,hA,fun j u hu=>by rw [mh];exact IG _ u (bV _ _ _ _ _ hu)⟩,fun j u x hu hx=>Mm _ u x (bV _ _ _ _ _ hu) (bV _ _ _ _ _ hx),ah⟩
   ·have:(rc.drop off).take k= []:=List.length_eq_zero_iff.1 ah
    rw [this]
    exact ⟨A,l,c,[],rfl,by rw [h1];simp;omega,rfl,fun h=>(by simp at h),fun j u x hu=>(by simp at hu),ah⟩
  ·cases he
end
section
variable {P:Program} {w:World}
structure n9 (P:Program) (w:World) (xt:TypeId) (e:Nat) (xv:Value) (m:Nat) (news:List Value):Prop where
 ty:(∃e2,P.underlying xt=some (.slice e2))∨P.underlying xt=some .string
 len:∀w',(Builtin.lenOf xv).run P w'= .ok m w'
 part:∀(w':World) (k:Nat),w'.heap=w.heap->k≤m->(Builtin.firstCells e k xv).run P w'= .ok (news.take (k*e)).toArray w'
 hl:news.length=m*e
 one:∀u∈news,u.oneCell'=true
theorem n9.cells {xt:TypeId} {e m:Nat} {xv:Value} {news:List Value} (h:n9 P w xt e xv m news) (w':World) (hw:w'.heap=w.heap):(Builtin.firstCells e m xv).run P w'= .ok news.toArray w':=by
 have:=h.part w' m hw (Nat.le_refl _)
 rw [List.take_of_length_le (by rw [h.hl];exact Nat.le_refl _)] at this
 exact this
theorem pX {xt e2:TypeId} (ht:P.underlying xt=some (.slice e2)) {A:Option Addr} {m c e:Nat} {news:List Value} (hl:news.length=m*e) (hc:0<news.length-> ∃ad,A=some ad∧ ∀(j:Nat) u,news[j]?=some u->w.cell? (ad.add j)=some u) (h1:∀u∈news,u.oneCell'=true) :
  n9 P w xt e (.slice A m c) m news:=by
 refine ⟨.inl ⟨e2,ht⟩,fun w'=>rfl,fun w' k hw hk=>?_,hl,h1⟩
 have bw:∀p:Addr,w'.cell? p=w.cell? p:=fun p=>ky (by rw [hw])
 have iH:(news.take (k*e)).length=k*e:=by
  have:=Nat.mul_le_mul_right e hk
  rw [List.length_take];omega
 by_cases h0:0<news.length
 ·obtain ⟨ad,rfl,dN⟩:=hc h0
  exact run_firstCells_some w' e k ad m c _ iH (fun j u hu=>(bw _).trans (dN j u (bZ _ _ _ _ hu)))
 ·have hn:news= []:=List.length_eq_zero_iff.1 ah
  subst hn
  cases A with
  | none=>rw [run_firstCells_none];simp
  | some ad=>exact run_firstCells_some w' e k ad m c _ iH (fun j u hu=>by simp at hu)
theorem vS {xt:TypeId} (ht:P.underlying xt=some .string) (b:ByteArray):n9 P w xt 1 (.string b) b.size (sM b.data.toList):=by
 refine ⟨.inr ht,fun w'=>rfl,fun w' k _ hk=>?_,by rw [gn,Nat.mul_one];rfl,Fm _⟩
 simp only [Builtin.firstCells,Sem.run_pure,Nat.mul_one]
 congr 1
 apply Array.ext'
 simp [sM,bv,←List.map_take]
structure Ki (w w':World) (v':Value) (g0:Option Nat) (e N:Nat) (cells:List Value) (g':Nat):Prop where
 slice:∃c',v'= .slice (some ⟨g',0,none⟩) N c'∧N≤c'∧c'≤maxLen∧a7 w' g'=e*c'
 L0:∃cur te fr,w'.heap[g']?=some (.cells cur te fr)∧(∀j,j<cur.size-> ¬(fr.1≤j∧j<fr.2))∧cells.length≤cur.size∧cur.toList.take cells.length=cells
 len:cells.length=e*N
 os:w'.os=w.os
 tape:w'.tape=w.tape
 output:w'.output=w.output
 size:w.heap.size≤w'.heap.size
 other:∀b,b<w.heap.size->some b≠g0->w'.heap[b]?=w.heap[b]?
 place:(g0=some g'∧g'<w.heap.size)∨(g'=w.heap.size∧w.heap.size<w'.heap.size)
theorem tH (z:Value) (e k:Nat) (hz:z.cells.size=e):(Builtin.zeroCells z.cells k).size=k*e:=by unfold Builtin.zeroCells;simp [hz]
theorem rY {el:TypeId} {z:Value} {e l m old:Nat} {olds news:List Value} (g0:Option Nat) (hz:z.cells.size=e) (T3:olds.length=l*e) (Ll:news.length=m*e) (hm:l+m≤maxLen) :
  Ki w (w.drew.alloc (.cells (olds.toArray++news.toArray++Builtin.zeroCells z.cells (grownCap w (l+m) old el-(l+m))) el)) (.slice (some ⟨w.heap.size,0,none⟩) (l+m) (grownCap w (l+m) old el)) g0 e (l+m) (olds++news) w.heap.size:=by
 have uW:=grownCap_ge w (l+m) old el
 have tq:grownCap w (l+m) old el≤maxLen:=grownCap_le_maxLen w _ old el hm
 have l7:(w.drew.alloc (.cells (olds.toArray++news.toArray++Builtin.zeroCells z.cells (grownCap w (l+m) old el-(l+m))) el)).heap[w.heap.size]?=some (.cells (olds.toArray++news.toArray++Builtin.zeroCells z.cells (grownCap w (l+m) old el-(l+m))) el (0,0)):=heap_alloc_new w.drew _
 have dw:(olds.toArray++news.toArray++Builtin.zeroCells z.cells (grownCap w (l+m) old el-(l+m))).size=e*grownCap w (l+m) old el:=by
  simp only [Array.size_append,List.size_toArray,tH z e _ hz,T3,Ll]
  rw [←Nat.add_mul,←Nat.add_mul,Nat.mul_comm]
  congr 1;omega
 have hlen:(olds++news).length=e*(l+m):=by rw [List.length_append,T3,Ll,←Nat.add_mul,Nat.mul_comm]
 refine ⟨⟨_,rfl,uW,tq,by unfold a7;rw [l7];exact dw⟩,⟨_,_,_,l7,by simp,by rw [dw,hlen];exact Nat.mul_le_mul_left _ uW,?_⟩,hlen,rfl,rfl,rfl,by simp,fun b hb _=>Below.heap_alloc w.drew _ b hb,.inr ⟨rfl,by simp⟩⟩
 simp only [Array.toList_append,List.append_assoc]
 rw [←List.append_assoc]
 exact List.take_left
theorem B8 (A B:List Value) (C:Array Value):A.toArray++(B.toArray++C)=(A++B).toArray++C:=by
 apply Array.ext'
 simp
theorem ye {e l m bytes q:Nat} (he:0<e) (hq:q=e*(l+m)) (hb:q*bytes≤e*140737488355328):(l+m)*bytes≤140737488355328:=by
 rw [hq,Nat.mul_assoc] at hb
 exact Nat.le_of_mul_le_mul_left hb he
theorem uA {l m bytes:Nat} (yG:0<bytes) (hb:(l+m)*bytes≤140737488355328):l+m≤maxLen∧((l+m:Nat):Int)≤9223372036854775807:=by
 have:l+m≤(l+m)*bytes:=Nat.le_mul_of_pos_right _ yG
 unfold maxLen;omega
theorem HK {t xt ty el:TypeId} {i:TypeInfo} {z xv:Value} {m:Nat} {news:List Value} (ht:P.underlying t=some (.slice el)) (hi:P.info? el=some i) (hz:i.zero=some z) (uP:z.cells.size=i.size) (yG:0<i.bytes)
  (gB:n9 P w xt i.size xv m news) (hb:m*i.bytes≤140737488355328) :
  (m=0∧(Builtin.append_ #[t,xt] ty #[.slice none 0 0,xv]).run P w= .ok (.slice none 0 0) w)∨ ∃v' w',(Builtin.append_ #[t,xt] ty #[.slice none 0 0,xv]).run P w= .ok v' w'∧Ki w w' v' none i.size m news w.heap.size:=by
 have hf:=gB.cells w.drew rfl
 by_cases h0:m=0
 ·left
  refine ⟨h0,?_⟩
  have Mx:=gB.cells w rfl
  have hn:news= []:=List.length_eq_zero_iff.1 (by rw [gB.hl,h0];simp)
  subst h0;subst hn
  rcases gB.ty with ⟨e2,hu⟩|hu<;>simp [Builtin.append_,run_underlying ht,run_underlying hu,sizeOf,typeInfo,hi,gB.len,Mx]
 ·right
  obtain ⟨Gg,IY⟩:=uA (l:=0) yG (by rw [Nat.zero_add];exact hb)
  rw [Nat.zero_add] at Gg
  have Qx:¬(281474976710656<Builtin.nextslicecap m 0*i.bytes):=by rw [nextslicecap_zero ah];omega
  have Qw:¬(9223372036854775807<(m:Int)):=by simp at IY;omega
  have hA:=rY (w:=w) (el:=el) (old:=0) (olds:=[]) (news:=news) (l:=0) none uP (by simp) gB.hl (by rw [Nat.zero_add];exact Gg)
  simp only [Nat.zero_add,List.nil_append] at hA
  refine ⟨_,_,?_,hA⟩
  rcases gB.ty with ⟨e2,hu⟩|hu<;>simp [Builtin.append_,run_underlying ht,run_underlying hu,sizeOf,typeInfo,zeroValue,hi,hz,gB.len,hf,h0,Qx,Qw,Question.forced,run_firstCells_none,newRow,grownCap]
theorem HJ {t xt ty el:TypeId} {i:TypeInfo} {z xv:Value} {m:Nat} {news:List Value} (ht:P.underlying t=some (.slice el)) (hi:P.info? el=some i) (hz:i.zero=some z) (uP:z.cells.size=i.size) (yG:0<i.bytes)
  (gB:n9 P w xt i.size xv m news) {g l c:Nat} {cur:Array Value} {te:TypeId} {fr:Nat×Nat} (hg:w.heap[g]?=some (.cells cur te fr)) (gJ:∀j,j<cur.size-> ¬(fr.1≤j∧j<fr.2)) (dw:cur.size=i.size*c) (Gh:l≤c) (tq:c≤maxLen) (hb:(l+m)*i.bytes≤140737488355328) :
  ∃v' w' g',(Builtin.append_ #[t,xt] ty #[.slice (some ⟨g,0,none⟩) l c,xv]).run P w= .ok v' w'∧Ki w w' v' (some g) i.size (l+m) (cur.toList.take (l*i.size)++news) g':=by
 have Nz:g<w.heap.size:=(Array.getElem?_eq_some_iff.1 hg).1
 have gF:cur.toList.length=cur.size:=rfl
 have hle:l*i.size≤cur.size:=by rw [dw,Nat.mul_comm];exact Nat.mul_le_mul_left _ Gh
 have IV:(cur.toList.take (l*i.size)).length=l*i.size:=by rw [List.length_take];omega
 by_cases m6:l+m≤c
 ·have Mx:=gB.cells w rfl
  have mO:l*i.size+news.length≤cur.size:=by rw [gB.hl,←Nat.add_mul,dw,Nat.mul_comm];exact Nat.mul_le_mul_left _ m6
  have dC:=c_ P g te fr cur.size gJ (l*i.size) news 0 cur w hg ah rfl gB.one
  simp only [Nat.add_zero] at dC
  obtain ⟨f1,f2,f3⟩:=pY (cur':=(cur.toList.take (l*i.size)++news++cur.toList.drop (l*i.size+news.length)).toArray) hg
  have Gd:(cur.toList.take (l*i.size)++news++cur.toList.drop (l*i.size+news.length)).toArray.size=cur.size:=by
   simp only [List.size_toArray];rw [o_ _ _ _ ah];rfl
  have hlen:(cur.toList.take (l*i.size)++news).length=i.size*(l+m):=by rw [List.length_append,IV,gB.hl,←Nat.add_mul,Nat.mul_comm]
  refine ⟨.slice (some ⟨g,0,none⟩) (l+m) c,_,g,?_,⟨c,rfl,m6,tq,by unfold a7;rw [f1];simp only;rw [Gd,dw]⟩,⟨_,te,fr,f1,fun j hj=>gJ j ah,by rw [Gd,hlen,dw];exact Nat.mul_le_mul_left _ m6,by simp only;exact List.take_left⟩,hlen,rfl,rfl,rfl,by rw [f2];exact Nat.le_refl _,fun b hb cW=>f3 b fun e=>cW (by rw [e]),.inl ⟨rfl,Nz⟩⟩
  rcases gB.ty with ⟨e2,hu⟩|hu<;>simp [Builtin.append_,run_underlying ht,run_underlying hu,sizeOf,typeInfo,hi,gB.len,m6,Mx,fi,dC]
 ·obtain ⟨Gg,IY⟩:=uA yG hb
  have Qx:¬(281474976710656<Builtin.nextslicecap (l+m) c*i.bytes):=by have:=growslice_fits (need:=l+m) (old:=c) ah hb;omega
  have Qw:¬(9223372036854775807<((l:Int)+(m:Int))):=ah
  have hA:=rY (w:=w) (el:=el) (old:=c) (some g) uP IV gB.hl Gg
  have hf:=gB.cells w.drew rfl
  have I7:=run_firstCells_some (P:=P) w.drew i.size l ⟨g,0,none⟩ l c (cur.toList.take (l*i.size)) IV (fun j u hu=>by
   rw [fi]
   have:w.drew.cell? ⟨g,j,none⟩=w.cell? ⟨g,j,none⟩:=ky rfl
   rw [this,cell_of_row w g _ cur te fr hg]
   have:=bZ _ _ _ _ hu
   simpa using this)
  refine ⟨_,_,w.heap.size,?_,hA⟩
  rcases gB.ty with ⟨e2,hu⟩|hu<;>simp [Builtin.append_,run_underlying ht,run_underlying hu,sizeOf,typeInfo,zeroValue,hi,hz,gB.len,m6,hf,I7,Qx,Qw,Question.forced,newRow,grownCap]<;>rw [B8]
theorem HM {t xt ty el:TypeId} {i:TypeInfo} {z xv:Value} {m:Nat} {news:List Value} (ht:P.underlying t=some (.slice el)) (hi:P.info? el=some i) (hz:i.zero=some z) (uP:z.cells.size=i.size) (yG:0<i.bytes)
  (gB:n9 P w xt i.size xv m news) {A:Option Addr} {l:Nat} {us:List Value} (z6:us.length=l*i.size) (hc:0<us.length-> ∃ad,A=some ad∧ ∀(j:Nat) u,us[j]?=some u->w.cell? (ad.add j)=some u) (Mq:0<m) (hb:(l+m)*i.bytes≤140737488355328) :
  ∃v' w',(Builtin.append_ #[t,xt] ty #[.slice A l l,xv]).run P w= .ok v' w'∧Ki w w' v' none i.size (l+m) (us++news) w.heap.size:=by
 have m6:¬(l+m≤l):=ah
 obtain ⟨Gg,IY⟩:=uA yG hb
 have Qx:¬(281474976710656<Builtin.nextslicecap (l+m) l*i.bytes):=by have:=growslice_fits (need:=l+m) (old:=l) ah hb;omega
 have Qw:¬(9223372036854775807<((l:Int)+(m:Int))):=ah
 have hA:=rY (w:=w) (el:=el) (old:=l) none uP z6 gB.hl Gg
 have hf:=gB.cells w.drew rfl
 have I7:(Builtin.firstCells i.size l (.slice A l l)).run P w.drew= .ok us.toArray w.drew:=by
  by_cases h0:0<us.length
  ·obtain ⟨ad,rfl,dN⟩:=hc h0
   exact run_firstCells_some w.drew i.size l ad l l us z6 (fun j u hu=>(ky (w:=w) (w':=w.drew) rfl).trans (dN j u hu))
  ·have hn:us= []:=List.length_eq_zero_iff.1 ah
   subst hn
   cases A with
   | none=>rw [run_firstCells_none]
   | some ad=>exact run_firstCells_some w.drew i.size l ad l l _ z6 (fun j u hu=>by simp at hu)
 refine ⟨_,_,?_,hA⟩
 rcases gB.ty with ⟨e2,hu⟩|hu<;>simp [Builtin.append_,run_underlying ht,run_underlying hu,sizeOf,typeInfo,zeroValue,hi,hz,gB.len,m6,hf,I7,Qx,Qw,Question.forced,newRow,grownCap]<;>rw [B8]
end
section
variable {S0:bn} {w0 w w':World} {n:Nat} {s:AS} {a:Act} {φ:Nat->Option Nat}
theorem qi (id d:Nat) (h:look s.H d=none):look (cp id s).H d=none:=by
 unfold cp
 rw [cy,bJ]
 split
 ·rfl
 ·rw [h];rfl
theorem aO.vJ {O:List Nat} {g0:Option Nat} (h:aO S0 w0 n O s a w φ) (hO:O=match g0 with|some g=>[g]|none=>[]) (SU:∀g∈O,w0.heap.size≤g∨S0.X g) (NS:∀g∈O,g<w.heap.size) {d e N g':Nat} {v':Value} {cells:List Value} (Qj:d<1000000000000) (hd:look s.H d=none) (hA:Ki w w' v' g0 e N cells g') {row:List AV} (hl:row.length=cells.length)
  (hc:∀(j:Nat) u x,cells[j]?=some u->row[j]?=some x->cB (aQ S0 w φ O) w u x) :
  ∃ cA,aO S0 w0 n [] ⟨s.F,(d,⟨e,true,false,row⟩)::s.H⟩ a w' cA∧Den (az ((d,⟨e,true,false,row⟩)::s.H) cA) (aQ S0 w' cA []) w' v' (.ref d):=by
 obtain ⟨c',hv,hN,tq,gF⟩:=hA.slice
 obtain ⟨cur,te,fr,hg,hf,hle,Mn⟩:=hA.L0
 have hb:∀b,b<w.heap.size->b ∉ O->w'.heap[b]?=w.heap[b]?:=fun b hb hn=>hA.other b hb fun e=>hn (by rw [hO,←e];simp)
 have hF:∀b,aQ S0 w φ O b->w'.heap[b]?=w.heap[b]?:=fun b h=>hb b h.1 h.2.1
 have rd:∀(S:Nat->Prop),(∀b,aQ S0 w φ O b->S b)-> ∀(j:Nat) u x,cur[j]?=some u->row[j]?=some x->cB S w' u x:=by
  intro S hS j u x hu hx
  have hj:j<cells.length:=by have:=(List.getElem?_eq_some_iff.1 hx).1;omega
  have:cells[j]?=some u:=by
   rw [←Mn,List.getElem?_take,if_pos hj];simpa using hu
  exact (hc j u x this hx).mono fun b hb=>⟨hS b hb,hF b hb⟩
 have fin:∀ cA,cA d=some g'->Den (az ((d,⟨e,true,false,row⟩)::s.H) cA) (aQ S0 w' cA []) w' v' (.ref d):=by
  intro cA ct
  rw [hv]
  exact .ref d e row.length g' N c' (by rw [bu (r:=⟨e,true,false,row⟩) (by rw [aF,if_pos rfl]),ct]) (by rw [hl];exact hA.len) hN tq gF
 rcases hA.place with ⟨Bu,dk⟩|⟨rfl,dk⟩
 ·rw [Bu] at hO
  subst hO
  have h2:=h.wK SU hA.os hA.tape hA.output hA.size hb
  have h3:=h2.xz (id:=d) (r:=⟨e,true,false,row⟩) ⟨.inl Qj,SU g' (by simp)⟩ (by have:=hA.size;omega) (by simp) hd ⟨cur,te,fr,hg,hf,by simp only [hl];exact hle,fun h=>(by cases h),fun j u x hu hx=>by
   show cB _ _ _ _
   exact rd _ (fun b hb=>⟨by have:=hb.1;have:=hA.size;omega,hb.2⟩) j u x hu hx⟩
  exact ⟨_,h3,fin _ (by unfold fI;rw [if_pos rfl])⟩
 ·have h1:=h.await w.heap.size (Nat.le_refl _)
  have h2:=h1.wK (fun g hg=>by rcases List.mem_cons.1 hg with rfl|hg;exact .inl h.cZ.size;exact SU g hg) hA.os hA.tape hA.output hA.size (fun b Ku hn=>hb b Ku fun hm=>hn (by simp [hm]))
  have UO:w.heap.size ∉ O:=fun hm=>Nat.lt_irrefl _ (NS _ hm)
  have h3:=h2.xz (id:=d) (r:=⟨e,true,false,row⟩) ⟨.inl Qj,.inl h.cZ.size⟩ dk UO hd ⟨cur,te,fr,hg,hf,by simp only [hl];exact hle,fun h=>(by cases h),fun j u x hu hx=>by
   show cB _ _ _ _
   exact rd _ (fun b hb=>⟨by have:=hb.1;omega,by simp only [List.mem_cons,not_or];exact ⟨by have:=hb.1;omega,hb.2.1⟩,hb.2.2⟩) j u x hu hx⟩
  cases Bu:g0 with
  | none =>
   rw [Bu] at hO;subst hO
   exact ⟨_,h3,fin _ (by unfold fI;rw [if_pos rfl])⟩
  | some g =>
   rw [Bu] at hO;subst hO
   exact ⟨_,h3.vf,fin _ (by unfold fI;rw [if_pos rfl])⟩
end
def cE (row:List AV):Prop:=∀x∈row,ij x=true
theorem fW (l:List UInt8):cE (ag l):=by
 intro x hx;simp only [ag,List.mem_map] at hx;obtain ⟨c,_,rfl⟩:=hx;rfl
theorem qc (l:List UInt64):cE (aj l):=by
 intro x hx;simp only [aj,List.mem_map] at hx;obtain ⟨c,_,rfl⟩:=hx;rfl
theorem A6 (l:List Int):cE (au l):=by
 intro x hx;simp only [au,List.mem_map] at hx;obtain ⟨c,_,rfl⟩:=hx;rfl
theorem dL:∀ {l:List AV},dZ l=true->cE l
 | [],_=>by intro x hx;simp at hx
 | y::l,h=>by
  simp only [dZ] at h
  split at h
  ·rename_i hy
   intro x hx
   rcases List.mem_cons.1 hx with rfl|hx
   ·exact hy
   ·exact dL h x hx
  ·cases h
def x9 (h:Hint) (row:List AV):Option (List Prop):=match h.b with|true=>(match dZ row with|true=>some []|false=>none)|false=>some [cE row]
theorem w6 {h:Hint} {row:List AV} {C D:List Prop} (hp:x9 h row=some C) (hC:bz (C++D)):cE row∧bz D:=by
 unfold x9 at hp
 split at hp
 ·split at hp
  ·rename_i h1;cases hp;exact ⟨dL h1,hC⟩
  ·cases hp
 ·cases hp;exact hC
def qY (P:Program) (s:AS) (xt:TypeId) (z:Nat) (x:AV):Option (List AV) :=
 match P.underlying xt with
 | some (.slice _)=>(match tZ s x with|some (e,row)=>(match Nat.beq e z with|true=>some row|false=>(match x with| .nil=>some []|_=>none))|none=>none)
 | some .string=>(match x,z with| .val (.string b),1=>some (ag b.data.toList)|_,_=>none)
 | _=>none
def qC (s:AS) (e:Nat):AV->Option (List AV×AS)
 | .nil=>some ([],s)
 | .ref id=>(match look s.H id with|some ⟨e',true,_,cells⟩=>(match Nat.beq e e' with|true=>some (cells,cp id s)|false=>none)|_=>none)
 | .pre id l=>(match look s.H id with|some ⟨e',true,_,cells⟩=>(match Nat.beq e e' with|true=>some (cells.take l,cp id s)|false=>none)|_=>none)
 | .pC e' row=>(match Nat.beq e e' with|true=>some (row,s)|false=>none)
 | _=>none
def Tc (x:AV) (row:List AV):List Prop:=match x with| .pC _ _=>[0<row.length]|_=>[]
def kV (P:Program) (n:Nat) (s:AS) (d t xt:Nat) (x y:AV) (h:Hint):Option (AS×List Prop) :=
 match P.underlying t with
 | some (.slice el)=>(match P.info? el with
  | some i=>(match i.zero,i.size,i.bytes with
   | some zero,z+1,b+1=>(match Nat.beq zero.cells.size (z+1),qC s (z+1) x,qY P s xt (z+1) y with
    | true,some (cells,s1),some row=>(match x9 h row,gr n ⟨(cp d s1).F,(d,⟨z+1,true,false,(named h (cells++row)).1⟩)::(cp d s1).H⟩ (some d) (.ref d) with
     | some C,some s'=>some (s',(named h (cells++row)).2++(C++(((cells.length+row.length)*(b+1)≤(z+1)*140737488355328)::Tc x row)))
     | _,_=>none)
    | _,_,_=>none)
   | _,_,_=>none)
  | none=>none)
 | _=>none
section
variable {P:Program} {n:Nat} {s:AS} {o:Oper} {h:Hint} {q:AS×List Prop}
theorem EB {S:Nat->Prop} {w:World} {v:Value} {x:AV} (h:cB S w v x) (hp:ij x=true):v.oneCell'=true:=(eK (I:=fun _=>none) (.rep h) hp).2
theorem wO {S0:bn} {w0 w:World} {a:Act} {φ:Nat->Option Nat} (hs:aO S0 w0 n [] s a w φ) {xt:TypeId} {v:Value} {x:AV} (hx:Den (az s.H φ) (aQ S0 w φ []) w v x) {z:Nat} {row:List AV} (he:qY P s xt z x=some row) (uS:cE row) :
  ∃m us,n9 P w xt z v m us∧us.length=row.length∧ ∀(j:Nat) u x,us[j]?=some u->row[j]?=some x->cB (aQ S0 w φ []) w u x:=by
 unfold qY at he
 split at he
 ·rename_i e2 hu
  split at he
  ·rename_i e FL gB
   split at he
   ·rename_i hb
    have hb:=Nat.eq_of_beq_eq_true hb
    cases he
    subst hb
    obtain ⟨A,m,c,us,rfl,h1,h2,h3,h4,h5⟩:=MZ hs hx gB
    have ho:∀u∈us,u.oneCell'=true:=by
     intro u hu
     obtain ⟨j,hj⟩:=List.getElem?_of_mem hu
     have Mu:j<row.length:=by have:=(List.getElem?_eq_some_iff.1 hj).1;omega
     exact EB (h4 j u _ hj (List.getElem?_eq_getElem Mu)) (uS _ (List.getElem_mem Mu))
    exact ⟨m,us,pX hu (by rw [h2,h1,Nat.mul_comm]) (fun h0=>h3 ah) ho,h2,h4⟩
   ·split at he
    ·cases he
     cases hx with|rep hx=>cases hx with|nil=>exact ⟨0,[],pX hu (by simp) (fun h=>by simp at h) (by simp),rfl,fun j u x hu=>by simp at hu⟩
    ·cases he
  ·cases he
 ·rename_i hu
  split at he
  ·rename_i b
   cases he
   have hv:=bM hx
   subst hv
   refine ⟨b.size,sM b.data.toList,vS hu b,by rw [gn,aD],fun j u x hu hx=>?_⟩
   have hj:j<b.data.toList.length:=by have:=(List.getElem?_eq_some_iff.1 hu).1;rw [gn] at this;exact this
   rw [On _ _ hj] at hu
   injection hu with hu;subst hu
   have e2:(ag b.data.toList)[j]?=some (.val (.int .u8 (bv (b.data.toList.getD j 0)))):=by
    simp only [ag,List.getElem?_map,List.getElem?_eq_getElem hj,Option.map_some,List.getD_eq_getElem?_getD,Option.getD_some]
   rw [e2] at hx
   injection hx with hx;subst hx
   exact .val _
  ·cases he
 ·cases he
theorem JM {S0:bn} {w0 w:World} {a:Act} {φ:Nat->Option Nat} (hs:aO S0 w0 n [] s a w φ) {v:Value} {x:AV} (hx:Den (az s.H φ) (aQ S0 w φ []) w v x) {e:Nat} {cells:List AV} {s1:AS} (he:qC s e x=some (cells,s1)) :
  (v= .slice none 0 0∧cells= []∧ ∃ iI,aO S0 w0 n [] s1 a w iI∧ ∀b,aQ S0 w φ [] b->aQ S0 w iI [] b) ∨
  (∃(g l c:Nat) (iI:Nat->Option Nat),v= .slice (some ⟨g,0,none⟩) l c∧aO S0 w0 n [g] s1 a w iI∧(∀b,aQ S0 w φ [] b->aQ S0 w iI [g] b)∧l≤c∧c≤maxLen∧cells.length=e*l∧(w0.heap.size≤g∨S0.X g)∧g<w.heap.size ∧
   ∃cur te fr,w.heap[g]?=some (.cells cur te fr)∧(∀j,j<cur.size-> ¬(fr.1≤j∧j<fr.2))∧cur.size=e*c∧ ∀(j:Nat) u x,cur[j]?=some u->cells[j]?=some x->cB (aQ S0 w φ []) w u x) ∨
  ∃(A:Option Addr) (l:Nat) (us:List Value),(∃e',x= .pC e' cells)∧v= .slice A l l∧s1=s∧us.length=cells.length∧cells.length=e*l∧(0<us.length-> ∃ad,A=some ad∧ ∀(j:Nat) u,us[j]?=some u->w.cell? (ad.add j)=some u) ∧
   ∀(j:Nat) u x,us[j]?=some u->cells[j]?=some x->cB (aQ S0 w φ []) w u x:=by
 have own:∀(id g l c m:Nat) (e':Nat) (fu:Bool) (rc:List AV),look s.H id=some ⟨e',true,fu,rc⟩->az s.H φ id=some (e',m,some g)->e=e'->l≤c->c≤maxLen->a7 w g=e'*c->cells.length=e*l->(∀(j:Nat) x,cells[j]?=some x->rc[j]?=some x)->s1=cp id s->v= .slice (some ⟨g,0,none⟩) l c ->
   ∃(g l c:Nat) (iI:Nat->Option Nat),v= .slice (some ⟨g,0,none⟩) l c∧aO S0 w0 n [g] s1 a w iI∧(∀b,aQ S0 w φ [] b->aQ S0 w iI [g] b)∧l≤c∧c≤maxLen∧cells.length=e*l∧(w0.heap.size≤g∨S0.X g)∧g<w.heap.size ∧
   ∃cur te fr,w.heap[g]?=some (.cells cur te fr)∧(∀j,j<cur.size-> ¬(fr.1≤j∧j<fr.2))∧cur.size=e*c∧ ∀(j:Nat) u x,cur[j]?=some u->cells[j]?=some x->cB (aQ S0 w φ []) w u x:=by
  intro id g l c m e' fu rc hr hi SA Gh tq gF hlen C7 gV hv
  subst gV;subst SA
  obtain ⟨r',iq,-,-,ct⟩:=aT hi
  obtain ⟨cur,te,fr,hg,hf,hle,hc⟩:=kG hs hr rfl ct
  refine ⟨g,l,c,erase φ id,hv,hs.jx id [g] (by rw [ct]),fun b hb=>⟨hb.1,by simp;exact fun e=>hb.2.2.1 id (by rw [ct,e]),fun i hi=>?_,hb.2.2.2⟩,Gh,tq,hlen,(hs.cY id g ct).1.2,(hs.cY id g ct).2,cur,te,fr,hg,hf,?_,fun j u x hu hx=>hc j u x hu (C7 j x hx)⟩
  ·unfold erase at hi
   split at hi
   ·cases hi
   ·exact hb.2.2.1 i hi
  ·unfold a7 at gF;rw [hg] at gF;exact gF
 have none_:∀id,φ id=none->s1=cp id s->v= .slice none 0 0->cells= []->v= .slice none 0 0∧cells= []∧ ∃ iI,aO S0 w0 n [] s1 a w iI∧ ∀b,aQ S0 w φ [] b->aQ S0 w iI [] b:=by
  intro id ct gV hv hc
  subst gV
  refine ⟨hv,hc,erase φ id,hs.jx id [] (by rw [ct]),fun b hb=>⟨hb.1,by simp,fun i hi=>?_,hb.2.2.2⟩⟩
  unfold erase at hi
  split at hi
  ·cases hi
  ·exact hb.2.2.1 i hi
 cases hx with
 | rep hx =>
  cases hx with
  | nil=>cases he;exact .inl ⟨rfl,rfl,φ,hs,fun _ h=>h⟩
  | pC A k e' us row hl hn hm ha h =>
   simp only [qC] at he
   split at he
   ·rename_i hb
    have hb:=Nat.eq_of_beq_eq_true hb
    cases he
    exact .inr (.inr ⟨A,k,us,⟨e',rfl⟩,rfl,rfl,hl,by rw [hn,hb],fun h0=>by
     obtain ⟨ad,h1,-,h2⟩:=ha ah
     exact ⟨ad,h1,h2⟩,h⟩)
   ·cases he
  | _=>cases he
 | agg=>cases he
 | bk=>cases he
 | dead=>cases he
 | addr=>cases he
 | js=>cases he
 | ref id e' m g l c hi hm hc hx b7 =>
  obtain ⟨r,hr,h1,h2,ct⟩:=aT hi
  obtain ⟨re,rp,rf,rc⟩:=r
  simp only [qC,hr] at he
  split at he
  ·rename_i heq
   injection heq with heq;cases heq
   split at he
   ·rename_i hb
    have hb:=Nat.eq_of_beq_eq_true hb
    cases he
    simp only at h1 h2
    subst h1
    exact .inr (.inl (own id g l c m _ _ _ hr hi hb hc hx b7 (by rw [h2,hm,hb]) (fun _ _ h=>h) rfl rfl))
   ·cases he
  ·cases he
 | cD id e' hi =>
  obtain ⟨r,hr,h1,h2,ct⟩:=aT hi
  obtain ⟨re,rp,rf,rc⟩:=r
  simp only [qC,hr] at he
  split at he
  ·rename_i heq
   injection heq with heq;cases heq
   split at he
   ·cases he
    simp only at h2
    exact .inl (none_ id ct rfl rfl (List.length_eq_zero_iff.1 h2))
   ·cases he
  ·cases he
 | pre id k e' m g l c hi hn hm hc hx b7 =>
  obtain ⟨r,hr,h1,h2,ct⟩:=aT hi
  obtain ⟨re,rp,rf,rc⟩:=r
  simp only [qC,hr] at he
  split at he
  ·rename_i heq
   injection heq with heq;cases heq
   split at he
   ·rename_i hb
    have hb:=Nat.eq_of_beq_eq_true hb
    cases he
    simp only at h1 h2
    subst h1
    exact .inr (.inl (own id g l c m _ _ _ hr hi hb hc hx b7 (by rw [List.length_take,h2,hb,←hn];omega) (fun j x h=>bZ _ _ _ _ h) rfl rfl))
   ·cases he
  ·cases he
 | dB id e' hi =>
  obtain ⟨r,hr,h1,h2,ct⟩:=aT hi
  obtain ⟨re,rp,rf,rc⟩:=r
  simp only [qC,hr] at he
  split at he
  ·rename_i heq
   injection heq with heq;cases heq
   split at he
   ·cases he
    exact .inl (none_ id ct rfl rfl (by simp))
   ·cases he
  ·cases he
theorem sF {t xt d:Nat} {x y:Operand} (ho:o.op= .call ⟨.builtin .append,⟨[x,y]⟩,⟨[t,xt]⟩⟩) (hd:o.dst=some d) (hr:kV P n s d t xt (bp s x) (bp s y) h=some q):mi P n s o q.1 q.2:=by
 intro hC S0 w0 a w Q ⟨φ,hs⟩
 unfold kV at hr
 split at hr
 ·rename_i el hu
  split at hr
  ·rename_i i hi
   split at hr
   ·rename_i zero z b hz dw yG
    split at hr
    ·rename_i cells s1 row uP lI gB
     split at hr
     ·rename_i C s' oY ez
      injection hr with hr;subst hr
      obtain ⟨hn,Fb⟩:=hU hC
      obtain ⟨PX,nn,m7⟩:=w6 oY Fb
      have uP:=Nat.eq_of_beq_eq_true uP
      replace dw:i.size=z+1:=dw
      replace yG:i.bytes=b+1:=yG
      obtain ⟨m,us,Ge,z6,b_⟩:=wO (P:=P) hs (hs.bp y) gB PX
      have aR:row.length=(z+1)*m:=by rw [←z6,Ge.hl,Nat.mul_comm]
      rw [hn] at ez
      have wp:∀v' w',(Builtin.append_ #[t,xt] o.type #[a.eval x,a.eval y]).run P w= .ok v' w'->ix S0 w0 n s' (a.put o.dst v') w'->o.wp P a w (fun a' w'=>ix S0 w0 n s' a' w') Q:=by
       intro v' w' cw gk
       refine cU (v:=v') (w':=w') ?_ gk
       unfold execOp
       simp [ho,resolve,invoke,builtin,cw]
      have AB:∀s1:AS,look (cp d s1).H d=none:=fun s1=>dp d
      rcases JM hs (hs.bp x) lI with ⟨hv,VA,iI,gV,hF⟩|⟨g,l,c,iI,hv,gV,hF,Gh,tq,gF,Bu,Gj,cur,te,fr,hg,hf,xi,hold⟩|⟨A,l,ol,⟨e',UM⟩,hv,Q6,Bp,gF,VY,hold⟩
      ·subst VA
       simp only [List.nil_append,List.length_nil,Nat.zero_add] at ez nn
       have xf:m*i.bytes≤140737488355328:=by
        have:=ye (l:=0) (m:=m) ah (by rw [Nat.zero_add];exact aR) nn
        rw [Nat.zero_add] at this;rw [yG];exact this
       have ng:=gV.mv d
       rcases HK (ty:=o.type) hu hi hz (by rw [uP,dw]) ah (by rw [dw];exact Ge) xf with ⟨hm,cw⟩|⟨v',w',cw,hA⟩
       ·have U4:row= []:=List.length_eq_zero_iff.1 (by rw [aR,hm];simp)
        subst U4
        refine wp (.slice none 0 0) w (by rw [hv];exact cw) ⟨erase iI d,?_⟩
        rw [hd]
        exact dX (ng.rZ (id:=d) (r:=⟨z+1,true,false,[]⟩) (AB s1) rfl) (.cD d (z+1) (by rw [bu (r:=⟨z+1,true,false,[]⟩) (by rw [aF,if_pos rfl]),ng.only d (AB s1)];rfl)) ez
       ·rw [dw] at hA
        obtain ⟨j9,h3,h4⟩:=ng.vJ (g0:=none) rfl (by simp) (by simp) (iT ez) (AB s1) hA (row:=row) z6.symm (fun j u x hu hx=>(b_ j u x hu hx).mono fun b hb=>⟨⟨hb.1,by simp,fun i hi=>by
         unfold erase at hi
         split at hi
         ·cases hi
         ·exact (hF b hb).2.2.1 i hi,hb.2.2.2⟩,rfl⟩)
        refine wp _ _ (by rw [hv];exact cw) ⟨j9,?_⟩
        rw [hd]
        exact dX h3 h4 ez
      ·have Mn:(cur.toList.take (l*(z+1))).length=cells.length:=by
        have Lw:cur.toList.length=cur.size:=rfl
        rw [List.length_take,gF,Lw,xi,Nat.mul_comm]
        exact Nat.min_eq_left (Nat.mul_le_mul_left _ Gh)
       have xf:(l+m)*i.bytes≤140737488355328:=by
        rw [yG];exact ye ah (by rw [gF,aR,←Nat.mul_add]) nn
       have ng:aO S0 w0 n [g] (cp d s1) a w (erase iI d):=by
        cases Pz:iI d with
        | none=>exact gV.jx d [g] (by rw [Pz])
        | some gd=>exact (gV.jx d [gd,g] (by rw [Pz])).vf
       obtain ⟨v',w',g',cw,hA⟩:=HJ (ty:=o.type) hu hi hz (by rw [uP,dw]) ah (by rw [dw];exact Ge) hg hf (by rw [dw];exact xi) Gh tq xf
       rw [dw] at hA
       have SY:∀b,aQ S0 w φ [] b->aQ S0 w (erase iI d) [g] b:=fun b hb=>⟨hb.1,(hF b hb).2.1,fun i hi=>by
        unfold erase at hi
        split at hi
        ·cases hi
        ·exact (hF b hb).2.2.1 i hi,hb.2.2.2⟩
       obtain ⟨j9,h3,h4⟩:=ng.vJ (g0:=some g) rfl (by simpa using Bu) (by simpa using Gj) (iT ez) (AB s1) hA (row:=cells++row) (by rw [List.length_append,List.length_append,Mn,z6]) (fun j u x hu hx=>by
        refine cB.mono (fun b hb=>⟨SY b hb,rfl⟩) (?_:cB (aQ S0 w φ []) w u x)
        by_cases hj:j<cells.length
        ·rw [List.getElem?_append_left ah] at hu
         rw [List.getElem?_append_left hj] at hx
         have:=bZ _ _ _ _ hu
         exact hold j u x (by simpa using this) hx
        ·rw [List.getElem?_append_right ah] at hu
         rw [List.getElem?_append_right ah] at hx
         rw [Mn] at hu
         exact b_ _ u x hu hx)
       refine wp _ _ (by rw [hv];exact cw) ⟨j9,?_⟩
       rw [hd]
       exact dX h3 h4 ez
      ·subst Q6
       rw [UM] at m7
       have Mq:0<m:=by
        have h0:0<row.length:=m7.1
        rw [aR] at h0
        exact Nat.pos_of_mul_pos_left h0
       have xf:(l+m)*i.bytes≤140737488355328:=by
        rw [yG];exact ye ah (by rw [gF,aR,←Nat.mul_add]) nn
       have ng:=hs.mv d
       obtain ⟨v',w',cw,hA⟩:=HM (ty:=o.type) hu hi hz (by rw [uP,dw]) ah (by rw [dw];exact Ge) (by rw [Bp,gF,dw,Nat.mul_comm]) VY Mq xf
       rw [dw] at hA
       have SY:∀b,aQ S0 w φ [] b->aQ S0 w (erase φ d) [] b:=fun b hb=>⟨hb.1,by simp,fun i hi=>by
        unfold erase at hi
        split at hi
        ·cases hi
        ·exact hb.2.2.1 i hi,hb.2.2.2⟩
       obtain ⟨j9,h3,h4⟩:=ng.vJ (g0:=none) rfl (by simp) (by simp) (iT ez) (AB _) hA (row:=cells++row) (by rw [List.length_append,List.length_append,Bp,z6]) (fun j u x hu hx=>by
        refine cB.mono (fun b hb=>⟨SY b hb,rfl⟩) (?_:cB (aQ S0 w φ []) w u x)
        by_cases hj:j<cells.length
        ·rw [List.getElem?_append_left ah] at hu
         rw [List.getElem?_append_left hj] at hx
         exact hold j u x hu hx
        ·rw [List.getElem?_append_right ah] at hu
         rw [List.getElem?_append_right ah] at hx
         rw [Bp] at hu
         exact b_ _ u x hu hx)
       refine wp _ _ (by rw [hv];exact cw) ⟨j9,?_⟩
       rw [hd]
       exact dX h3 h4 ez
     ·cases hr
    ·cases hr
   ·cases hr
  ·cases hr
 ·cases hr
def JW (s:AS):AV->Option (Nat×Nat×Nat)
 | .ref id=>(match look s.H id with|some r=>some (id,0,r.cells.length)|none=>none)
 | .pre id l=>some (id,0,l)
 | .js id o l=>some (id,o,l)
 | _=>none
def DF (P:Program) (n:Nat) (s:AS) (d:Option Nat) (t xt:Nat) (x y:AV) (h:Hint):Option (AS×List Prop) :=
 match P.underlying t with
 | some (.slice el)=>(match eC P el,JW s x with
  | some (z+1),some (id,off,l)=>(match look s.H id,qY P s xt (z+1) y with
   | some ⟨e,true,fu,cells⟩,some row=>(match Nat.beq e (z+1),x9 h row,gr n (FJ s id ⟨e,true,fu,(named h (setCells cells off (row.take (cV h.k (z+1))))).1⟩) d (.val (.int .i64 h.k)) with
    | true,some C,some s'=>some (s',(named h (setCells cells off (row.take (cV h.k (z+1))))).2++(C++ [min row.length l=cV h.k (z+1),0<l]))
    | _,_,_=>none)
   | _,_=>none)
  | _,_=>none)
 | _=>none
theorem GG {t xt:Nat} {x y:Operand} (ho:o.op= .call ⟨.builtin .copy,⟨[x,y]⟩,⟨[t,xt]⟩⟩) (hr:DF P n s o.dst t xt (bp s x) (bp s y) h=some q):mi P n s o q.1 q.2:=by
 intro hC S0 w0 a w Q ⟨φ,hs⟩
 unfold DF at hr
 split at hr
 ·rename_i el hu
  split at hr
  ·rename_i z id off l dw Kp
   split at hr
   ·rename_i e fu cells row aR gB
    split at hr
    ·rename_i C s' he oY ez
     injection hr with hr;subst hr
     have he:=Nat.eq_of_beq_eq_true he
     obtain ⟨hn,Fb⟩:=hU hC
     obtain ⟨PX,C_,vM,-⟩:=w6 oY Fb
     obtain ⟨m,us,Ge,z6,b_⟩:=wO (P:=P) hs (hs.bp y) gB PX
     rw [bx] at C_
     have G_:row.length=(z+1)*m:=by rw [←z6,Ge.hl,Nat.mul_comm]
     have hI:=bu (φ:=φ) aR
     have hx:=hs.bp x
     have lI:∃(g dl c:Nat),a.eval x= .slice (some ⟨g,off,none⟩) dl c∧φ id=some g∧l=(z+1)*dl∧off+l≤cells.length:=by
      generalize a.eval x=V at hx
      unfold JW at Kp
      split at Kp
      ·rename_i pw OK
       rw [OK] at hx
       split at Kp
       ·rename_i r' iq
        cases Kp
        rw [aR] at iq;injection iq with iq;subst iq
        cases hx with
        | rep h=>cases h
        | ref _ e' m' g l' c hi hm hc hx b7 =>
         rw [hI] at hi;injection hi with hi;injection hi with h1 hi;injection hi with h2 h3
         simp only at h1 h2 ⊢
         exact ⟨g,l',c,rfl,h3,by rw [h2,hm,←h1,he],ah⟩
        | cD _ e' hi =>
         rw [hI] at hi;injection hi with hi;injection hi with h1 hi;injection hi with h2 h3
         simp only at h2 vM;omega
       ·cases Kp
      ·rename_i pw l' OK
       rw [OK] at hx
       cases Kp
       cases hx with
       | rep h=>cases h
       | pre _ _ e' m' g l' c hi sV hm hc hx b7 =>
        rw [hI] at hi;injection hi with hi;injection hi with h1 hi;injection hi with h2 h3
        simp only at h1 h2 ⊢
        exact ⟨g,l',c,rfl,h3,by rw [sV,←h1,he],ah⟩
       | dB _ e' hi=>omega
      ·rename_i pw o' l' OK
       rw [OK] at hx
       cases Kp
       cases hx with
       | rep h=>cases h
       | js _ _ _ e' m' l' c g A hi sV hm hc hx ha =>
        rw [hI] at hi;injection hi with hi;injection hi with h1 hi;injection hi with h2 h3
        obtain ⟨b,hb,rfl⟩:=ha vM
        simp only at h1 h2 ⊢
        exact ⟨b,l',c,rfl,by rw [h3,hb],by rw [sV,←h1,he],ah⟩
      ·cases Kp
     obtain ⟨g,dl,c,hv,ct,hl,mO⟩:=lI
     obtain ⟨cur,te,fr,hg,hf,hle,hold⟩:=CE hs aR ct
     have Vf:cells.length≤cur.size:=hle
     have Rd:min m dl=h.k:=by
      rw [G_,hl,Nat.mul_comm h.k,Nat.mul_min_mul_left] at C_
      exact Nat.eq_of_mul_eq_mul_left ah C_
     have iH:h.k*(z+1)≤l:=ah
     have WC:h.k*(z+1)≤row.length:=ah
     have Bl:(row.take (cV h.k (z+1))).length=h.k*(z+1):=by rw [bx,List.length_take];omega
     have TN:(us.take (h.k*(z+1))).length=h.k*(z+1):=by rw [List.length_take];omega
     have dN:(Builtin.firstCells (z+1) h.k (a.eval y)).run P w= .ok (us.take (h.k*(z+1))).toArray w:=Ge.part w h.k rfl ah
     have uS:∀u∈us.take (h.k*(z+1)),u.oneCell'=true:=fun u hu=>Ge.one u (List.mem_of_mem_take hu)
     have dC:=c_ P g te fr cur.size hf off (us.take (h.k*(z+1))) 0 cur w hg (by rw [TN];omega) rfl uS
     simp only [Nat.add_zero] at dC
     have gk:=hs.written (off:=off) (l:=row.take (cV h.k (z+1))) (vs:=us.take (h.k*(z+1))) aR ct hg hle hold (by rw [Bl,TN]) (by rw [Bl];simp only;omega) hn (fun j u x hu hx=>by
      show cB _ _ _ _
      exact b_ j u x (bZ _ _ _ _ hu) (bZ _ _ _ _ hx))
     have R4:(sizeOf el).run P w= .ok (z+1) w:=run_sizeOf dw
     refine cU (v:=.int .i64 h.k) (w':=w.setRow g (cur.toList.take off++us.take (h.k*(z+1))++cur.toList.drop (off+(us.take (h.k*(z+1))).length)).toArray) ?_ ⟨φ,dX gk (.rep (.val _)) ez⟩
     have Lj:Nat.min m dl=h.k:=Rd
     unfold execOp
     simp [ho,resolve,invoke,builtin,Builtin.copy_,run_underlying hu,hv,Ge.len,Lj,R4,dN,dC,goInt]
    ·cases hr
   ·cases hr
  ·cases hr
 ·cases hr
end
inductive ib (S:Nat->Prop) (w:World):Value->AV->List Nat->Prop
 | rep {v:Value} {x:AV} (h:cB S w v x):ib S w v x []
 | nil (e:Nat):ib S w (.slice none 0 0) (.own e []) []
 | own (g l c e:Nat) (row:List AV) (cur:Array Value) (te:TypeId) (fr:Nat×Nat) (hg:w.heap[g]?=some (.cells cur te fr)) (hf:∀j,j<cur.size-> ¬(fr.1≤j∧j<fr.2)) (hl:row.length=e*l) (hc:l≤c) (hm:c≤maxLen) (hs:cur.size=e*c)
   (h:∀(j:Nat) u x,cur[j]?=some u->row[j]?=some x->cB S w u x):ib S w (.slice (some ⟨g,0,none⟩) l c) (.own e row) [g]
 | box (g:Nat) (row:List AV) (cur:Array Value) (te:TypeId) (fr:Nat×Nat) (hg:w.heap[g]?=some (.cells cur te fr)) (hf:∀j,j<cur.size-> ¬(fr.1≤j∧j<fr.2)) (hs:cur.size=row.length)
   (h:∀(j:Nat) u x,cur[j]?=some u->row[j]?=some x->cB S w u x):ib S w (.pointer (some ⟨g,0,none⟩)) (.box row) [g]
inductive k8 (R:Value->AV->List Nat->Prop):List Value->List AV->List Nat->Prop
 | nil:k8 R [] [] []
 | cons {v:Value} {x:AV} {vs:List Value} {xs:List AV} {O1 O2:List Nat} (h:R v x O1) (t:k8 R vs xs O2):k8 R (v::vs) (x::xs) (O1++O2)
def oa (S:Nat->Prop) (w:World) (v:Value) (x:AV) (O:List Nat):Prop:=ib S w v x O∨ ∃vs cs,v= .agg (List.toArray vs)∧x= .agg cs∧k8 (ib S w) vs cs O
def s_ (S:Nat->Prop) (w:World) (v:Value) (x:AV) (O:List Nat):Prop:=oa S w v x O∨ ∃vs cs,v= .tuple (List.toArray vs)∧x= .bk cs∧k8 (oa S w) vs cs O
theorem k8.imp {R R':Value->AV->List Nat->Prop} (hR:∀v x O,R v x O->R' v x O) {vs:List Value} {xs:List AV} {O:List Nat} (h:k8 R vs xs O):k8 R' vs xs O:=by
 induction h with
 | nil=>exact .nil
 | cons h _ ih=>exact .cons (hR _ _ _ h) ih
section
variable {S S':Nat->Prop} {w:World}
theorem ib.mono (hS:∀b,S b->S' b) {v:Value} {x:AV} {O:List Nat} (h:ib S w v x O):ib S' w v x O:=by
 cases h with
 | rep h=>exact .rep (h.mono fun b hb=>⟨hS b hb,rfl⟩)
 | nil e=>exact .nil e
 | own g l c e row cur te fr hg hf hl hc hm hs h=>exact .own g l c e row cur te fr hg hf hl hc hm hs fun j u x hu hx=>(h j u x hu hx).mono fun b hb=>⟨hS b hb,rfl⟩
 | box g row cur te fr hg hf hs h=>exact .box g row cur te fr hg hf hs fun j u x hu hx=>(h j u x hu hx).mono fun b hb=>⟨hS b hb,rfl⟩
theorem oa.mono (hS:∀b,S b->S' b) {v:Value} {x:AV} {O:List Nat} (h:oa S w v x O):oa S' w v x O:=by
 rcases h with h|⟨vs,cs,h1,h2,h3⟩
 ·exact .inl (h.mono hS)
 ·exact .inr ⟨vs,cs,h1,h2,h3.imp fun _ _ _ h=>h.mono hS⟩
theorem s_.mono (hS:∀b,S b->S' b) {v:Value} {x:AV} {O:List Nat} (h:s_ S w v x O):s_ S' w v x O:=by
 rcases h with h|⟨vs,cs,h1,h2,h3⟩
 ·exact .inl (h.mono hS)
 ·exact .inr ⟨vs,cs,h1,h2,h3.imp fun _ _ _ h=>h.mono hS⟩
end
def bC (P:Program) (f:FuncId) (args:List AV) (r:AV):Prop :=
 ∀(w:World) (S:Nat->Prop) (vs:List Value),Good w->(∀b,S b->b<w.heap.size)->vs.length=args.length->(∀(j:Nat) v x,vs[j]?=some v->args[j]?=some x->cB S w v x) ->
  Calls P f vs.toArray w fun e w'=>∃v O,e= .returned v∧Below w.heap.size w w'∧O.Nodup∧(∀g∈O,w.heap.size≤g∧g<w'.heap.size)∧s_ (fun b=>S b∨(w.heap.size≤b∧b<w'.heap.size∧b ∉ O)) w' v r O
def lr (row:List AV):Prop:=∀x∈row,∃v,x= .val v
theorem aP (l:List UInt8):lr (ag l):=by
 intro x hx;simp only [ag,List.mem_map] at hx;obtain ⟨c,_,rfl⟩:=hx;exact ⟨_,rfl⟩
theorem gv (l:List UInt64):lr (aj l):=by
 intro x hx;simp only [aj,List.mem_map] at hx;obtain ⟨c,_,rfl⟩:=hx;exact ⟨_,rfl⟩
theorem wI (l:List Int):lr (au l):=by
 intro x hx;simp only [au,List.mem_map] at hx;obtain ⟨c,_,rfl⟩:=hx;exact ⟨_,rfl⟩
def xo:AV->Option (List Prop)
 | .val _=>some []
 | .nil=>some []
 | .own _ row=>some [lr row]
 | .box row=>some [lr row]
 | _=>none
def qu (f:AV->Option (List Prop)):List AV->Option (List Prop)
 | []=>some []
 | x::l=>match f x,qu f l with|some a,some b=>some (a++b)|_,_=>none
def vh:AV->Option (List Prop)
 | .agg cs=>qu xo cs
 | x=>xo x
def flat:AV->Option (List Prop)
 | .bk cs=>qu vh cs
 | x=>vh x
theorem bT {C D:List Prop}:bz (C++D)↔bz C∧bz D:=by
 induction C with
 | nil=>simp [bz]
 | cons p C ih=>simp only [List.cons_append,bz,ih,and_assoc]
section
variable {S S':Nat->Prop} {w:World}
theorem vi {v:Value} {x:AV} {O:List Nat} {C:List Prop} (hf:xo x=some C) (hC:bz C) (h:ib S w v x O):ib S' w v x O:=by
 cases h with
 | rep h=>cases h with
  | val v=>exact .rep (.val v)
  | nil=>exact .rep .nil
  | _=>cases hf
 | nil e=>exact .nil e
 | own g l c e row cur te fr hg gJ hl hc hm hs h =>
  refine .own g l c e row cur te fr hg gJ hl hc hm hs fun j u x hu hx=>?_
  have hv:lr row:=by injection hf with hf;subst hf;exact hC.1
  obtain ⟨v',rfl⟩:=hv x (List.mem_of_getElem? hx)
  have:=h j u _ hu hx
  cases this
  exact .val _
 | box g row cur te fr hg gJ hs h =>
  refine .box g row cur te fr hg gJ hs fun j u x hu hx=>?_
  have hv:lr row:=by injection hf with hf;subst hf;exact hC.1
  obtain ⟨v',rfl⟩:=hv x (List.mem_of_getElem? hx)
  have:=h j u _ hu hx
  cases this
  exact .val _
theorem BP {R R':Value->AV->List Nat->Prop} {f:AV->Option (List Prop)} (hR:∀v x O C,f x=some C->bz C->R v x O->R' v x O) {vs:List Value} {xs:List AV} {O:List Nat} (h:k8 R vs xs O):∀C,qu f xs=some C->bz C->k8 R' vs xs O:=by
 induction h with
 | nil=>intro _ _ _;exact .nil
 | cons h _ ih =>
  intro C hf hC
  simp only [qu] at hf
  split at hf
  ·rename_i a b ha hb
   cases hf
   obtain ⟨h1,h2⟩:=bT.1 hC
   exact .cons (hR _ _ _ _ ha h1 h) (ih b hb h2)
  ·cases hf
theorem vg {v:Value} {x:AV} {O:List Nat} {C:List Prop} (hf:vh x=some C) (hC:bz C) (h:oa S w v x O):oa S' w v x O:=by
 rcases h with h|⟨vs,cs,h1,rfl,h3⟩
 ·by_cases hx:∃cs,x= .agg cs
  ·obtain ⟨cs,rfl⟩:=hx
   cases h with
   | rep h=>cases h with
    | agg vs _ hl h =>
     right
     refine ⟨vs,cs,rfl,rfl,?_⟩
     have key:∀(vs:List Value) (cs:List AV) (C:List Prop),vs.length=cs.length->(∀(j:Nat) v c,vs[j]?=some v->cs[j]?=some c->cB S w v c)->qu xo cs=some C->bz C->k8 (ib S' w) vs cs []:=by
      intro vs cs
      induction cs generalizing vs with
      | nil=>intro C hl _ _ _;cases vs with|nil=>exact .nil|cons=>simp at hl
      | cons c cs ih =>
       intro C hl hr hf hC
       cases vs with
       | nil=>simp at hl
       | cons v vs =>
        simp only [qu] at hf
        split at hf
        ·rename_i a b ha hb
         cases hf
         obtain ⟨h1,h2⟩:=bT.1 hC
         exact k8.cons (O1:=[]) (O2:=[]) (vi ha h1 (.rep (hr 0 v c rfl rfl))) (ih vs b (by simpa using hl) (fun j v c hv hc=>hr (j+1) v c (by simpa using hv) (by simpa using hc)) hb h2)
        ·cases hf
     exact key vs cs C hl h hf hC
  ·have:vh x=xo x:=by
    cases x with
    | agg cs=>exact absurd ⟨cs,rfl⟩ hx
    | _=>rfl
   rw [this] at hf
   exact .inl (vi hf hC h)
 ·exact .inr ⟨vs,cs,h1,rfl,BP (f:=xo) (R':=ib S' w) (fun _ _ _ _ a b c=>vi a b c) h3 C hf hC⟩
theorem tt {v:Value} {x:AV} {O:List Nat} {C:List Prop} (hf:flat x=some C) (hC:bz C) (h:s_ S w v x O):s_ S' w v x O:=by
 rcases h with h|⟨vs,cs,h1,rfl,h3⟩
 ·by_cases hx:∃cs,x= .bk cs
  ·obtain ⟨cs,rfl⟩:=hx
   rcases h with h|⟨vs,Ky,h1,h2,h3⟩
   ·cases h with
    | rep h=>cases h with
     | bk vs _ hl h =>
      right
      refine ⟨vs,cs,rfl,rfl,?_⟩
      have key:∀(vs:List Value) (cs:List AV) (C:List Prop),vs.length=cs.length->(∀(j:Nat) v c,vs[j]?=some v->cs[j]?=some c->cB S w v c)->qu vh cs=some C->bz C->k8 (oa S' w) vs cs []:=by
       intro vs cs
       induction cs generalizing vs with
       | nil=>intro C hl _ _ _;cases vs with|nil=>exact .nil|cons=>simp at hl
       | cons c cs ih =>
        intro C hl hr hf hC
        cases vs with
        | nil=>simp at hl
        | cons v vs =>
         simp only [qu] at hf
         split at hf
         ·rename_i a b ha hb
          cases hf
          obtain ⟨h1,h2⟩:=bT.1 hC
          exact k8.cons (O1:=[]) (O2:=[]) (vg ha h1 (.inl (.rep (hr 0 v c rfl rfl)))) (ih vs b (by simpa using hl) (fun j v c hv hc=>hr (j+1) v c (by simpa using hv) (by simpa using hc)) hb h2)
         ·cases hf
      exact key vs cs C hl h hf hC
   ·cases h2
  ·have:flat x=vh x:=by
    cases x with
    | bk cs=>exact absurd ⟨cs,rfl⟩ hx
    | _=>rfl
   rw [this] at hf
   exact .inl (vg hf hC h)
 ·exact .inr ⟨vs,cs,h1,rfl,BP (f:=vh) (R':=oa S' w) (fun _ _ _ _ a b c=>vg a b c) h3 C hf hC⟩
end
def jr (id:Nat):AV->AV×List (Nat×Row)
 | .own e row=>(.ref id,[(id,⟨e,true,false,row⟩)])
 | .box row=>(.addr id 0,[(id,⟨1,false,true,row⟩)])
 | x=>(x,[])
def gU (f:Nat->AV->AV×List (Nat×Row)) (step:Nat):Nat->List AV->List AV×List (Nat×Row)
 | _,[]=>([],[])
 | id,x::l=>((f id x).1::(gU f step (id+step) l).1,(gU f step (id+step) l).2++(f id x).2)
def xB (id:Nat):AV->AV×List (Nat×Row)
 | .agg cs=>(.agg (gU jr 100000 (id+100000) cs).1,(gU jr 100000 (id+100000) cs).2)
 | x=>jr id x
def bO (d:Nat):AV->AV×List (Nat×Row)
 | .bk cs=>(.bk (gU xB 1000 (d+1000) cs).1,(gU xB 1000 (d+1000) cs).2)
 | x=>xB d x
section
variable {S0:bn} {w0 w:World} {n:Nat} {a:Act}
def Ext (S0:bn) (w:World) (s s':AS) (φ cA:Nat->Option Nat) (O O':List Nat):Prop :=
 (∀i y,az s.H φ i=some y->az s'.H cA i=some y)∧(∀b,aQ S0 w φ O b->aQ S0 w cA O' b)
theorem Ext.den {s s':AS} {φ cA:Nat->Option Nat} {O O':List Nat} (h:Ext S0 w s s' φ cA O O') {v:Value} {x:AV} (hd:Den (az s.H φ) (aQ S0 w φ O) w v x):Den (az s'.H cA) (aQ S0 w cA O') w v x :=
 hd.mono h.1 (fun b hb=>⟨h.2 b hb,rfl⟩) (fun _ _ _ _ _=>rfl)
theorem Ext.trans {s s1 s2:AS} {φ iI j9:Nat->Option Nat} {O O1 O2:List Nat} (h:Ext S0 w s s1 φ iI O O1) (k:Ext S0 w s1 s2 iI j9 O1 O2):Ext S0 w s s2 φ j9 O O2 :=
 ⟨fun i y hi=>k.1 i y (h.1 i y hi),fun b hb=>k.2 b (h.2 b hb)⟩
def Fv (S0:bn) (w0 w:World) (n:Nat) (a:Act) (R:(Nat->Prop)->Value->AV->List Nat->Prop) (f:Nat->AV->AV×List (Nat×Row)):Prop :=
 ∀(s:AS) (φ:Nat->Option Nat) (O1 O:List Nat) (v:Value) (x:AV) (id:Nat),aO S0 w0 n (O1++O) s a w φ->R (aQ S0 w φ (O1++O)) v x O1->(O1++O).Nodup->(∀g∈O1,(w0.heap.size≤g∨S0.X g)∧g<w.heap.size)->(∀i∈(f id x).2.map (·.1),look s.H i=none∧i<1000000000000)->((f id x).2.map (·.1)).Nodup ->
  ∃ cA,aO S0 w0 n O ⟨s.F,(f id x).2++s.H⟩ a w cA∧Den (az ((f id x).2++s.H) cA) (aQ S0 w cA O) w v (f id x).1∧Ext S0 w s ⟨s.F,(f id x).2++s.H⟩ φ cA (O1++O) O
theorem mr:Fv S0 w0 w n a (fun S=>ib S w) jr:=by
 intro s φ O1 O v x id h hg ir mL gJ _
 cases hg with
 | rep b_ =>
  have hx:jr id x=(x,[]):=by
   cases b_<;>rfl
  rw [hx]
  exact ⟨φ,h,.rep b_,fun _ _ h=>h,fun _ h=>h⟩
 | nil e =>
  have hid:look s.H id=none:=(gJ id (by simp [jr])).1
  have h1:=h.rZ (id:=id) (r:=⟨e,true,false,[]⟩) hid rfl
  refine ⟨φ,h1,.cD id e ?_,fun i y hi=>?_,fun _ h=>h⟩
  ·show az ((id,⟨e,true,false,[]⟩)::s.H) φ id=_
   rw [bu (r:=⟨e,true,false,[]⟩) (by rw [aF,if_pos rfl]),h.only id hid];rfl
  ·obtain ⟨e',m,b⟩:=y
   obtain ⟨q,hl,h1,h2,h3⟩:=aT hi
   show az ((id,_)::s.H) φ i=_
   have cW:id≠i:=fun e=>by subst e;rw [hid] at hl;cases hl
   rw [bu (r:=q) (by rw [aF,if_neg cW,hl]),h1,h2,h3]
 | own g l c e row cur te fr hg hf hl hc hm hs b_ =>
  have hid:look s.H id=none:=(gJ id (by simp [jr])).1
  have Qc:g ∉ O:=by
   have:=ir
   simp only [List.cons_append,List.nil_append,List.nodup_cons] at this
   exact this.1
  have h1:=aO.xz (g:=g) (id:=id) (r:=⟨e,true,false,row⟩) h ⟨.inl (gJ id (by simp [jr])).2,(mL g (by simp)).1⟩ (mL g (by simp)).2 Qc hid ⟨cur,te,fr,hg,hf,by simp only [hl,hs];exact Nat.mul_le_mul_left _ hc,fun h=>(by cases h),fun j u x hu hx=>by show cB _ _ _ _;exact b_ j u x hu hx⟩
  refine ⟨_,h1,.ref id e row.length g l c ?_ hl hc hm (by unfold a7;rw [hg];exact hs),fun i y hi=>?_,fun b hb=>(rJ (h.only id hid) b).1 hb⟩
  ·show az ((id,⟨e,true,false,row⟩)::s.H) _ id=_
   rw [bu (r:=⟨e,true,false,row⟩) (by rw [aF,if_pos rfl])]
   unfold fI;rw [if_pos rfl]
  ·obtain ⟨e',m,b⟩:=y
   obtain ⟨q,hl,h1,h2,h3⟩:=aT hi
   show az ((id,_)::s.H) _ i=_
   have cW:id≠i:=fun e=>by subst e;rw [hid] at hl;cases hl
   rw [bu (r:=q) (by rw [aF,if_neg cW,hl]),h1,h2]
   unfold fI;rw [if_neg (Ne.symm cW),h3]
 | box g row cur te fr hg hf hs b_ =>
  have hid:look s.H id=none:=(gJ id (by simp [jr])).1
  have Qc:g ∉ O:=by
   have:=ir
   simp only [List.cons_append,List.nil_append,List.nodup_cons] at this
   exact this.1
  have h1:=aO.xz (g:=g) (id:=id) (r:=⟨1,false,true,row⟩) h ⟨.inl (gJ id (by simp [jr])).2,(mL g (by simp)).1⟩ (mL g (by simp)).2 Qc hid ⟨cur,te,fr,hg,hf,by simp only [hs];exact Nat.le_refl _,fun _=>hs,fun j u x hu hx=>by show Den _ _ _ _ _;exact .rep (b_ j u x hu hx)⟩
  refine ⟨_,h1,.addr id 0 1 row.length g ?_,fun i y hi=>?_,fun b hb=>(rJ (h.only id hid) b).1 hb⟩
  ·show az ((id,⟨1,false,true,row⟩)::s.H) _ id=_
   rw [bu (r:=⟨1,false,true,row⟩) (by rw [aF,if_pos rfl])]
   unfold fI;rw [if_pos rfl]
  ·obtain ⟨e',m,b⟩:=y
   obtain ⟨q,hl,h1,h2,h3⟩:=aT hi
   show az ((id,_)::s.H) _ i=_
   have cW:id≠i:=fun e=>by subst e;rw [hid] at hl;cases hl
   rw [bu (r:=q) (by rw [aF,if_neg cW,hl]),h1,h2]
   unfold fI;rw [if_neg (Ne.symm cW),h3]
theorem kC {R:(Nat->Prop)->Value->AV->List Nat->Prop} (Uh:∀S S' v x O,(∀b,S b->S' b)->R S v x O->R S' v x O) {f:Nat->AV->AV×List (Nat×Row)} (hf:Fv S0 w0 w n a R f) (step:Nat):∀(xs:List AV) (vs:List Value) (s:AS) (φ:Nat->Option Nat) (O1 O:List Nat) (id:Nat),aO S0 w0 n (O1++O) s a w φ->k8 (R (aQ S0 w φ (O1++O))) vs xs O1->(O1++O).Nodup->(∀g∈O1,(w0.heap.size≤g∨S0.X g)∧g<w.heap.size)->(∀i∈(gU f step id xs).2.map (·.1),look s.H i=none∧i<1000000000000)->((gU f step id xs).2.map (·.1)).Nodup ->
  ∃ cA,aO S0 w0 n O ⟨s.F,(gU f step id xs).2++s.H⟩ a w cA∧vs.length=(gU f step id xs).1.length∧(∀(j:Nat) v c,vs[j]?=some v->(gU f step id xs).1[j]?=some c->Den (az ((gU f step id xs).2++s.H) cA) (aQ S0 w cA O) w v c)∧Ext S0 w s ⟨s.F,(gU f step id xs).2++s.H⟩ φ cA (O1++O) O
 | [],vs,s,φ,O1,O,id,h,hg,ir,mL,gJ,hn=>by
  cases hg
  exact ⟨φ,h,rfl,fun j v c hv=>by simp at hv,fun _ _ h=>h,fun _ h=>h⟩
 | x::xs,vs,s,φ,O1,O,id,h,hg,ir,mL,gJ,hn=>by
  cases hg with
  | cons hx ht =>
   rename_i v vs Oa Ob
   rw [List.append_assoc] at h ir hx ht
   simp only [gU,List.map_append] at gJ hn ⊢
   obtain ⟨iI,h1,Hd,My⟩:=hf s φ Oa (Ob++O) v x id h hx ir (fun g hg=>mL g (by simp [hg])) (fun i hi=>gJ i (by simp [hi])) (List.nodup_append.1 hn).2.1
   have Sf:(Ob++O).Nodup:=(List.nodup_append.1 ir).2.1
   obtain ⟨j9,h2,Bq,z8,Lt⟩:=kC Uh hf step xs vs ⟨s.F,(f id x).2++s.H⟩ iI Ob O (id+step) h1 (ht.imp fun v x O hR=>Uh _ _ v x O (fun b hb=>My.2 b hb) hR) Sf (fun g hg=>mL g (by simp [hg])) (fun i hi=>⟨by
    rw [bQ]
    have h3:look (f id x).2 i=none:=by
     have fM:i ∉ (f id x).2.map (·.1):=fun hm=>(List.nodup_append.1 hn).2.2 i hi i hm rfl
     have key:∀(l:List (Nat×Row)),i ∉ l.map (·.1)->look l i=none:=by
      intro l
      induction l with
      | nil=>intro _;rfl
      | cons p l ih =>
       intro hm
       obtain ⟨k,r⟩:=p
       simp only [List.map_cons,List.mem_cons,not_or] at hm
       rw [aF,if_neg (Ne.symm hm.1),ih hm.2]
     exact key _ fM
    rw [h3,(gJ i (by simp [hi])).1];rfl,(gJ i (by simp [hi])).2⟩) (List.nodup_append.1 hn).1
   have e1:(gU f step (id+step) xs).2++((f id x).2++s.H)=((gU f step (id+step) xs).2++(f id x).2)++s.H:=by rw [List.append_assoc]
   rw [e1] at h2 z8 Lt
   rw [List.append_assoc Oa Ob O]
   refine ⟨j9,h2,by simp [Bq],fun j v' c hv hc=>?_,My.trans Lt⟩
   cases j with
   | zero=>simp at hv hc;subst hv;subst hc;exact Lt.den Hd
   | succ j=>exact z8 j v' c (by simpa using hv) (by simpa using hc)
theorem qU:Fv S0 w0 w n a (fun S=>oa S w) xB:=by
 intro s φ O1 O v x id h hg ir mL gJ hn
 rcases hg with hg|⟨vs,cs,rfl,rfl,hL⟩
 ·by_cases hx:∃cs,x= .agg cs
  ·obtain ⟨cs,rfl⟩:=hx
   cases hg with
   | rep b_=>cases b_ with
    | agg vs _ hl b_ =>
     have hL:k8 (ib (aQ S0 w φ ([]++O)) w) vs cs []:=by
      have key:∀(vs:List Value) (cs:List AV),vs.length=cs.length->(∀(j:Nat) v c,vs[j]?=some v->cs[j]?=some c->cB (aQ S0 w φ ([]++O)) w v c)->k8 (ib (aQ S0 w φ ([]++O)) w) vs cs []:=by
       intro vs cs
       induction cs generalizing vs with
       | nil=>intro hl _;cases vs with|nil=>exact .nil|cons=>simp at hl
       | cons c cs ih =>
        intro hl hr
        cases vs with
        | nil=>simp at hl
        | cons v vs=>exact k8.cons (O1:=[]) (O2:=[]) (.rep (hr 0 v c rfl rfl)) (ih vs (by simpa using hl) fun j v c hv hc=>hr (j+1) v c (by simpa using hv) (by simpa using hc))
      exact key vs cs hl b_
     obtain ⟨cA,h1,h2,h3,h4⟩:=kC (R:=fun S=>ib S w) (fun S S' v x O hS h=>h.mono hS) mr 100000 cs vs s φ [] O (id+100000) h hL ir mL gJ hn
     exact ⟨cA,h1,.agg vs _ h2 h3,h4⟩
  ·have:xB id x=jr id x:=by
    cases x with
    | agg cs=>exact absurd ⟨cs,rfl⟩ hx
    | _=>rfl
   rw [this] at gJ hn ⊢
   exact mr s φ O1 O v x id h hg ir mL gJ hn
 ·obtain ⟨cA,h1,h2,h3,h4⟩:=kC (R:=fun S=>ib S w) (fun S S' v x O hS h=>h.mono hS) mr 100000 cs vs s φ O1 O (id+100000) h hL ir mL gJ hn
  exact ⟨cA,h1,.agg vs _ h2 h3,h4⟩
theorem wL:Fv S0 w0 w n a (fun S=>s_ S w) bO:=by
 intro s φ O1 O v x id h hg ir mL gJ hn
 rcases hg with hg|⟨vs,cs,rfl,rfl,hL⟩
 ·by_cases hx:∃cs,x= .bk cs
  ·obtain ⟨cs,rfl⟩:=hx
   rcases hg with hg|⟨vs,Ky,h1,h2,h3⟩
   ·cases hg with
    | rep b_=>cases b_ with
     | bk vs _ hl b_ =>
      have hL:k8 (oa (aQ S0 w φ ([]++O)) w) vs cs []:=by
       have key:∀(vs:List Value) (cs:List AV),vs.length=cs.length->(∀(j:Nat) v c,vs[j]?=some v->cs[j]?=some c->cB (aQ S0 w φ ([]++O)) w v c)->k8 (oa (aQ S0 w φ ([]++O)) w) vs cs []:=by
        intro vs cs
        induction cs generalizing vs with
        | nil=>intro hl _;cases vs with|nil=>exact .nil|cons=>simp at hl
        | cons c cs ih =>
         intro hl hr
         cases vs with
         | nil=>simp at hl
         | cons v vs=>exact k8.cons (O1:=[]) (O2:=[]) (.inl (.rep (hr 0 v c rfl rfl))) (ih vs (by simpa using hl) fun j v c hv hc=>hr (j+1) v c (by simpa using hv) (by simpa using hc))
       exact key vs cs hl b_
      obtain ⟨cA,h1,h2,h3,h4⟩:=kC (R:=fun S=>oa S w) (fun S S' v x O hS h=>h.mono hS) qU 1000 cs vs s φ [] O (id+1000) h hL ir mL gJ hn
      exact ⟨cA,h1,.bk vs _ h2 h3,h4⟩
   ·cases h2
  ·have:bO id x=xB id x:=by
    cases x with
    | bk cs=>exact absurd ⟨cs,rfl⟩ hx
    | _=>rfl
   rw [this] at gJ hn ⊢
   exact qU s φ O1 O v x id h hg ir mL gJ hn
 ·obtain ⟨cA,h1,h2,h3,h4⟩:=kC (R:=fun S=>oa S w) (fun S S' v x O hS h=>h.mono hS) qU 1000 cs vs s φ O1 O (id+1000) h hL ir mL gJ hn
  exact ⟨cA,h1,.bk vs _ h2 h3,h4⟩
def a6:AS->List Nat->AS
 | s,[]=>s
 | s,i::l=>a6 (cp i s) l
theorem kg:∀(l:List Nat) (s:AS) (φ:Nat->Option Nat) (O:List Nat),aO S0 w0 n O s a w φ-> ∃ cA,aO S0 w0 n O (a6 s l) a w cA∧(∀b,aQ S0 w φ O b->aQ S0 w cA O b)∧(∀i,look s.H i=none∨i∈l->look (a6 s l).H i=none)
 | [],s,φ,O,h=>⟨φ,h,fun _ h=>h,fun i hi=>hi.resolve_right (by simp)⟩
 | i::l,s,φ,O,h=>by
  have h1:aO S0 w0 n O (cp i s) a w (erase φ i):=by
   cases ct:φ i with
   | none=>exact h.jx i O (by rw [ct])
   | some g=>exact (h.jx i (g::O) (by rw [ct])).vf
  obtain ⟨cA,h2,h3,h4⟩:=kg l _ _ _ h1
  refine ⟨cA,h2,fun b hb=>h3 b ⟨hb.1,hb.2.1,fun j hj=>?_,hb.2.2.2⟩,fun j hj=>h4 j ?_⟩
  ·unfold erase at hj
   split at hj
   ·cases hj
   ·exact hb.2.2.1 j hj
  ·by_cases e:j=i
   ·subst e;exact .inl (dp j)
   ·rcases hj with hj|hj
    ·exact .inl (qi i j hj)
    ·rcases List.mem_cons.1 hj with h|h
     ·exact absurd h e
     ·exact .inr h
theorem nZ:∀(O' O:List Nat) (s:AS) (φ:Nat->Option Nat),aO S0 w0 n O s a w φ->(∀g∈O',w.heap.size≤g)->aO S0 w0 n (O'++O) s a w φ
 | [],O,s,φ,h,_=>h
 | g::O',O,s,φ,h,hg=>(nZ O' O s φ h fun g hm=>hg g (by simp [hm])).await g (hg g (by simp))
end
def nodupB:List Nat->Bool
 | []=>true
 | i::l=>match l.any (Nat.beq i),Nat.ble i 999999999999 with|false,true=>nodupB l|_,_=>false
theorem iD:∀ {l:List Nat},nodupB l=true->l.Nodup
 | [],_=>List.nodup_nil
 | i::l,h=>by
  simp only [nodupB] at h
  split at h
  ·rename_i hn _
   rw [List.nodup_cons]
   refine ⟨fun hm=>?_,iD h⟩
   have:l.any (Nat.beq i)=true:=List.any_eq_true.2 ⟨i,hm,Nat.beq_refl i⟩
   rw [hn] at this;cases this
  ·cases h
theorem rm:∀ {l:List Nat},nodupB l=true-> ∀i∈l,i<1000000000000
 | [],_,i,h=>by cases h
 | j::l,h,i,hi=>by
  simp only [nodupB] at h
  split at h
  ·rename_i _ hb
   rcases List.mem_cons.1 hi with rfl|hi
   ·have:=Nat.le_of_ble_eq_true hb;omega
   ·exact rm h i hi
  ·cases h
def jT (s:AS):List AV->Option (List AV)
 | []=>some []
 | x::l=>match view s x,jT s l with|some y,some m=>some (y::m)|_,_=>none
def x6:AV->Bool
 | .agg cs=>dZ cs
 | .arr _=>true
 | x=>ij x
def lE:List AV->Bool
 | []=>true
 | x::l=>match x6 x with|true=>lE l|false=>false
def ig (P : Program) (f : FuncId) : Bool := match P.funcs[f]? with | some fn => fn.body.isSome && !(fn.name == "runtime.NumGoroutine") | none => false
theorem pv {P:Program} {f:FuncId} (h:ig P f=true) (args:Array Value) (w:World):(callFunc f args).run P w= .ok (.enter f args) w:=by
 unfold ig at h
 split at h
 ·rename_i fn hf
  simp only [Bool.and_eq_true,Bool.not_eq_true',Option.isSome_iff_exists] at h
  obtain ⟨⟨c,hc⟩,hn⟩:=h
  have sV : ¬ fn.name = "runtime.NumGoroutine" := by simpa using hn
  simp [callFunc,hf,hc,sV]
 ·cases h
def callee (s:AS):Callee->Option FuncId
 | .value (.func f)=>some f
 | .value x=>(match bp s x with| .val (.func (.func f) ⟨[]⟩ ⟨[]⟩)=>some f|_=>none)
 | _=>none
def rQ (P:Program) (n:Nat) (s:AS) (d:Option Nat) (c:Callee) (args:List Operand) (h:Hint):Option (AS×List Prop) :=
 match callee s c,h.av with
 | some f,some r=>(match ig P f with
  | true=>(match h.b with
   | true=>(match jT s (args.map (bp s)),flat r,d with
    | some vs,some C,some d=>(match nodupB ((bO d r).2.map (·.1)),gr n ⟨(a6 s ((bO d r).2.map (·.1))).F,(bO d r).2++(a6 s ((bO d r).2.map (·.1))).H⟩ (some d) (bO d r).1 with
     | true,some s'=>some (s',bC P f vs r::C)
     | _,_=>none)
    | some vs,some C,none=>some (s,bC P f vs r::C)
    | _,_,_=>none)
   | false=>(match fT s ((args.map (bp s)).flatMap oI) with
    | some s1=>(match lE (args.map (bp s1)),d with
     | true,some d=>(match nodupB ((bO d r).2.map (·.1)),gr n ⟨(a6 s1 ((bO d r).2.map (·.1))).F,(bO d r).2++(a6 s1 ((bO d r).2.map (·.1))).H⟩ (some d) (bO d r).1 with
      | true,some s'=>some (s',[bC P f (args.map (bp s1)) r])
      | _,_=>none)
     | true,none=>some (s1,[bC P f (args.map (bp s1)) r])
     | _,_=>none)
    | none=>none))
  | false=>none)
 | _,_=>none
section
variable {P:Program} {n:Nat} {s:AS} {o:Oper} {h:Hint} {q:AS×List Prop}
theorem lT {S0:bn} {w0 w:World} {O:List Nat} {a:Act} {φ:Nat->Option Nat} (hs:aO S0 w0 n O s a w φ):∀(xs:List Operand) (ys:List AV),jT s (xs.map (bp s))=some ys->ys.length=xs.length∧ ∀(j:Nat) v y,(xs.map a.eval)[j]?=some v->ys[j]?=some y->cB (fun b=>b<w.heap.size) w v y
 | [],ys,h=>by cases h;exact ⟨rfl,fun j v y hv=>by simp at hv⟩
 | x::xs,ys,h=>by
  simp only [List.map_cons,jT] at h
  split at h
  ·rename_i y m hy hm
   cases h
   obtain ⟨h1,h2⟩:=lT hs xs m hm
   refine ⟨by simp [h1],fun j v y' hv RU=>?_⟩
   cases j with
   | zero=>simp at hv RU;subst hv;subst RU;exact xG hs (hs.bp x) hy
   | succ j=>exact h2 j v y' (by simpa using hv) (by simpa using RU)
  ·cases h
theorem oc {I:Info} {S:Nat->Prop} {w:World} {v:Value} {x:AV} (hd:Den I S w v x) (hr:x6 x=true):cB S w v x:=by
 by_cases hc:∃cs,x= .agg cs
 ·obtain ⟨cs,rfl⟩:=hc
  obtain ⟨vs,rfl,hl,hd⟩:=ko hd
  exact .agg vs cs hl fun j v c hv hc=>(eK (hd j v c hv hc) (iB hr hc)).1
 ·by_cases ha:∃cs,x= .arr cs
  ·obtain ⟨cs,rfl⟩:=ha
   obtain ⟨vs,rfl,hl,hd⟩:=qF hd
   exact .arr vs cs hl hd
  ·have:x6 x=ij x:=by
    cases x with
    | agg cs=>exact absurd ⟨cs,rfl⟩ hc
    | arr cs=>exact absurd ⟨cs,rfl⟩ ha
    | _=>rfl
   rw [this] at hr
   exact (eK hd hr).1
theorem lY:∀ {l:List AV} {j:Nat} {x:AV},lE l=true->l[j]?=some x->x6 x=true
 | [],j,x,_,h=>by simp at h
 | y::l,j,x,hp,h=>by
  simp only [lE] at hp
  split at hp
  ·rename_i hy
   cases j with
   | zero=>simp at h;subst h;exact hy
   | succ j=>exact lY hp (by simpa using h)
  ·cases hp
theorem jq {S0:bn} {w0 w:World} {O:List Nat} {a:Act} {φ:Nat->Option Nat} (hs:aO S0 w0 n O s a w φ) {c:Callee} {f:FuncId} (hc:callee s c=some f) {xs:Array Operand} {ts:Array TypeId} (ho:o.op= .call ⟨c,xs,ts⟩) (hE:ig P f=true) :
  (execOp a.eval o).run P w= .ok (.enter f (xs.map a.eval)) w:=by
 have key:∃x,c= .value x∧a.eval x= .func (.func f) #[] #[]:=by
  unfold callee at hc
  split at hc
  ·cases hc;exact ⟨_,rfl,rfl⟩
  ·rename_i x _
   split at hc
   ·rename_i f' he
    cases hc
    exact ⟨x,rfl,bM (he ▸ hs.bp x)⟩
   ·cases hc
  ·cases hc
 obtain ⟨x,rfl,hx⟩:=key
 unfold execOp
 simp [ho,resolve,hx,Deferred.ofValue,invoke,pv hE]
theorem vD {S0:bn} {w0 w:World} {a:Act} {φ:Nat->Option Nat} {Q:Exit->Act->World->Prop} (hs:aO S0 w0 n [] s a w φ) {f:FuncId} {us:List Value} (cw:(execOp a.eval o).run P w= .ok (.enter f us.toArray) w) {S:Nat->Prop} {args:List AV} {r:AV} (nM:bC P f args r) (hS:∀b,S b->b<w.heap.size) (hl:us.length=args.length) (iE:∀(j:Nat) v x,us[j]?=some v->args[j]?=some x->cB S w v x)
  (hG:∀w' v O,Below w.heap.size w w'->(∀g∈O,w.heap.size≤g∧g<w'.heap.size)->s_ (fun b=>S b∨(w.heap.size≤b∧b<w'.heap.size∧b ∉ O)) w' v r O->s_ (aQ S0 w' φ O) w' v r O) {s':AS}
  (hd:(∃d,o.dst=some d∧nodupB ((bO d r).2.map (·.1))=true∧gr n ⟨(a6 s ((bO d r).2.map (·.1))).F,(bO d r).2++(a6 s ((bO d r).2.map (·.1))).H⟩ (some d) (bO d r).1=some s')∨(o.dst=none∧s'=s)) :
  o.wp P a w (fun a' w'=>ix S0 w0 n s' a' w') Q:=by
 unfold Oper.wp
 rw [cw]
 have m9:=nM w S us hs.cZ.mP hS hl iE
 refine m9.mono ?_
 rintro en w' ⟨v,O,rfl,hb,ir,mL,uV⟩
 show ix S0 w0 n s' (a.put o.dst v) w'
 have uV:=hG w' v O hb mL uV
 have h1:=nZ O [] s φ hs (fun g hg=>(mL g hg).1)
 rw [List.append_nil] at h1
 have h2:=h1.wK (fun g hg=>.inl (Nat.le_trans hs.cZ.size (mL g hg).1)) hb.os hb.tape hb.output hb.size (fun b Ku _=>hb.block b Ku)
 rcases hd with ⟨d,hd,xf,ez⟩|⟨hd,rfl⟩
 ·obtain ⟨j9,h3,hF,IX⟩:=kg ((bO d r).2.map (·.1)) s φ O h2
  have V3:aO S0 w0 n (O++ []) (a6 s ((bO d r).2.map (·.1))) a w' j9:=by rw [List.append_nil];exact h3
  obtain ⟨xD,h4,h5,h6⟩:=wL (a6 s ((bO d r).2.map (·.1))) j9 O [] v r d V3 (by rw [List.append_nil];exact uV.mono hF) (by rw [List.append_nil];exact ir) (fun g hg=>⟨.inl (Nat.le_trans hs.cZ.size (mL g hg).1),(mL g hg).2⟩) (fun i hi=>⟨IX i (.inr hi),rm xf i hi⟩) (iD xf)
  rw [hd]
  exact ⟨xD,dX h4 h5 ez⟩
 ·rw [hd]
  have key:∀(O:List Nat),aO S0 w0 n O s' a w' φ->aO S0 w0 n [] s' a w' φ:=by
   intro O
   induction O with
   | nil=>exact fun h=>h
   | cons g O ih=>exact fun h=>ih h.vf
  have h3:=key O h2
  exact ⟨φ,⟨h3.jS,h3.jV,h3.cZ,h3.cC,h3.rows,h3.only,h3.inj,h3.cY,h3.apart,h3.new⟩⟩
theorem tB {S0:bn} {w0 w:World} {a:Act} {φ:Nat->Option Nat} {Q:Exit->Act->World->Prop} (hs:aO S0 w0 n [] s a w φ) {f:FuncId} {xs:Array Operand} (cw:(execOp a.eval o).run P w= .ok (.enter f (xs.map a.eval)) w) {S:Nat->Prop} {args:List AV} {r:AV} (nM:bC P f args r) (hS:∀b,S b->b<w.heap.size) (hl:args.length=xs.toList.length) (iE:∀(j:Nat) v x,(xs.toList.map a.eval)[j]?=some v->args[j]?=some x->cB S w v x)
  (hG:∀w' v O,Below w.heap.size w w'->(∀g∈O,w.heap.size≤g∧g<w'.heap.size)->s_ (fun b=>S b∨(w.heap.size≤b∧b<w'.heap.size∧b ∉ O)) w' v r O->s_ (aQ S0 w' φ O) w' v r O) {s':AS}
  (hd:(∃d,o.dst=some d∧nodupB ((bO d r).2.map (·.1))=true∧gr n ⟨(a6 s ((bO d r).2.map (·.1))).F,(bO d r).2++(a6 s ((bO d r).2.map (·.1))).H⟩ (some d) (bO d r).1=some s')∨(o.dst=none∧s'=s)) :
  o.wp P a w (fun a' w'=>ix S0 w0 n s' a' w') Q:=by
 have e:(xs.toList.map a.eval).toArray=xs.map a.eval:=by apply Array.ext';simp
 exact vD hs (us:=xs.toList.map a.eval) (by rw [e];exact cw) nM hS (by simp [hl]) iE hG hd
theorem xr {c:Callee} {xs:Array Operand} {ts:Array TypeId} (ho:o.op= .call ⟨c,xs,ts⟩) (hr:rQ P n s o.dst c xs.toList h=some q):mi P n s o q.1 q.2:=by
 intro hC S0 w0 a w Q ⟨φ,hs⟩
 unfold rQ at hr
 split at hr
 ·rename_i f r hc _
  split at hr
  ·rename_i hE
   split at hr
   ·
    split at hr
    ·rename_i vs C d hv tp hd
     split at hr
     ·rename_i s' hn hp
      cases hr
      obtain ⟨nM,hC⟩:=hC
      obtain ⟨hl,b_⟩:=lT hs _ _ hv
      exact tB hs (jq hs hc ho hE) nM (S:=fun b=>b<w.heap.size) (fun _ h=>h) hl b_ (fun w' v O _ _ hg=>tt tp hC hg) (.inl ⟨d,hd,hn,hp⟩)
     ·cases hr
    ·rename_i vs C hv tp hd
     cases hr
     obtain ⟨nM,hC⟩:=hC
     obtain ⟨hl,b_⟩:=lT hs _ _ hv
     exact tB hs (jq hs hc ho hE) nM (S:=fun b=>b<w.heap.size) (fun _ h=>h) hl b_ (fun w' v O _ _ hg=>tt tp hC hg) (.inr ⟨hd,rfl⟩)
    ·cases hr
   ·split at hr
    ·rename_i s1 IH
     obtain ⟨iI,gV⟩:=fS _ _ _ _ IH hs
     have TC:lE (xs.toList.map (bp s1))=true-> ∀(j:Nat) v x,(xs.toList.map a.eval)[j]?=some v->(xs.toList.map (bp s1))[j]?=some x->cB (aQ S0 w iI []) w v x:=by
      intro wa j v x hv hx
      have Ns:=lY wa hx
      rw [List.getElem?_map] at hv hx
      cases hj:xs.toList[j]? with
      | none=>rw [hj] at hv;cases hv
      | some y =>
       rw [hj] at hv hx
       injection hv with hv;injection hx with hx;subst hv;subst hx
       exact oc (gV.bp y) Ns
     have hG:∀w' v O,Below w.heap.size w w'->(∀g∈O,w.heap.size≤g∧g<w'.heap.size)->s_ (fun b=>aQ S0 w iI [] b∨(w.heap.size≤b∧b<w'.heap.size∧b ∉ O)) w' v r O->s_ (aQ S0 w' iI O) w' v r O:=by
      intro w' v O hb mL hg
      refine hg.mono fun b kP=>?_
      rcases kP with kP|⟨h1,h2,h3⟩
      ·exact ⟨by have:=kP.1;have:=hb.size;omega,fun hm=>by have:=(mL b hm).1;have:=kP.1;omega,kP.2.2⟩
      ·exact ⟨h2,h3,fun i hi=>by have:=(gV.cY i b hi).2;omega,gV.new b (.inl (by have:=gV.cZ.size;omega))⟩
     split at hr
     ·rename_i d wa hd
      split at hr
      ·rename_i s' hn hp
       cases hr
       obtain ⟨nM,-⟩:=hC
       exact tB gV (jq hs hc ho hE) nM (fun b hb=>hb.1) (by simp) (TC wa) hG (.inl ⟨d,hd,hn,hp⟩)
      ·cases hr
     ·rename_i wa hd
      cases hr
      obtain ⟨nM,-⟩:=hC
      exact tB gV (jq hs hc ho hE) nM (fun b hb=>hb.1) (by simp) (TC wa) hG (.inr ⟨hd,rfl⟩)
     ·cases hr
    ·cases hr
  ·cases hr
 ·cases hr
def CN (s:AS) (id:Nat):AS :=
 match look s.H id with
 | some ⟨e,false,f,cs⟩=>(match dZ cs with|true=>⟨s.F,(id,⟨e,true,f,cs⟩)::cP s.H id⟩|false=>s)
 | _=>s
theorem FU {S0:bn} {w0 w:World} {O:List Nat} {a:Act} {φ:Nat->Option Nat} (id:Nat) (hs:aO S0 w0 n O s a w φ):aO S0 w0 n O (CN s id) a w φ:=by
 unfold CN
 split
 ·rename_i e f cs hr
  split
  ·rename_i hp
   have lH:∀i,look ((id,(⟨e,true,f,cs⟩:Row))::cP s.H id) i=if id=i then some ⟨e,true,f,cs⟩ else look s.H i:=by
    intro i
    rw [aF,bJ]
    by_cases e:id=i<;>simp [e]
   have hI:az ((id,(⟨e,true,f,cs⟩:Row))::cP s.H id) φ=az s.H φ:=by
    funext i
    unfold az
    rw [lH]
    by_cases e:id=i
    ·subst e;rw [if_pos rfl,hr];rfl
    ·rw [if_neg e]
   refine ⟨hs.jS,hs.jV,hs.cZ,fun i av hi=>?_,fun i q hq=>?_,fun i hi=>?_,hs.inj,hs.cY,hs.apart,hs.new⟩
   ·simp only [hI];exact hs.cC i av hi
   ·simp only [hI]
    simp only [lH] at hq
    by_cases e:id=i
    ·subst e
     rw [if_pos rfl] at hq;injection hq with hq;subst hq
     have aR:=hs.rows id _ hr
     unfold bR at aR ⊢
     cases ct:φ id with
     | none=>rw [ct] at aR;exact aR
     | some g =>
      rw [ct] at aR
      obtain ⟨cur,te,fr,hg,hf,hl,m7,hc⟩:=aR
      exact ⟨cur,te,fr,hg,hf,hl,m7,fun j u x hu hx=>(eK (hc j u x hu hx) (iB hp hx)).1⟩
    ·rw [if_neg e] at hq;exact hs.rows i q hq
   ·simp only [lH] at hi
    by_cases e:id=i
    ·rw [if_pos e] at hi;cases hi
    ·rw [if_neg e] at hi;exact hs.only i hi
  ·exact hs
 ·exact hs
def rb:AS->List Nat->AS
 | s,[]=>s
 | s,i::l=>rb (CN s i) l
theorem qb {S0:bn} {w0 w:World} {O:List Nat} {a:Act} {φ:Nat->Option Nat}:∀(l:List Nat) (s:AS),aO S0 w0 n O s a w φ->aO S0 w0 n O (rb s l) a w φ
 | [],_,h=>h
 | i::l,_,h=>qb l _ (FU i h)
def Dw (n:Nat) (s:AS) (d f:Nat) (xs:List Operand):Option (AS×List Prop) :=
 match fT (rb s ((xs.map (bp s)).flatMap oI)) ((xs.map (bp s)).flatMap oI) with
 | some s1=>(match lE (xs.map (bp s1)),gr n s1 (some d) (.kX f (xs.map (bp s1))) with|true,some s'=>some (s',[])|_,_=>none)
 | none=>none
theorem mz {S0:bn} {w0 w:World} {O:List Nat} {a:Act} {φ:Nat->Option Nat} (hs:aO S0 w0 n O s a w φ) {xs:List Operand} (h:lE (xs.map (bp s))=true) (j:Nat) (v:Value) (x:AV) (hv:(xs.map a.eval)[j]?=some v) (hx:(xs.map (bp s))[j]?=some x):cB (aQ S0 w φ O) w v x:=by
 have Ns:=lY h hx
 rw [List.getElem?_map] at hv hx
 cases hj:xs[j]? with
 | none=>rw [hj] at hv;cases hv
 | some y =>
  rw [hj] at hv hx
  injection hv with hv;injection hx with hx;subst hv;subst hx
  exact oc (hs.bp y) Ns
theorem GD {d f:Nat} {xs:List Operand} (ho:o.op= .makeFunc (.func f) ⟨[]⟩ ⟨xs⟩) (hd:o.dst=some d) (hr:Dw n s d f xs=some q):mi P n s o q.1 q.2:=by
 intro hC S0 w0 a w Q ⟨φ,hs⟩
 unfold Dw at hr
 split at hr
 ·rename_i s1 IH
  obtain ⟨iI,gV⟩:=fS _ _ _ _ IH (qb _ _ hs)
  split at hr
  ·rename_i s' wa hp
   cases hr
   have cw:(execOp a.eval o).run P w= .ok (.value (.func (.func f) #[] (xs.map a.eval).toArray)) w:=by
    unfold execOp;simp [ho,Instr.makeFunc]
   refine cU cw ⟨iI,?_⟩
   rw [hd]
   exact dX gV (.rep (.kX f _ _ (by simp) (mz gV wa))) hp
  ·cases hr
 ·cases hr
def zk (P:Program) (n:Nat) (s:AS) (d:Option Nat) (c:Callee) (args:List Operand) (h:Hint):Option (AS×List Prop) :=
 match c,h.av,fT s ((args.map (bp s)).flatMap oI) with
 | .value x,some r,some s1=>(match bp s1 x with
  | .kX f lN=>(match ig P f,lE (args.map (bp s1)),d with
   | true,true,some d=>(match nodupB ((bO d r).2.map (·.1)),gr n ⟨(a6 s1 ((bO d r).2.map (·.1))).F,(bO d r).2++(a6 s1 ((bO d r).2.map (·.1))).H⟩ (some d) (bO d r).1 with
    | true,some s'=>some (s',[bC P f (args.map (bp s1)++lN) r])
    | _,_=>none)
   | true,true,none=>some (s1,[bC P f (args.map (bp s1)++lN) r])
   | _,_,_=>none)
  | _=>none)
 | _,_,_=>none
theorem EC {S:Nat->Prop} {I:Info} {w:World} {v:Value} {f:Nat} {cs:List AV} (h:Den I S w v (.kX f cs)):∃vs:List Value,v= .func (.func f) #[] vs.toArray∧vs.length=cs.length∧ ∀(j:Nat) v c,vs[j]?=some v->cs[j]?=some c->cB S w v c:=by
 cases h with|rep h=>cases h with|kX f vs cs hl h=>exact ⟨vs,rfl,hl,h⟩
theorem ud {S:Nat->Prop} {w:World} {vs us:List Value} {xs ys:List AV} (hl:vs.length=xs.length) (h1:∀(j:Nat) v x,vs[j]?=some v->xs[j]?=some x->cB S w v x) (h2:∀(j:Nat) v x,us[j]?=some v->ys[j]?=some x->cB S w v x) (j:Nat) (v:Value) (x:AV) (hv:(vs++us)[j]?=some v) (hx:(xs++ys)[j]?=some x):cB S w v x:=by
 rcases Nat.lt_or_ge j vs.length with h|h
 ·rw [List.getElem?_append_left h] at hv
  rw [List.getElem?_append_left ah] at hx
  exact h1 j v x hv hx
 ·rw [List.getElem?_append_right h] at hv
  rw [List.getElem?_append_right ah,←hl] at hx
  exact h2 _ v x hv hx
theorem DH {c:Callee} {xs:Array Operand} {ts:Array TypeId} (ho:o.op= .call ⟨c,xs,ts⟩) (hr:zk P n s o.dst c xs.toList h=some q):mi P n s o q.1 q.2:=by
 intro hC S0 w0 a w Q ⟨φ,hs⟩
 unfold zk at hr
 split at hr
 ·rename_i x r s1 _ IH
  obtain ⟨iI,gV⟩:=fS _ _ _ _ IH hs
  split at hr
  ·rename_i f lN gF
   have dx:=gV.bp x
   rw [gF] at dx
   obtain ⟨cv,hv,SG,Lw⟩:=EC dx
   have cw:ig P f=true->(execOp a.eval o).run P w= .ok (.enter f (xs.toList.map a.eval++cv).toArray) w:=by
    intro hE
    have e:(xs.toList.map a.eval++cv).toArray= #[]++xs.map a.eval++cv.toArray:=by apply Array.ext';simp
    rw [e]
    unfold execOp
    simp [ho,resolve,hv,Deferred.ofValue,invoke,pv hE]
   have hG:∀w' v O,Below w.heap.size w w'->(∀g∈O,w.heap.size≤g∧g<w'.heap.size)->s_ (fun b=>aQ S0 w iI [] b∨(w.heap.size≤b∧b<w'.heap.size∧b ∉ O)) w' v r O->s_ (aQ S0 w' iI O) w' v r O:=by
    intro w' v O hb mL hg
    refine hg.mono fun b kP=>?_
    rcases kP with kP|⟨h1,h2,h3⟩
    ·exact ⟨by have:=kP.1;have:=hb.size;omega,fun hm=>by have:=(mL b hm).1;have:=kP.1;omega,kP.2.2⟩
    ·exact ⟨h2,h3,fun i hi=>by have:=(gV.cY i b hi).2;omega,gV.new b (.inl (by have:=gV.cZ.size;omega))⟩
   have hlen:(xs.toList.map a.eval++cv).length=(xs.toList.map (bp s1)++lN).length:=by simp [SG]
   split at hr
   ·rename_i d hE wa hd
    split at hr
    ·rename_i s' hn hp
     cases hr
     exact vD gV (cw hE) hC.1 (fun b hb=>hb.1) hlen (ud (by simp) (mz gV wa) Lw) hG (.inl ⟨d,hd,hn,hp⟩)
    ·cases hr
   ·rename_i hE wa hd
    cases hr
    exact vD gV (cw hE) hC.1 (fun b hb=>hb.1) hlen (ud (by simp) (mz gV wa) Lw) hG (.inr ⟨hd,rfl⟩)
   ·cases hr
  ·cases hr
 ·cases hr
end
end Go.Proofs.YtjgbhhnghedgdaaGreatDoor
