import Derived.Test.YtjgbhhnghedgdaaGreatDoorZaRA
import Derived.Laws.StructEq
import Derived.ChangeKeysEq
set_option linter.all false
namespace Go.Proofs.YtjgbhhnghedgdaaGreatDoor
open Go.RowKit
def Jf (P:Program) (eq:TypeId->List AV->List AV->Option Bool) (cs ds:List AV):List Field->Option Bool
 | []=>some true
 | f :: fs => match f.name == "_", eh P f.type, Jf P eq cs ds fs with
  | false,some z,some b=>(match eq f.type ((cs.drop f.offset).take z) ((ds.drop f.offset).take z) with|some a=>some (a && b)|none=>none)
  | _,_,_=>none
def NJ (P:Program):Nat->TypeId->List AV->List AV->Option Bool
 | 0,_,_,_=>none
 | d+1,t,cs,ds=>match P.underlying t with
  | some .bool=>(match cs,ds with| [.val (.bool a)],[.val (.bool b)]=>some (a == b)|_,_=>none)
  | some (.int _)=>(match cs,ds with| [.val (.int k a)],[.val (.int k' b)]=>if k=k' then some (a == b) else none|_,_=>none)
  | some .string=>(match cs,ds with| [.val (.string a)],[.val (.string b)]=>some (a.toList == b.toList)|_,_=>none)
  | some (.struct fs)=>(match P.stoodInHeld t with|true=>none|false=>Jf P (NJ P d) cs ds fs.toList)
  | _=>none
def lT (P:Program) (t:TypeId) (vs:List Value) (x:Value):Prop:=match cF P t with|true=>x= .agg vs.toArray|false=>vs= [x]
theorem l7 {I:Info} {S:Nat->Prop} {w:World} {vs:List Value} {u:Value} (hl:vs.length=1) (hd:∀(j:Nat) v c,vs[j]?=some v-> [AV.val u][j]?=some c->Den I S w v c):vs= [u]:=by
 match vs,hl with
 | [v],_=>rw [bL (hd 0 v _ rfl rfl)]
section
variable {P:Program} {I:Info} {S:Nat->Prop} {w:World}
theorem t_ {t:TypeId} {z:Nat} {cs:List AV} {vs:List Value} {off:Nat} (hz:eh P t=some z) (hu:∃d,P.underlying t=some d) (hl:vs.length=cs.length) (hs:cF P t=false-> ∃x,(cs.drop off).take z= [x]) :
  ∃v,(part t vs.toArray off).run P w= .ok v w∧lT P t ((vs.drop off).take z) v:=by
 cases ha:cF P t with
 | true =>
  refine ⟨.agg (vs.toArray.extract off (off+z)),?_,?_⟩
  ·simp [part,iw hu,ha,run_sizeOf hz]
  ·unfold lT;rw [ha];simp [List.extract_eq_take_drop]
 | false =>
  obtain ⟨x,hx⟩:=hs ha
  have hlen:=congrArg List.length hx
  rw [List.length_take,List.length_drop] at hlen
  simp at hlen
  have dh:off<vs.length:=ah
  refine ⟨vs[off],?_,?_⟩
  ·simp [part,iw hu,ha,dh]
  ·unfold lT;rw [ha]
   show (vs.drop off).take z= [vs[off]]
   rw [List.drop_eq_getElem_cons dh]
   obtain ⟨z',rfl⟩:∃z',z=z'+1:=⟨z-1,ah⟩
   rw [List.take_succ_cons]
   congr 1
   apply List.eq_nil_of_length_eq_zero
   rw [List.length_take,List.length_drop];omega
theorem EN {eq:TypeId->List AV->List AV->Option Bool} {D:Nat} (heq:∀t cs ds b vs us x y,eq t cs ds=some b->vs.length=cs.length->us.length=ds.length->(∀(j:Nat) v c,vs[j]?=some v->cs[j]?=some c->Den I S w v c)->(∀(j:Nat) v c,us[j]?=some v->ds[j]?=some c->Den I S w v c)->lT P t vs x->lT P t us y->(Op.equalIn D t x y).run P w= .ok b w)
  (uC:∀t cs ds b,eq t cs ds=some b->(∃d,P.underlying t=some d)∧(cF P t=false->(∃x,cs= [x])∧ ∃x,ds= [x])) {cs ds:List AV} {vs us:List Value} (hl:vs.length=cs.length) (rh:us.length=ds.length) (hd:∀(j:Nat) v c,vs[j]?=some v->cs[j]?=some c->Den I S w v c) (FN:∀(j:Nat) v c,us[j]?=some v->ds[j]?=some c->Den I S w v c) :
  ∀(fs:List Field) (b:Bool),Jf P eq cs ds fs=some b->(Op.eqFields D vs.toArray us.toArray fs).run P w= .ok b w
 | [],b,h=>by simp [Jf] at h;subst h;simp [Op.eqFields]
 | f::fs,b,h=>by
  rw [Jf] at h
  split at h
  ·rename_i z b' hn hz kL
   split at h
   ·rename_i a ha
    injection h with h;subst h
    obtain ⟨hu,ho⟩:=uC _ _ _ _ ha
    obtain ⟨x,hx,px⟩:=t_ (w:=w) (off:=f.offset) hz hu hl (fun h0=>(ho h0).1)
    obtain ⟨y,hy,py⟩:=t_ (w:=w) (off:=f.offset) hz hu rh (fun h0=>(ho h0).2)
    have he:=heq _ _ _ _ _ _ x y ha (by rw [List.length_take,List.length_drop,List.length_take,List.length_drop,hl]) (by rw [List.length_take,List.length_drop,List.length_take,List.length_drop,rh]) (fun j v c hv hc=>hd (f.offset+j) v c (bT _ _ _ _ _ hv) (bT _ _ _ _ _ hc)) (fun j v c hv hc=>FN (f.offset+j) v c (bT _ _ _ _ _ hv) (bT _ _ _ _ _ hc)) px py
    have sF : f.name ≠ "_" := by simpa using hn
    simp only [Op.eqFields,if_pos sF,Sem.run_bind,hx,hy,he,Result.andThen_ok]
    cases a with
    | false=>simp
    | true =>
     have:=EN heq uC hl rh hd FN fs b' kL
     simpa using this
   ·cases h
  ·cases h
theorem Ln:∀(d:Nat) (t:TypeId) (cs ds:List AV) (b:Bool),NJ P d t cs ds=some b->(∃d,P.underlying t=some d)∧(cF P t=false->(∃x,cs= [x])∧ ∃x,ds= [x]):=by
 intro d t cs ds b h
 cases d with
 | zero=>cases h
 | succ d =>
  unfold NJ at h
  split at h
  ·rename_i hu;refine ⟨⟨_,hu⟩,fun _=>?_⟩
   split at h
   ·exact ⟨⟨_,rfl⟩,_,rfl⟩
   ·cases h
  ·rename_i hu;refine ⟨⟨_,hu⟩,fun _=>?_⟩
   split at h
   ·exact ⟨⟨_,rfl⟩,_,rfl⟩
   ·cases h
  ·rename_i hu;refine ⟨⟨_,hu⟩,fun _=>?_⟩
   split at h
   ·exact ⟨⟨_,rfl⟩,_,rfl⟩
   ·cases h
  ·rename_i hu;refine ⟨⟨_,hu⟩,fun ha=>?_⟩
   unfold cF at ha;rw [hu] at ha;cases ha
  ·cases h
theorem NI (D:Nat):∀(d:Nat) (t:TypeId) (cs ds:List AV) (b:Bool) (vs us:List Value) (x y:Value),NJ P d t cs ds=some b->vs.length=cs.length->us.length=ds.length->(∀(j:Nat) v c,vs[j]?=some v->cs[j]?=some c->Den I S w v c)->(∀(j:Nat) v c,us[j]?=some v->ds[j]?=some c->Den I S w v c)->lT P t vs x->lT P t us y->(Op.equalIn (D+d) t x y).run P w= .ok b w:=by
 intro d
 induction d with
 | zero=>intro t cs ds b vs us x y h;cases h
 | succ d ih =>
  intro t cs ds b vs us x y h hl rh hd FN px py
  unfold NJ at h
  split at h
  ·rename_i hu
   have ha:cF P t=false:=by unfold cF;rw [hu]
   unfold lT at px py;rw [ha] at px py
   split at h
   ·have h1:=l7 hl hd
    have h2:=l7 rh FN
    rw [h1] at px;rw [h2] at py
    injection px with px;injection py with py
    injection h with h
    subst px py h
    exact run_equalIn_bool' w (D+d) t _ _ hu
   ·cases h
  ·rename_i hu
   have ha:cF P t=false:=by unfold cF;rw [hu]
   unfold lT at px py;rw [ha] at px py
   split at h
   ·have h1:=l7 hl hd
    have h2:=l7 rh FN
    rw [h1] at px;rw [h2] at py
    injection px with px;injection py with py
    split at h
    ·rename_i hk
     injection h with h
     subst px py h hk
     exact run_equalIn_int w (D+d) t _ _ _ _ hu
    ·cases h
   ·cases h
  ·rename_i hu
   have ha:cF P t=false:=by unfold cF;rw [hu]
   unfold lT at px py;rw [ha] at px py
   split at h
   ·have h1:=l7 hl hd
    have h2:=l7 rh FN
    rw [h1] at px;rw [h2] at py
    injection px with px;injection py with py
    injection h with h
    subst px py h
    exact run_equalIn_string w (D+d) t _ _ hu
   ·cases h
  ·rename_i fs hu
   have ha:cF P t=true:=by unfold cF;rw [hu]
   unfold lT at px py;rw [ha] at px py
   split at h
   ·cases h
   ·rename_i hp
    have hf:P.fieldsOf t=fs:=by simp [Program.fieldsOf,hu]
    simp only at px py
    subst px py
    rw [show D+(d+1)=(D+d)+1 from rfl,run_equalIn_struct w (D+d) t _ _ (by rw [hf];exact hu) hp,hf]
    exact EN (fun t cs ds b vs us x y h1 h2 h3 h4 h5 h6 h7=>ih t cs ds b vs us x y h1 h2 h3 h4 h5 h6 h7) (Ln d) hl rh hd FN fs.toList b h
  ·cases h
end
def yp (P:Program) (op:BinOp) (t:TypeId) (cs ds:List AV):Option (AV×List Prop) :=
 match op,P.eqGuardType P.depth t,cF P t,NJ P 12 t cs ds with
 | .eql,false,true,some b=>some (.val (.bool b),[])
 | .neq,false,true,some b=>some (.val (.bool (!b)),[])
 | _,_,_,_=>none
section
variable {P:Program} {s:AS} {o:Oper} {h:Hint} {r:AV×List Prop}
theorem CY {op:BinOp} {t t':TypeId} {x y:Operand} {cs ds:List AV} (ho:o.op= .binOp op t x y t') (hx:bp s x= .agg cs) (hy:bp s y= .agg ds) (hr:yp P op t cs ds=some r):dc P s o r.1 r.2:=by
 intro _ S0 w0 n O a w φ hs
 have dx:=hs.bp x
 have dy:=hs.bp y
 rw [hx] at dx;rw [hy] at dy
 obtain ⟨vs,ex,hl,hd⟩:=ki dx
 obtain ⟨us,ey,rh,FN⟩:=ki dy
 have main:∀b,P.eqGuardType P.depth t=false->cF P t=true->NJ P 12 t cs ds=some b->(∀op,(eqGuard op t x y (a.eval x) (a.eval y)).run P w= .ok () w)∧(Op.equalIn 10000 t (.agg vs.toArray) (.agg us.toArray)).run P w= .ok b w:=by
  intro b hg ha he
  refine ⟨fun op=>by rw [ex,ey];exact run_eqGuard_agg w op t x y _ _ hg,?_⟩
  exact NI 9988 12 t cs ds b vs us _ _ he hl rh hd FN (by unfold lT;rw [ha]) (by unfold lT;rw [ha])
 unfold yp at hr
 split at hr
 ·rename_i hg ha he
  injection hr with hr;subst hr
  obtain ⟨h1,h2⟩:=main _ hg ha he
  refine ⟨.bool _,?_,.rep (.val _)⟩
  unfold execOp;simp only [ho,Sem.run_bind,h1,Result.andThen_ok]
  rw [ex,ey,run_eql_struct,h2];rfl
 ·rename_i hg ha he
  injection hr with hr;subst hr
  obtain ⟨h1,h2⟩:=main _ hg ha he
  refine ⟨.bool _,?_,.rep (.val _)⟩
  unfold execOp;simp only [ho,Sem.run_bind,h1,Result.andThen_ok]
  rw [ex,ey,run_neq_struct,h2];rfl
 ·cases hr
end
def JU (k:IntKind) (n:Nat) (cs ds:List AV) (b:Bool):Prop:=∃l m:List Int,cs=l.map (fun x=>.val (.int k x))∧ds=m.map (fun x=>.val (.int k x))∧l.length=n∧m.length=n∧b=(l == m)
def yo (P:Program) (op:BinOp) (t:TypeId) (cs ds:List AV) (h:Hint):Option (AV×List Prop) :=
 match P.underlying t,P.eqGuardType P.depth t,h.av with
 | some (.array n e),false,some (.val (.bool b))=>(match P.underlying e,eh P e,op with
  | some (.int k),some 1,.eql=>some (.val (.bool b),[JU k n cs ds b])
  | some (.int k),some 1,.neq=>some (.val (.bool b),[JU k n cs ds (!b)])
  | _,_,_=>none)
 | _,_,_=>none
section
variable {P:Program} {w:World}
theorem qj (d:Nat) {e:TypeId} {k k':IntKind} (he:P.underlying e=some (.int k')) {n:Nat} {l m:List Int} (hl:l.length=n) (hm:m.length=n):∀(is:List Nat),(∀i∈is,i<n) ->
  (Op.eqItems (d+1) e 1 (l.map (Value.int k)).toArray (m.map (Value.int k)).toArray is).run P w= .ok (is.all fun i=>l.getD i 0 == m.getD i 0) w
 | [],_=>by simp [Op.eqItems]
 | i::is,hi=>by
  have h1:i<n:=hi i (by simp)
  have ha:cF P e=false:=by unfold cF;rw [he]
  have p1:(part e (l.map (Value.int k)).toArray (i*1)).run P w= .ok (.int k (l.getD i 0)) w:=by
   simp [part,iw ⟨_,he⟩,ha,hl,h1]
  have p2:(part e (m.map (Value.int k)).toArray (i*1)).run P w= .ok (.int k (m.getD i 0)) w:=by
   simp [part,iw ⟨_,he⟩,ha,hm,h1]
  simp only [Op.eqItems,Sem.run_bind,p1,p2,run_equalIn_int w d e k k' _ _ he,Result.andThen_ok,List.all_cons]
  have ih:=qj d (k:=k) he hl hm is (fun j hj=>hi j (by simp [hj]))
  cases hb:l.getD i 0 == m.getD i 0 with
  | false=>simp
  | true=>simpa using ih
theorem Bz {l m:List Int} {n:Nat} (hl:l.length=n) (hm:m.length=n):((List.range n).all fun i=>l.getD i 0 == m.getD i 0)=(l == m):=by
 rw [Bool.eq_iff_iff,List.all_eq_true,beq_iff_eq]
 constructor
 ·intro h
  apply List.ext_getElem ah
  intro i h1 h2
  have:=h i (List.mem_range.2 ah)
  simpa [h1,h2] using this
 ·rintro rfl i _;simp
theorem z7 {S:Nat->Prop} {k:IntKind} {l:List Int} {vs:List Value} (hl:vs.length=(l.map (fun x=>AV.val (.int k x))).length) (hd:∀(j:Nat) v c,vs[j]?=some v->(l.map (fun x=>AV.val (.int k x)))[j]?=some c->cz S w v c):vs=l.map (Value.int k):=by
 apply List.ext_getElem (by simpa using hl)
 intro i h1 h2
 have h3:i<l.length:=by simpa using h2
 have:=hd i vs[i] (.val (.int k l[i])) (List.getElem?_eq_getElem h1) (by simp [h3])
 generalize vs[i]=q at this
 cases this
 simp
end
section
variable {P:Program} {s:AS} {o:Oper} {h:Hint} {r:AV×List Prop}
theorem CX {op:BinOp} {t t':TypeId} {x y:Operand} {cs ds:List AV} (ho:o.op= .binOp op t x y t') (hx:bp s x= .arr cs) (hy:bp s y= .arr ds) (hr:yo P op t cs ds h=some r):dc P s o r.1 r.2:=by
 intro hC S0 w0 n O a w φ hs
 have dx:=hs.bp x
 have dy:=hs.bp y
 rw [hx] at dx;rw [hy] at dy
 obtain ⟨vs,ex,hl,hd⟩:=qp dx
 obtain ⟨us,ey,rh,FN⟩:=qp dy
 have main:∀k N e b,P.underlying t=some (.array N e)->P.underlying e=some (.int k)->eh P e=some 1->P.eqGuardType P.depth t=false->JU k N cs ds b->(∀op,(eqGuard op t x y (a.eval x) (a.eval y)).run P w= .ok () w)∧(Op.equalIn 10000 t (.agg vs.toArray) (.agg us.toArray)).run P w= .ok b w:=by
  intro k N e b hu he hz hg ⟨l,m,e1,e2,h1,h2,h3⟩
  refine ⟨fun op=>by rw [ex,ey];exact run_eqGuard_agg w op t x y _ _ hg,?_⟩
  subst e1 e2
  rw [z7 hl hd,z7 rh FN]
  obtain ⟨i,hi,QT⟩:∃i,P.info? e=some i∧i.size=1:=by
   unfold eh at hz
   cases hp:P.info? e with
   | none=>rw [hp] at hz;cases hz
   | some i=>rw [hp] at hz;exact ⟨i,rfl,by simpa using hz⟩
  rw [show 10000=9999+1 from rfl,run_equalIn_array w 9999 _ _ hu hi]
  have hc:P.cellsOf e=1:=by unfold Program.cellsOf;rw [hi];exact QT
  rw [hc,show 9999=9998+1 from rfl,qj 9998 he h1 h2 _ (fun i hi=>List.mem_range.1 hi),Bz h1 h2,h3]
 unfold yo at hr
 split at hr
 ·rename_i N e b hu hg _
  split at hr
  ·rename_i k he hz
   injection hr with hr;subst hr
   obtain ⟨h1,h2⟩:=main k N e _ hu he hz hg hC.1
   refine ⟨.bool _,?_,.rep (.val _)⟩
   unfold execOp;simp only [ho,Sem.run_bind,h1,Result.andThen_ok]
   rw [ex,ey,run_eql_struct,h2];rfl
  ·rename_i k he hz
   injection hr with hr;subst hr
   obtain ⟨h1,h2⟩:=main k N e _ hu he hz hg hC.1
   refine ⟨.bool _,?_,.rep (.val _)⟩
   unfold execOp;simp only [ho,Sem.run_bind,h1,Result.andThen_ok]
   rw [ex,ey,run_neq_struct,h2];simp
  ·cases hr
 ·cases hr
def yC (P:Program) (s:AS) (t:TypeId) (x:AV):Option (AV×List Prop) :=
 match P.underlying t,x with
 | some (.array (n+1) _),.sl (z+1) row=>some (.ptr row 0,[cU (n+1) (z+1)≤row.length])
 | some (.array (n+1) _),.ref id=>(match look s.H id with
  | some ⟨z+1,_,_,cells⟩=>some (.addr id 0,[cU (n+1) (z+1)≤cells.length])
  | _=>none)
 | _,_=>none
theorem rQ {P:Program} {w:World} {t:TypeId} {n:Nat} {e:TypeId} (hu:P.underlying t=some (.array n e)) (A:Option Addr) (l c:Nat) (h:n≤l):(Instr.arrayAt t (.slice A l c)).run P w= .ok (.pointer A) w:=by
 have:¬l<n:=ah
 simp [Instr.arrayAt,run_underlying hu,this]
theorem Db {t:TypeId} {x:Operand} (ho:o.op= .sliceToArrayPointer t x) (hr:yC P s t (bp s x)=some r):dc P s o r.1 r.2:=by
 intro hC S0 w0 n O a w φ hs
 have dx:=hs.bp x
 unfold yC at hr
 split at hr
 ·rename_i N e z row hu hx
  injection hr with hr;subst hr
  rw [hx] at dx
  have bZ:=pn dx
  generalize hv:a.eval x=v at bZ
  cases bZ with
  | sl A l c e' us Fc hlen hn hc hm ha ij =>
   have iI:=hC.1
   rw [bw] at iI
   rw [hn,Nat.mul_comm (z+1)] at iI
   have Sv:N+1≤l:=Nat.le_of_mul_le_mul_right iI ah
   obtain ⟨ad,rfl,hS,bu⟩:=ha (by rw [hn];exact Nat.mul_pos ah ah)
   refine ⟨.pointer (some ad),?_,?_⟩
   ·unfold execOp;simp only [ho,hv,Sem.run_bind,rQ hu (some ad) l c Sv,Result.andThen_ok];rfl
   ·have:=cz.ptr (S:=aN S0 w φ O) (w:=w) ad us row 0 hlen hS bu ij
    rw [dA] at this
    exact .rep this
 ·rename_i N e id hu hx
  rw [hx] at dx
  split at hr
  ·rename_i z p f cells lB
   injection hr with hr;subst hr
   have iI:=hC.1
   rw [bw] at iI
   generalize hv:a.eval x=v at dx
   cases dx with
   | rep bZ=>cases bZ
   | ref _ e' m g l c hi hm hc JZ bY =>
    have nE:=br (φ:=φ) lB
    rw [hi] at nE
    simp at nE
    obtain ⟨h1,h2,h3⟩:=nE
    subst h1 h2
    rw [hm,Nat.mul_comm (z+1)] at iI
    have Sv:N+1≤l:=Nat.le_of_mul_le_mul_right iI ah
    refine ⟨.pointer (some ⟨g,0,none⟩),?_,.addr id 0 _ _ g hi⟩
    unfold execOp;simp only [ho,hv,Sem.run_bind,rQ hu _ l c Sv,Result.andThen_ok];rfl
   | cD _ e' hi =>
    have nE:=br (φ:=φ) lB
    rw [hi] at nE
    simp at nE
    rw [←nE.2.1] at iI
    simp at iI
  ·cases hr
 ·cases hr
end
def lg:AV->Option (List AV)
 | .val u=>(match u.oneCell' with|true=>some [.val u]|false=>none)
 | .agg cs=>some cs
 | .arr cs=>some cs
 | .bq _=>none
 | .dead=>none
 | .own _ _=>none
 | .box _=>none
 | x=>some [x]
theorem Fv {v:Value} (h:v.oneCell'=true):v.cells= [v].toArray:=by
 cases v<;>first|rfl|cases h
theorem l8 {I:Info} {S:Nat->Prop} {w:World} {v:Value} {x:AV} {l:List AV} (hd:Den I S w v x) (hl:lg x=some l) :
  ∃vs:List Value,v.cells=vs.toArray∧vs.length=l.length∧ ∀(j:Nat) u c,vs[j]?=some u->l[j]?=some c->Den I S w u c:=by
 have single:∀y,Den I S w v y->v.oneCell'=true->l= [y]-> ∃vs:List Value,v.cells=vs.toArray∧vs.length=l.length∧ ∀(j:Nat) u c,vs[j]?=some u->l[j]?=some c->Den I S w u c:=by
  intro y hy ho hl
  subst hl
  refine ⟨[v],Fv ho,rfl,fun j u c hu hc=>?_⟩
  cases j with
  | zero=>simp at hu hc;subst hu;subst hc;exact hy
  | succ j=>simp at hu
 have BF:=hd
 cases hd with
 | rep h=>cases h with
  | val v =>
   unfold lg at hl
   simp only at hl
   split at hl
   ·rename_i ho;injection hl with hl;exact single _ BF ho hl.symm
   ·cases hl
  | nil=>injection hl with hl;exact single _ BF rfl hl.symm
  | agg vs cs hlen h=>injection hl with hl;subst hl;exact ⟨vs,rfl,hlen,fun j u c hu hc=>.rep (h j u c hu hc)⟩
  | bq vs cs hlen h=>cases hl
  | arr vs cs hlen h=>injection hl with hl;subst hl;exact ⟨vs,rfl,hlen,fun j u c hu hc=>.rep (h j u c hu hc)⟩
  | sl=>injection hl with hl;exact single _ BF rfl hl.symm
  | pg=>injection hl with hl;exact single _ BF rfl hl.symm
  | ptr=>injection hl with hl;exact single _ BF rfl hl.symm
  | lI=>injection hl with hl;exact single _ BF rfl hl.symm
 | agg vs cs hlen h=>injection hl with hl;subst hl;exact ⟨vs,rfl,hlen,h⟩
 | bq=>cases hl
 | dead=>cases hl
 | ref=>injection hl with hl;exact single _ BF rfl hl.symm
 | cD=>injection hl with hl;exact single _ BF rfl hl.symm
 | pre=>injection hl with hl;exact single _ BF rfl hl.symm
 | dC=>injection hl with hl;exact single _ BF rfl hl.symm
 | js=>injection hl with hl;exact single _ BF rfl hl.symm
 | addr=>injection hl with hl;exact single _ BF rfl hl.symm
def Be (place:Nat->Option (Nat×Nat)) (cells:List AV):List (Nat×AV)->Option (List AV)
 | []=>some cells
 | (i,x)::rest=>match place i,lg x with
  | some (off,size),some l=>(match Nat.beq l.length size,Nat.ble (off+l.length) cells.length with
   | true,true=>Be place (cells.take off++l++cells.drop (off+l.length)) rest
   | _,_=>none)
  | _,_=>none
theorem kp (off:Nat):∀(vs:List Value) (k:Nat) (cells:Array Value) (p:Nat),((vs.zipIdx k).foldl (fun cs (cj:Value×Nat)=>cs.setIfInBounds (off+cj.2) cj.1) cells)[p]?=if off+k≤p∧p<off+k+vs.length∧p<cells.size then vs[p-(off+k)]? else cells[p]?
 | [],k,cells,p=>by simp;omega
 | v::vs,k,cells,p=>by
  simp only [List.zipIdx_cons,List.foldl_cons]
  rw [kp off vs (k+1)]
  simp only [Array.size_setIfInBounds,List.length_cons]
  by_cases h1:off+(k+1)≤p∧p<off+(k+1)+vs.length∧p<cells.size
  ·rw [if_pos h1,if_pos ah]
   rw [show p-(off+k)=(p-(off+(k+1)))+1 by omega,List.getElem?_cons_succ]
  ·rw [if_neg h1]
   by_cases h2:off+k=p
   ·subst h2
    by_cases h3:off+k<cells.size
    ·rw [Array.getElem?_setIfInBounds_self_of_lt h3,if_pos ah];simp
    ·rw [if_neg ah,Array.getElem?_eq_none (by simp;omega),Array.getElem?_eq_none ah]
   ·rw [Array.getElem?_setIfInBounds_ne h2,if_neg ah]
theorem jl (off:Nat):∀(vs:List (Value×Nat)) (cells:Array Value),(vs.foldl (fun cs (cj:Value×Nat)=>cs.setIfInBounds (off+cj.2) cj.1) cells).size=cells.size
 | [],_=>rfl
 | v::vs,cells=>by rw [List.foldl_cons,jl off vs];simp
theorem yb {I:Info} {S:Nat->Prop} {w:World} (place:Nat->Option (Nat×Nat)):∀(parts:List (Nat×AV)) (mf:List (Nat×Value)) (cells out:List AV) (cs:Array Value),Be place cells parts=some out->mf.map (·.1)=parts.map (·.1) ->
  (∀(j:Nat) v x,mf[j]?=some v->parts[j]?=some x->Den I S w v.2 x.2)->cs.size=cells.length->(∀(j:Nat) u c,cs[j]?=some u->cells[j]?=some c->Den I S w u c) ->
  ∃us:List Value,Instr.fill place cs mf=some us.toArray∧us.length=out.length∧ ∀(j:Nat) u c,us[j]?=some u->out[j]?=some c->Den I S w u c
 | [],mf,cells,out,cs,hf,hm,hp,hs,hd=>by
  have:mf= []:=by simpa using hm
  subst this
  injection hf with hf;subst hf
  exact ⟨cs.toList,by simp [Instr.fill],by simpa using hs,fun j u c hu hc=>hd j u c (by simpa using hu) hc⟩
 | (i,x)::parts,mf,cells,out,cs,hf,hm,hp,hs,hd=>by
  cases mf with
  | nil=>simp at hm
  | cons p mf =>
   obtain ⟨i',v⟩:=p
   simp only [List.map_cons,List.cons.injEq] at hm
   obtain ⟨hi,hm⟩:=hm
   subst hi
   have hv:=hp 0 (i',v) (i',x) rfl rfl
   simp only [Be] at hf
   split at hf
   ·rename_i off size l oP hl
    split at hf
    ·rename_i J4 rj
     have h1:=Nat.eq_of_beq_eq_true J4
     have h2:off+l.length≤cells.length:=Nat.le_of_ble_eq_true rj
     obtain ⟨vs,Es,hlen,dU⟩:=l8 hv hl
     have hz:v.cells.zipIdx.foldl (fun cs (cj:Value×Nat)=>cs.setIfInBounds (off+cj.2) cj.1) cs=(vs.zipIdx).foldl (fun cs (cj:Value×Nat)=>cs.setIfInBounds (off+cj.2) cj.1) cs:=by
      rw [Es];simp
     have ih:=yb (I:=I) (S:=S) (w:=w) place parts mf (cells.take off++l++cells.drop (off+l.length)) out ((vs.zipIdx).foldl (fun cs (cj:Value×Nat)=>cs.setIfInBounds (off+cj.2) cj.1) cs) hf hm (fun j v x hv hx=>hp (j+1) v x (by simpa using hv) (by simpa using hx)) (by
       rw [jl,hs];simp only [List.length_append,List.length_take,List.length_drop];omega) (fun j u c hu hc=>by
       rw [kp off vs 0 cs j] at hu
       simp only [Nat.add_zero] at hu
       split at hu
       ·rename_i hj
        rw [List.getElem?_append_left (by simp only [List.length_append,List.length_take];omega),List.getElem?_append_right (by simp only [List.length_take];omega)] at hc
        refine dU _ u c hu ?_
        rw [←hc];congr 1;simp only [List.length_take];omega
       ·rename_i hj
        have Wc:j<cs.size:=by
         rcases Nat.lt_or_ge j cs.size with h|h
         ·exact h
         ·rw [Array.getElem?_eq_none h] at hu;cases hu
        refine hd j u c hu ?_
        by_cases UT:j<off
        ·rw [List.getElem?_append_left (by simp only [List.length_append,List.length_take];omega),List.getElem?_append_left (by simp only [List.length_take];omega),List.getElem?_take,if_pos UT] at hc
         exact hc
        ·rw [List.getElem?_append_right (by simp only [List.length_append,List.length_take];omega),List.getElem?_drop] at hc
         rw [←hc];congr 1;simp only [List.length_append,List.length_take];omega)
     obtain ⟨us,FE,r⟩:=ih
     refine ⟨us,?_,r⟩
     have Pm:v.cells.size=l.length:=by rw [Es];simpa using hlen
     unfold Instr.fill
     rw [oP]
     simp only
     rw [if_neg (by rw [Pm,←h1,hs];simp;omega),hz]
     exact FE
    ·cases hf
   ·cases hf
def sU (P:Program):List Field->Option (List (Nat×Nat))
 | []=>some []
 | f::l=>match eh P f.type,sU P l with|some z,some m=>some ((f.offset,z)::m)|_,_=>none
theorem run_places {P:Program} {w:World}:∀(l:List Field) (m:List (Nat×Nat)),sU P l=some m->(l.mapM fun f=>(do pure (f.offset,←sizeOf f.type):Sem (Nat×Nat))).run P w= .ok m w
 | [],m,h=>by cases h;rfl
 | f::l,m,h=>by
  simp only [sU] at h
  split at h
  ·rename_i z q hz hq
   cases h
   have:=run_places (w:=w) l q hq
   have AH:(sizeOf f.type).run P w= .ok z w:=run_sizeOf hz
   simp only [List.mapM_cons,Sem.run_bind,AH,Result.andThen_ok,Sem.run_pure,this]
  ·cases h
def partsOf (s:AS):List (Nat×Operand)->List (Nat×AV)
 | []=>[]
 | (i,x)::l=>(i,bp s x)::partsOf s l
def yz (P:Program) (s:AS) (t:TypeId) (parts:List (Nat×Operand)):Option (AV×List Prop) :=
 match (P.info? t).bind (·.zero),P.underlying t with
 | some z,some (.struct fields)=>(match sU P fields.toList with
  | some places=>(match Be (fun i=>places[i]?) (z.cells.toList.map bC) (partsOf s parts) with|some l=>some (.agg l,[])|none=>none)
  | none=>none)
 | some z,some (.array _ el)=>(match eh P el with
  | some k=>(match Be (fun i=>some (i*k,k)) (z.cells.toList.map bC) (partsOf s parts) with|some l=>some (.agg l,[])|none=>none)
  | none=>none)
 | _,_=>none
section
variable {P:Program} {s:AS} {o:Oper} {h:Hint} {r:AV×List Prop}
theorem rY (parts:List (Nat×Operand)) (f:Operand->Value):(parts.map fun p=>(p.1,f p.2)).map (·.1)=(partsOf s parts).map (·.1):=by
 induction parts with
 | nil=>rfl
 | cons p l ih=>obtain ⟨i,x⟩:=p;simp only [List.map_cons,partsOf,ih]
theorem nu {S0:bm} {w0 w:World} {n:Nat} {O:List Nat} {a:Act} {φ:Nat->Option Nat} (hs:aL S0 w0 n O s a w φ):∀(parts:List (Nat×Operand)) (j:Nat) (v:Nat×Value) (x:Nat×AV),(parts.map fun p=>(p.1,a.eval p.2))[j]?=some v->(partsOf s parts)[j]?=some x->Den (az s.H φ) (aN S0 w φ O) w v.2 x.2
 | [],j,v,x,hv,hx=>by simp at hv
 | (i,y)::l,j,v,x,hv,hx=>by
  cases j with
  | zero=>simp [partsOf] at hv hx;subst hv;subst hx;exact hs.bp y
  | succ j=>exact nu hs l j v x (by simpa using hv) (by simpa [partsOf] using hx)
theorem iO {w:World} {t:TypeId} {z:Value} (h:(P.info? t).bind (·.zero)=some z):(zeroValue t).run P w= .ok z w:=by
 cases hi:P.info? t with
 | none=>rw [hi] at h;cases h
 | some i=>rw [hi] at h;simp at h;simp [zeroValue,typeInfo,hi,h]
theorem tp {I:Info} {S:Nat->Prop} {w:World} (z:Value) (j:Nat) (u:Value) (c:AV) (hu:z.cells[j]?=some u) (hc:(z.cells.toList.map bC)[j]?=some c):Den I S w u c:=by
 rw [List.getElem?_map] at hc
 have:z.cells.toList[j]?=some u:=by simpa using hu
 rw [this] at hc
 injection hc with hc;subst hc
 exact .rep (fN u)
theorem Da {t:TypeId} {parts:Array (Nat×Operand)} (ho:o.op= .build t parts) (hr:yz P s t parts.toList=some r):dc P s o r.1 r.2:=by
 intro hC S0 w0 n O a w φ hs
 unfold yz at hr
 have oP:(parts.map fun p=>(p.1,a.eval p.2)).toList=parts.toList.map fun p=>(p.1,a.eval p.2):=by simp
 split at hr
 ·rename_i z fields hz hu
  split at hr
  ·rename_i places hp
   split at hr
   ·rename_i l hl
    injection hr with hr;subst hr
    obtain ⟨us,FE,hlen,dU⟩:=yb (I:=az s.H φ) (S:=aN S0 w φ O) (w:=w) (fun i=>places[i]?) (partsOf s parts.toList) (parts.toList.map fun p=>(p.1,a.eval p.2)) _ l z.cells hl (rY _ _) (nu hs parts.toList) (by simp) (tp z)
    refine ⟨.agg us.toArray,?_,.agg us l hlen dU⟩
    have hm:(fields.mapM fun f=>(do pure (f.offset,←sizeOf f.type):Sem (Nat×Nat))).run P w= .ok places.toArray w:=by
     rw [Array.mapM_eq_mapM_toList,Sem.run_map,run_places _ _ hp];rfl
    have PW:Instr.fill (fun i=>places.toArray[i]?) z.cells (parts.map fun p=>(p.1,a.eval p.2)).toList=some us.toArray:=by
     rw [oP,←FE];congr 1;funext i;simp
    unfold execOp
    simp only [ho,Instr.build,Sem.run_bind,iO hz,Result.andThen_ok,run_underlying hu]
    rw [hm]
    simp only [Result.andThen_ok]
    rw [PW]
    rfl
   ·cases hr
  ·cases hr
 ·rename_i z n' el hz hu
  split at hr
  ·rename_i k hk
   split at hr
   ·rename_i l hl
    injection hr with hr;subst hr
    obtain ⟨us,FE,hlen,dU⟩:=yb (I:=az s.H φ) (S:=aN S0 w φ O) (w:=w) (fun i=>some (i*k,k)) (partsOf s parts.toList) (parts.toList.map fun p=>(p.1,a.eval p.2)) _ l z.cells hl (rY _ _) (nu hs parts.toList) (by simp) (tp z)
    refine ⟨.agg us.toArray,?_,.agg us l hlen dU⟩
    have oA:(sizeOf el).run P w= .ok k w:=run_sizeOf hk
    unfold execOp
    simp only [ho,Instr.build,Sem.run_bind,iO hz,Result.andThen_ok,run_underlying hu,oA]
    rw [oP,FE]
    rfl
   ·cases hr
  ·cases hr
 ·cases hr
def qh (P:Program) (s:AS) (o:Oper) (h:Hint):Option (AV×List Prop) :=
 match o.op with
 | .move x=>some (fin h (bp s x,[]))
 | .assign x=>some (fin h (bp s x,[]))
 | .binOp op t x y _=>(match bp s x,bp s y with
  | .val u,.val v=>(match Jd P op t x y u v with|some r=>some (fin h r)|none=>none)
  | .agg cs,.agg ds=>(match yp P op t cs ds with|some r=>some (fin h r)|none=>none)
  | .arr cs,.arr ds=>yo P op t cs ds h
  | _,_=>none)
 | .unOp op _ x=>(match bp s x with| .val u=>(match NF P op u with|some r=>some (fin h r)|none=>none)|_=>none)
 | .convert src dst x=>C8 P s src dst (bp s x) h
 | .load t x=>CT P s t (bp s x) h
 | .fieldAddr t x f=>nM P t (bp s x) f
 | .indexAddr t x i=>(match bp s i with| .val (.int _ n)=>I8 P s t (bp s x) n h|_=>none)
 | .index t x i=>(match bp s i with| .val (.int _ n)=>yk P t (bp s x) n h|_=>none)
 | .slice t x lo hi mx=>(match vf s lo hi mx with|some c=>yi P s t (bp s x) c h|none=>none)
 | .field t x f=>ym P t (bp s x) f h
 | .extract x i=>rz (bp s x) i
 | .nilCheck x=>I4 (bp s x)
 | .pick c x y=>(match CQ s c x y h with|some r=>some (fin h r)|none=>none)
 | .build t parts=>yz P s t parts.toList
 | .sliceToArrayPointer t x=>yC P s t (bp s x)
 | .call ⟨.builtin .len,⟨[x]⟩,ts⟩=>I6 P s ts o.type (bp s x) h
 | .call ⟨.builtin b,xs,ts⟩=>(match tC s xs.toList with|some us=>(match NH P b ts o.type us with|some r=>some (fin h r)|none=>none)|none=>none)
 | _=>none
theorem kQ (hr:qh P s o h=some r):dc P s o r.1 r.2:=by
 unfold qh at hr
 split at hr
 ·rename_i x ho
  injection hr with hr;subst hr
  refine gy fun _ S0 w0 n O a w φ hs=>⟨a.eval x,?_,hs.bp x⟩
  unfold execOp;simp only [ho];rfl
 ·rename_i x ho
  injection hr with hr;subst hr
  refine gy fun _ S0 w0 n O a w φ hs=>⟨a.eval x,?_,hs.bp x⟩
  unfold execOp;simp only [ho];rfl
 ·rename_i op t x y t' ho
  split at hr
  ·rename_i u v hu hv
   split at hr
   ·rename_i q hq
    injection hr with hr;subst hr
    exact gy (Jc ho hu hv hq)
   ·cases hr
  ·rename_i cs ds hu hv
   split at hr
   ·rename_i q hq
    injection hr with hr;subst hr
    exact gy (CY ho hu hv hq)
   ·cases hr
  ·rename_i cs ds hu hv
   exact CX ho hu hv hr
  ·cases hr
 ·rename_i op t x ho
  split at hr
  ·rename_i u hu
   split at hr
   ·rename_i q hq
    injection hr with hr;subst hr
    exact gy (Ll ho hu hq)
   ·cases hr
  ·cases hr
 ·rename_i ho;exact Gb ho hr
 ·rename_i ho;exact F7 ho hr
 ·rename_i ho;exact u7 ho hr
 ·rename_i ho
  split at hr
  ·rename_i hi;exact I7 ho hi hr
  ·cases hr
 ·rename_i ho
  split at hr
  ·rename_i hi;exact CU ho hi hr
  ·cases hr
 ·rename_i ho
  split at hr
  ·rename_i hc;exact CP ho hc hr
  ·cases hr
 ·rename_i ho;exact CW ho hr
 ·rename_i ho;exact yn ho hr
 ·rename_i ho;exact I3 ho hr
 ·rename_i ho
  split at hr
  ·rename_i q hq
   injection hr with hr;subst hr
   exact gy (FZ ho hq)
  ·cases hr
 ·rename_i ho;exact Da ho hr
 ·rename_i ho;exact Db ho hr
 ·rename_i ho;exact I5 ho hr
 ·rename_i b xs ts _ ho
  split at hr
  ·rename_i us hu
   split at hr
   ·rename_i q hq
    injection hr with hr;subst hr
    exact gy (Lm ho hu hq)
   ·cases hr
  ·cases hr
 ·cases hr
end
def ma (P:Program) (n:Nat) (s:AS) (o:Oper) (s':AS) (C:List Prop):Prop :=
 bx C-> ∀S0 w0 a w Q,iu S0 w0 n s a w->o.wp P a w (fun a' w'=>iu S0 w0 n s' a' w') Q
def gE (n:Nat) (s:AS) (d:Option Nat) (x:AV):Option AS :=
 match d with
 | none=>some s
 | some d=>(match Nat.blt d n,Nat.ble n 1000000000 with|true,true=>some (lp s d x)|_,_=>none)
theorem dW {S0:bm} {w0 w:World} {n:Nat} {O:List Nat} {s s':AS} {a:Act} {φ:Nat->Option Nat} {d:Option Nat} {v:Value} {x:AV} (h:aL S0 w0 n O s a w φ) (hx:Den (az s.H φ) (aN S0 w φ O) w v x) (hp:gE n s d x=some s'):aL S0 w0 n O s' (a.put d v) w φ:=by
 unfold gE at hp
 split at hp
 ·injection hp with hp;subst hp
  exact ⟨h.jP,h.jS,h.cX,h.cC,h.rows,h.only,h.inj,h.cW,h.apart,h.new⟩
 ·split at hp
  ·rename_i d _ _ hb _
   injection hp with hp;subst hp
   have hd:d<n:=by simpa [Nat.blt_eq] using hb
   exact h.put hd hx
  ·cases hp
theorem cT {P:Program} {o:Oper} {a:Act} {w w':World} {v:Value} {next:Act->World->Prop} {Q:Exit->Act->World->Prop} (cp:(execOp a.eval o).run P w= .ok (.value v) w') (hn:next (a.put o.dst v) w'):o.wp P a w next Q:=by
 unfold Oper.wp
 rw [cp]
 exact hn
theorem iS {n:Nat} {s s':AS} {d:Nat} {x:AV} (hp:gE n s (some d) x=some s'):d<1000000000000:=by
 unfold gE at hp
 simp only at hp
 split at hp
 ·rename_i h1 h2
  have h1:d<n:=by simpa [Nat.blt_eq] using h1
  have h2:=Nat.le_of_ble_eq_true h2
  omega
 ·cases hp
theorem Hz {P:Program} {n:Nat} {s s':AS} {o:Oper} {x:AV} {C:List Prop} (h:dc P s o x C) (hp:gE n s o.dst x=some s'):ma P n s o s' C:=by
 intro hC S0 w0 a w Q ⟨φ,hs⟩
 obtain ⟨v,cp,dU⟩:=h hC S0 w0 n [] a w φ hs
 unfold Oper.wp
 rw [cp]
 exact ⟨φ,dW hs dU hp⟩
def named (h:Hint) (cells:List AV):List AV×List Prop:=match h.av with|some (.arr row)=>(row,[cells=row])|_=>(cells,[])
theorem g_ {h:Hint} {cells:List AV} {C:List Prop} (hC:bx ((named h cells).2++C)):(named h cells).1=cells∧bx C:=by
 unfold named at *
 split at hC
 ·exact ⟨hC.1.symm,hC.2⟩
 ·exact ⟨rfl,hC⟩
def install (s:AS) (id:Nat) (r:Row):AS:=⟨(ck id s).F,(id,r)::(ck id s).H⟩
section
variable {S0:bm} {w0 w w':World} {n:Nat} {s:AS} {a:Act} {φ:Nat->Option Nat}
theorem aL.mi (h:aL S0 w0 n [] s a w φ) (id:Nat):aL S0 w0 n [] (ck id s) a w (erase φ id):=by
 cases cm:φ id with
 | none=>exact h.jw id [] (by rw [cm])
 | some g=>exact (h.jw id [g] (by rw [cm])).uS
theorem dn (id:Nat):look (ck id s).H id=none:=by
 unfold ck;rw [cy,bI,if_pos rfl];rfl
theorem aL.fresh (h:aL S0 w0 n [] s a w φ) (id:Nat) (r:Row) (hid:id<1000000000000) (Ij:w'.os=w.os) (uA:w'.tape=w.tape) (uB:w'.output=w.output) (dw:w.heap.size<w'.heap.size) (hb:∀b,b<w.heap.size->w'.heap[b]?=w.heap[b]?)
  {cur:Array Value} {te:TypeId} {fr:Nat×Nat} (hg:w'.heap[w.heap.size]?=some (.cells cur te fr)) (gw:∀j,j<cur.size-> ¬(fr.1≤j∧j<fr.2)) (hl:r.cells.length≤cur.size) (mS:r.full=true->cur.size=r.cells.length)
  (hc:∀(j:Nat) u x,cur[j]?=some u->r.cells[j]?=some x->(r.pure=true->cz (aN S0 w φ []) w u x)∧(r.pure=false-> ∃y,x=aD id y∧Den (az s.H φ) (aN S0 w φ []) w u y)) :
  aL S0 w0 n [] (install s id r) a w' (fD (erase φ id) id w.heap.size):=by
 have h1:=h.mi id
 have h2:=h1.await w.heap.size (Nat.le_refl _)
 have h3:=h2.vX (w':=w') (fun g hg=>by simp at hg;rw [hg];exact .inl h.cX.size) Ij uA uB (Nat.le_of_lt dw) (fun b J4 _=>hb b J4)
 have TW:∀b,aN S0 w φ [] b->aN S0 w (erase φ id) [] b:=by
  intro b ⟨h1,h2,h3,h4⟩
  refine ⟨h1,h2,fun i hi=>?_,h4⟩
  unfold erase at hi
  split at hi
  ·cases hi
  ·exact h3 i hi
 have hF:∀b,aN S0 w (erase φ id) [] b->aN S0 w' (erase φ id) [w.heap.size] b∧w'.heap[b]?=w.heap[b]?:=by
  intro b ⟨h1,h2,h3⟩
  exact ⟨⟨ah,by simp;omega,h3⟩,hb b h1⟩
 refine h3.wY ⟨.inl hid,.inl h.cX.size⟩ dw (by simp) (dn id) ⟨cur,te,fr,hg,gw,hl,mS,fun j u x hu hx=>?_⟩
 obtain ⟨hp,hi⟩:=hc j u x hu hx
 unfold bg
 cases qc:r.pure with
 | true=>exact ((hp qc).mono fun b hb=>⟨TW b hb,rfl⟩).mono hF
 | false =>
  obtain ⟨y,rfl,hy⟩:=hi qc
  have hk:=(uw id (nB id) TW).all hy
  exact hk.mono (fun _ _ h=>h) hF (fun i e m g hi=>by
   obtain ⟨q,-,-,-,hg⟩:=aQ hi
   unfold aV;rw [hb g (h1.cW i g hg).2])
theorem fi (id:Nat) (r:Row) (g:Nat):az (install s id r).H (fD (erase φ id) id g) id=some (r.e,r.cells.length,some g):=by
 rw [br (r:=r) (by unfold install;rw [aE,if_pos rfl])]
 unfold fD;rw [if_pos rfl]
end
def rF (P:Program) (t:TypeId):Nat:=match P.underlying t with|some (.array _ el)=>(match eh P el with|some k=>k|none=>1)|_=>1
theorem ig {α:Type} (f:Nat->α):(Array.range 0).map f= #[]:=Array.eq_empty_of_size_eq_zero (by simp)
def og (P:Program) (n:Nat) (s:AS) (d t:Nat) (h:Hint):Option (AS×List Prop) :=
 match (P.info? t).bind (·.zero) with
 | some z=>(match h.av with
  | some (.arr row)=>(match gE n (install s d ⟨rF P t,true,true,row⟩) (some d) (.addr d 0) with|some s'=>some (s',[z.cells.toList.map bC=row])|none=>none)
  | _=>(match gE n (install s d ⟨rF P t,false,true,z.cells.toList.map bC⟩) (some d) (.addr d 0) with|some s'=>some (s',[])|none=>none))
 | none=>none
theorem dL (w:World) (o:Obj):({w with heap:=w.heap.push o}:World).heap[w.heap.size]?=some o:=by simp
theorem cK (w:World) (o:Obj) (b:Nat) (h:b<w.heap.size):({w with heap:=w.heap.push o}:World).heap[b]?=w.heap[b]?:=by
 show (w.heap.push o)[b]?=_
 rw [Array.getElem?_push,if_neg ah]
section
variable {P:Program} {n:Nat} {s:AS} {o:Oper} {h:Hint} {q:AS×List Prop}
theorem Co (id:Nat) (v:Value):aD id (bC v)=bC v:=by
 unfold bC
 split<;>rfl
theorem u_ {t d:Nat} (ho:o.op= .alloc t) (hd:o.dst=some d) (hr:og P n s d t h=some q):ma P n s o q.1 q.2:=by
 intro hC S0 w0 a w Q ⟨φ,hs⟩
 unfold og at hr
 split at hr
 ·rename_i z hz
  have cp:(execOp a.eval o).run P w= .ok (.value (.pointer (some ⟨w.heap.size,0,none⟩))) {w with heap:=w.heap.push (.cells z.cells t (0,0))}:=by
   unfold execOp
   simp [ho,Instr.alloc,iO hz,newVar,newRow]
  refine cT cp ?_
  rw [hd]
  split at hr
  ·rename_i row _
   split at hr
   ·rename_i s' bY
    injection hr with hr;subst hr
    have e:=hC.1
    have h1:=hs.fresh (w':={w with heap:=w.heap.push (.cells z.cells t (0,0))}) d ⟨rF P t,true,true,row⟩ (iS bY) rfl rfl rfl (by simp) (cK w _) (dL w _) (by simp) (by simp [←e]) (by simp [←e]) (fun j u x hu hx=>⟨fun _=>by
     simp only [←e,List.getElem?_map] at hx
     have:z.cells.toList[j]?=some u:=by simpa using hu
     rw [this] at hx;injection hx with hx;subst hx;exact fN u,fun h=>by cases h⟩)
    exact ⟨_,dW h1 (.addr d 0 _ _ _ (fi d _ _)) bY⟩
   ·cases hr
  ·split at hr
   ·rename_i s' bY
    injection hr with hr;subst hr
    have h1:=hs.fresh (w':={w with heap:=w.heap.push (.cells z.cells t (0,0))}) d ⟨rF P t,false,true,z.cells.toList.map bC⟩ (iS bY) rfl rfl rfl (by simp) (cK w _) (dL w _) (by simp) (by simp) (by simp) (fun j u x hu hx=>⟨fun h=>(by cases h),fun _=>by
     simp only [List.getElem?_map] at hx
     have:z.cells.toList[j]?=some u:=by simpa using hu
     rw [this] at hx;injection hx with hx;subst hx
     exact ⟨bC u,(Co d u).symm,.rep (fN u)⟩⟩)
    exact ⟨_,dW h1 (.addr d 0 _ _ _ (fi d _ _)) bY⟩
   ·cases hr
 ·cases hr
def Jb (P:Program) (n:Nat) (s:AS) (d t:Nat) (x:AV):Option (AS×List Prop) :=
 match x with
 | .arr row=>(match gE n (install s d ⟨rF P t,true,true,row⟩) (some d) (.addr d 0) with|some s'=>some (s',[])|none=>none)
 | x=>(match lg x with
  | some l=>(match gE n (install s d ⟨rF P t,false,true,l.map (aD d)⟩) (some d) (.addr d 0) with|some s'=>some (s',[])|none=>none)
  | none=>none)
theorem Ja {t d:Nat} {x:Operand} (ho:o.op= .box t x) (hd:o.dst=some d) (hr:Jb P n s d t (bp s x)=some q):ma P n s o q.1 q.2:=by
 intro hC S0 w0 a w Q ⟨φ,hs⟩
 have hx:=hs.bp x
 have cp:(execOp a.eval o).run P w= .ok (.value (.pointer (some ⟨w.heap.size,0,none⟩))) {w with heap:=w.heap.push (.cells (a.eval x).cells t (0,0))}:=by
  unfold execOp
  simp [ho,Instr.box,newVar,newRow]
 refine cT cp ?_
 rw [hd]
 unfold Jb at hr
 split at hr
 ·rename_i row he
  split at hr
  ·rename_i s' bY
   injection hr with hr;subst hr
   rw [he] at hx
   obtain ⟨vs,hv,hl,bZ⟩:=qp hx
   have dM:(a.eval x).cells=vs.toArray:=by rw [hv];rfl
   rw [dM]
   have h1:=hs.fresh (w':={w with heap:=w.heap.push (.cells vs.toArray t (0,0))}) d ⟨rF P t,true,true,row⟩ (iS bY) rfl rfl rfl (by simp) (cK w _) (dL w _) (by simp) (by simp [hl]) (by simp [hl]) (fun j u x hu hx=>⟨fun _=>bZ j u x (by simpa using hu) hx,fun h=>by cases h⟩)
   exact ⟨_,dW h1 (.addr d 0 _ _ _ (fi d _ _)) bY⟩
  ·cases hr
 ·split at hr
  ·rename_i l hl
   split at hr
   ·rename_i s' bY
    injection hr with hr;subst hr
    obtain ⟨vs,dM,hlen,dU⟩:=l8 hx hl
    rw [dM]
    have h1:=hs.fresh (w':={w with heap:=w.heap.push (.cells vs.toArray t (0,0))}) d ⟨rF P t,false,true,l.map (aD d)⟩ (iS bY) rfl rfl rfl (by simp) (cK w _) (dL w _) (by simp) (by simp [hlen]) (by simp [hlen]) (fun j u x hu hx=>⟨fun h=>(by cases h),fun _=>by
     simp only [List.getElem?_map] at hx
     cases hj:l[j]? with
     | none=>rw [hj] at hx;cases hx
     | some y=>rw [hj] at hx;injection hx with hx;subst hx;exact ⟨y,rfl,dU j u y (by simpa using hu) hj⟩⟩)
    exact ⟨_,dW h1 (.addr d 0 _ _ _ (fi d _ _)) bY⟩
   ·cases hr
  ·cases hr
def Pf:AV->List Nat
 | .ref i=>[i]
 | .pre i _=>[i]
 | .js i _ _=>[i]
 | .addr i _=>[i]
 | _=>[]
def p9:AV->List Nat
 | .agg cs=>cs.flatMap Pf
 | x=>Pf x
def gb:AS->List Nat->Option AS
 | s,[]=>some s
 | s,i::l=>match look s.H i with
  | some r=>(match r.pure with|true=>gb (gN i r s) l|false=>none)
  | none=>gb s l
theorem fL {S0:bm} {w0 w:World} {a:Act}:∀(l:List Nat) (s s':AS) (φ:Nat->Option Nat),gb s l=some s'->aL S0 w0 n [] s a w φ-> ∃ cB,aL S0 w0 n [] s' a w cB
 | [],s,s',φ,h,hs=>by cases h;exact ⟨φ,hs⟩
 | i::l,s,s',φ,h,hs=>by
  simp only [gb] at h
  split at h
  ·rename_i r hr
   split at h
   ·rename_i hp
    exact fL l _ s' _ h (hs.LP hr hp)
   ·cases h
  ·exact fL l s s' φ h hs
def ic:AV->Bool
 | .val u=>u.oneCell'
 | .nil=>true
 | .sl _ _=>true
 | .ptr _ _=>true
 | .lI _ _=>true
 | _=>false
def dY:List AV->Bool
 | []=>true
 | x::l=>match ic x with|true=>dY l|false=>false
theorem eH {I:Info} {S:Nat->Prop} {w:World} {v:Value} {x:AV} (hd:Den I S w v x) (hp:ic x=true):cz S w v x∧v.oneCell'=true:=by
 cases hd with
 | rep h=>refine ⟨h,?_⟩;cases h<;>first|exact hp|rfl|cases hp
 | _=>cases hp
theorem iz:∀ {l:List AV} {j:Nat} {x:AV},dY l=true->l[j]?=some x->ic x=true
 | [],j,x,_,h=>by simp at h
 | y::l,j,x,hp,h=>by
  simp only [dY] at hp
  split at hp
  ·rename_i hy
   cases j with
   | zero=>simp at h;subst h;exact hy
   | succ j=>exact iz hp (by simpa using h)
  ·cases hp
def fT (s:AS) (z:Nat):Nat->List (Nat×Operand)->Option (List AV)
 | _,[]=>some []
 | i,(j,x)::l=>match Nat.beq i j,lg (bp s x),fT s z (i+1) l with
  | true,some c,some m=>(match Nat.beq c.length z with|true=>some (c++m)|false=>none)
  | _,_,_=>none
def uZ (P:Program) (n:Nat) (s:AS) (d t len:Nat) (parts:List (Nat×Operand)) (h:Hint):Option (AS×List Prop) :=
 match P.underlying t with
 | some (.slice el)=>(match eh P el,(P.info? el).bind (·.zero),gb s (parts.flatMap fun p=>p9 (bp s p.2)) with
  | some (z+1),some zero,some s1=>(match fT s1 (z+1) 0 parts,Nat.beq parts.length len,Nat.ble (len*(z+1)) 16777216 with
   | some cells,true,true=>(match Nat.beq zero.cells.size (z+1) with
    | true=>(match h.av with
     | some (.arr row)=>(match dY cells,gE n (install s1 d ⟨z+1,true,true,row⟩) (some d) (.ref d) with|true,some s'=>some (s',[cells=row])|_,_=>none)
     | _=>(match dY cells,gE n (install s1 d ⟨z+1,true,true,cells⟩) (some d) (.ref d) with|true,some s'=>some (s',[])|_,_=>none))
    | false=>none)
   | _,_,_=>none)
  | _,_,_=>none)
 | _=>none
theorem Cm {S0:bm} {w0 w:World} {a:Act} {φ:Nat->Option Nat} (hs:aL S0 w0 n [] s a w φ) (z:Nat):∀(parts:List (Nat×Operand)) (i:Nat) (cells:List AV) (cur:Array Value),fT s z i parts=some cells->dY cells=true->i*z+parts.length*z=cur.size ->
  cells.length=parts.length*z∧ ∃us:Array Value,Instr.fill (fun i=>some (i*z,z)) cur (parts.map fun p=>(p.1,a.eval p.2))=some us∧us.size=cur.size∧(∀j,j<i*z->us[j]?=cur[j]?)∧ ∀(j:Nat) u x,us[i*z+j]?=some u->cells[j]?=some x->cz (aN S0 w φ []) w u x
 | [],i,cells,cur,hc,hp,dw=>by cases hc;exact ⟨by simp,cur,rfl,rfl,fun _ _=>rfl,fun j u x _ hx=>by simp at hx⟩
 | (j,x)::l,i,cells,cur,hc,hp,dw=>by
  simp only [fT] at hc
  split at hc
  ·rename_i c m M_ K8 hm
   split at hc
   ·rename_i K7
    cases hc
    have M_:=Nat.eq_of_beq_eq_true M_
    have K7:=Nat.eq_of_beq_eq_true K7
    subst M_
    obtain ⟨vs,hv,hlen,dU⟩:=l8 (hs.bp x) K8
    have RK:dY m=true:=by
     have key:∀(c m:List AV),dY (c++m)=true->dY m=true:=by
      intro c
      induction c with
      | nil=>intro m h;exact h
      | cons y c ih =>
       intro m h
       simp only [List.cons_append,dY] at h
       split at h
       ·exact ih m h
       ·cases h
     exact key c m hp
    simp only [List.length_cons] at dw
    have KS:(l.length+1)*z=l.length*z+z:=by rw [Nat.add_mul,Nat.one_mul]
    have dz:(i+1)*z=i*z+z:=by rw [Nat.add_mul,Nat.one_mul]
    have Iz:((a.eval x).cells.zipIdx.foldl (fun cs (cj:Value×Nat)=>cs.setIfInBounds (i*z+cj.2) cj.1) cur)=(vs.zipIdx.foldl (fun cs (cj:Value×Nat)=>cs.setIfInBounds (i*z+cj.2) cj.1) cur):=by rw [hv];simp
    obtain ⟨GA,us,FE,H_,H9,M0⟩:=Cm hs z l (i+1) m (vs.zipIdx.foldl (fun cs (cj:Value×Nat)=>cs.setIfInBounds (i*z+cj.2) cj.1) cur) hm RK (by rw [jl];omega)
    rw [jl] at H_
    refine ⟨by rw [List.length_append,List.length_cons,GA,K7];omega,us,?_,H_,fun j hj=>?_,fun j u y hu hy=>?_⟩
    ·rw [List.map_cons]
     unfold Instr.fill
     simp only
     have Pm:(a.eval x).cells.size=z:=by rw [hv];simp;omega
     rw [if_neg (by rw [Pm];simp;omega),Iz]
     exact FE
    ·rw [H9 j ah,kp,if_neg ah]
    ·by_cases hj:j<z
     ·rw [H9 _ ah,kp,if_pos ah] at hu
      rw [List.getElem?_append_left ah] at hy
      have RB:vs[j]?=some u:=by rw [←hu];congr 1;omega
      exact (eH (dU j u y RB hy) (iz (l:=c++m) (j:=j) hp (by rw [List.getElem?_append_left ah];exact hy))).1
     ·rw [List.getElem?_append_right ah] at hy
      refine M0 (j-z) u y ?_ (by rw [←hy,K7])
      rw [←hu];congr 1;omega
   ·cases hc
  ·cases hc
theorem Bj {t d len:Nat} {parts:Array (Nat×Operand)} (ho:o.op= .buildSlice t len parts) (hd:o.dst=some d) (hr:uZ P n s d t len parts.toList h=some q):ma P n s o q.1 q.2:=by
 intro hC S0 w0 a w Q ⟨Q7,lH⟩
 unfold uZ at hr
 split at hr
 ·rename_i el hu
  split at hr
  ·rename_i z zero s1 hz hzero Pq
   obtain ⟨φ,hs⟩:=fL _ _ _ _ Pq lH
   split at hr
   ·rename_i cells dM hlen AX
    split at hr
    ·rename_i uz
     have uz:=Nat.eq_of_beq_eq_true uz
     have hlen:=Nat.eq_of_beq_eq_true hlen
     have AX:len*(z+1)≤16777216:=Nat.le_of_ble_eq_true AX
     have cp:dY cells=true-> ∃us:Array Value,(execOp a.eval o).run P w= .ok (.value (.slice (some ⟨w.heap.size,0,none⟩) len len)) {w with heap:=w.heap.push (.cells us el (0,0))}∧us.size=cells.length∧cells.length=(z+1)*len∧ ∀(j:Nat) u x,us[j]?=some u->cells[j]?=some x->cz (aN S0 w φ []) w u x:=by
      intro hp
      obtain ⟨h1,us,h2,h3,-,h4⟩:=Cm hs (z+1) parts.toList 0 cells ((Array.range (len*(z+1))).map (zero.cells[· %zero.cells.size]!)) dM hp (by simp [←hlen])
      refine ⟨us,?_,by rw [h3,h1,hlen];simp,by rw [h1,hlen,Nat.mul_comm],fun j u x hu hx=>h4 j u x (by simpa using hu) hx⟩
      have AH:(sizeOf el).run P w= .ok (z+1) w:=run_sizeOf hz
      have oP:(parts.map fun p=>(p.1,a.eval p.2)).toList=parts.toList.map fun p=>(p.1,a.eval p.2):=by simp
      unfold execOp
      simp only [ho,Instr.buildSlice,Sem.run_bind,run_underlying hu,Result.andThen_ok,AH,Sem.run_ite]
      rw [if_neg ah]
      by_cases h0:len*(z+1)=0
      ·rw [if_pos h0]
       simp only [Sem.run_pure,Result.andThen_ok]
       have:(Array.range (len*(z+1))).map (fun x=>(#[]:Array Value)[x%(#[]:Array Value).size]!)=(Array.range (len*(z+1))).map (fun x=>zero.cells[x%zero.cells.size]!):=by rw [h0,ig,ig]
       rw [this,oP,h2]
       rfl
      ·rw [if_neg h0]
       simp only [iO hzero,Result.andThen_ok,Sem.run_pure]
       rw [oP,h2]
       rfl
     have hm:len≤maxLen:=by
      have:len≤len*(z+1):=Nat.le_mul_of_pos_right _ ah
      unfold maxLen;omega
     split at hr
     ·rename_i row _
      split at hr
      ·rename_i s' hp bY
       injection hr with hr;subst hr
       obtain ⟨us,cp,h1,h2,h3⟩:=cp hp
       have e:=hC.1
       subst e
       refine cT cp ?_
       rw [hd]
       have hf:=hs.fresh (w':={w with heap:=w.heap.push (.cells us el (0,0))}) d ⟨z+1,true,true,cells⟩ (iS bY) rfl rfl rfl (by simp) (cK w _) (dL w _) (by simp) (by simp [h1]) (by simp [h1]) (fun j u x hu hx=>⟨fun _=>h3 j u x hu hx,fun h=>by cases h⟩)
       exact ⟨_,dW hf (.ref d _ _ _ len len (fi d _ _) h2 (Nat.le_refl _) hm (by unfold aV;rw [dL];show us.size=_;rw [h1,h2])) bY⟩
      ·cases hr
     ·split at hr
      ·rename_i s' hp bY
       injection hr with hr;subst hr
       obtain ⟨us,cp,h1,h2,h3⟩:=cp hp
       refine cT cp ?_
       rw [hd]
       have hf:=hs.fresh (w':={w with heap:=w.heap.push (.cells us el (0,0))}) d ⟨z+1,true,true,cells⟩ (iS bY) rfl rfl rfl (by simp) (cK w _) (dL w _) (by simp) (by simp [h1]) (by simp [h1]) (fun j u x hu hx=>⟨fun _=>h3 j u x hu hx,fun h=>by cases h⟩)
       exact ⟨_,dW hf (.ref d _ _ _ len len (fi d _ _) h2 (Nat.le_refl _) hm (by unfold aV;rw [dL];show us.size=_;rw [h1,h2])) bY⟩
      ·cases hr
    ·cases hr
   ·cases hr
  ·cases hr
 ·cases hr
def tn (zs:List AV) (k:Nat):List AV:=match zs with| [x]=>List.replicate k x|zs=>(List.replicate k zs).flatten
theorem EI (zs:List AV) (e:Nat) (he:zs.length=e) (h0:0<e):∀(k j:Nat) (x:AV),((List.replicate k zs).flatten)[j]?=some x->zs[j%e]?=some x
 | 0,j,x,h=>by simp at h
 | k+1,j,x,h=>by
  rw [List.replicate_succ,List.flatten_cons] at h
  by_cases hj:j<e
  ·rw [List.getElem?_append_left ah] at h
   rw [Nat.mod_eq_of_lt hj];exact h
  ·rw [List.getElem?_append_right ah] at h
   have:=EI zs e he h0 k _ x h
   rw [he] at this
   rw [show j%e=(j-e)%e from ?_]
   ·exact this
   ·rw [Nat.mod_eq_sub_mod ah]
theorem w_ (zs:List AV) (e:Nat) (he:zs.length=e) (h0:0<e) (k j:Nat) (x:AV) (h:(tn zs k)[j]?=some x):zs[j%e]?=some x:=by
 unfold tn at h
 split at h
 ·simp at he
  subst he
  rw [List.getElem?_replicate] at h
  split at h
  ·injection h with h;subst h;simp [Nat.mod_one]
  ·cases h
 ·exact EI zs e he h0 k j x h
theorem tl (zs:List AV) (e:Nat) (he:zs.length=e) (k:Nat):(tn zs k).length=e*k:=by
 unfold tn
 split
 ·simp at he;subst he;simp
 ·rw [List.length_flatten];simp [he,Nat.mul_comm]
def CS (P:Program) (n:Nat) (s:AS) (d t:Nat) (L C:Int) (h:Hint):Option (AS×List Prop) :=
 match P.underlying t with
 | some (.slice el)=>(match P.info? el with
  | some i=>(match i.zero,i.size with
   | some zero,z+1=>(match Nat.beq zero.cells.size (z+1) with
    | true=>(match gE n (install s d ⟨z+1,true,false,(named h (tn (zero.cells.toList.map bC) h.k)).1⟩) (some d) (.ref d) with
     | some s'=>some (s',(named h (tn (zero.cells.toList.map bC) h.k)).2++ [L=(h.k:Int),C=(h.m:Int),h.k≤h.m,i.bytes*h.m≤281474976710656,h.m≤maxLen])|none=>none)
    | false=>none)
   | _,_=>none)
  | none=>none)
 | _=>none
theorem run_make {P:Program} {o:Oper} {ev:Operand->Value} {t:Nat} {l c:Operand} {kl kc:IntKind} {L C:Int} {el:TypeId} {i:TypeInfo} {zero:Value} {z k m:Nat} (ho:o.op= .makeSlice t l c) (Mg:ev l= .int kl L) (ec:ev c= .int kc C) (hu:P.underlying t=some (.slice el)) (hi:P.info? el=some i) (hz:i.zero=some zero) (dw:i.size=z+1) (hb:zero.cells.size=z+1)
  (h1:L=(k:Int)) (h2:C=(m:Int)) (h3:k≤m) (h4:i.bytes*m≤281474976710656) (h5:m≤maxLen) (w:World) :
  ∃cur:Array Value,(execOp ev o).run P w= .ok (.value (.slice (some ⟨w.heap.size,0,none⟩) k m)) {w with heap:=w.heap.push (.cells cur el (0,0))}∧cur.size=(z+1)*m∧ ∀(j:Nat) u,cur[j]?=some u->zero.cells[j%(z+1)]?=some u:=by
 have V9:m≤9223372036854775807:=by have:=h5;unfold maxLen at this;omega
 have wl:IntKind.i64.wrap L=(k:Int):=by rw [h1,IntKind.wrap_i64];omega
 have wc:IntKind.i64.wrap C=(m:Int):=by rw [h2,IntKind.wrap_i64];omega
 have Vg:((i.bytes:Int)*(m:Int))≤281474976710656:=by
  have QZ:((i.bytes*m:Nat):Int)≤281474976710656:=ah
  rw [Int.natCast_mul] at QZ;exact QZ
 have Uk:(zeroValue el).run P w= .ok zero w:=iO (by rw [hi];exact hz)
 have Tp:(sizeOf el).run P w= .ok (z+1) w:=by simp [sizeOf,typeInfo,hi,dw]
 have Tm:(typeInfo el).run P w= .ok i w:=by simp [typeInfo,hi]
 have t1:¬((m:Int)<0):=ah
 have t2:¬(281474976710656<(i.bytes:Int)*(m:Int)):=ah
 have t3:¬((k:Int)<0):=ah
 have t4:¬((m:Int)<(k:Int)):=ah
 by_cases h0:m*(z+1)=0
 ·refine ⟨#[],?_,by rw [Nat.mul_comm];simp [h0],fun j u hu=>by simp at hu⟩
  unfold execOp
  simp [ho,Mg,ec,Instr.makeSlice,run_underlying hu,Tm,Tp,asInt,asIntOf,wl,wc,t1,t2,t3,t4,newRow]
  have:m=0:=by
   rcases Nat.eq_zero_or_pos m with h6|h6
   ·exact h6
   ·have:=Nat.mul_pos h6 (ah:0<z+1);omega
  simp [this,ig]
 ·refine ⟨(Array.range (m*(z+1))).map (zero.cells[· %zero.cells.size]!),?_,by simp [Nat.mul_comm],fun j u hu=>?_⟩
  ·unfold execOp
   simp [ho,Mg,ec,Instr.makeSlice,run_underlying hu,Tm,Tp,asInt,asIntOf,wl,wc,t1,t2,t3,t4,newRow,Uk]
   exact fun e=>absurd e h0
  ·simp only [Array.getElem?_map] at hu
   cases hj:(Array.range (m*(z+1)))[j]? with
   | none=>rw [hj] at hu;cases hu
   | some k =>
    have hk:k=j:=by
     have:=Array.getElem?_eq_some_iff.1 hj
     obtain ⟨dh,he⟩:=this
     rw [←he];simp
    subst hk
    rw [hj] at hu
    injection hu with hu
    rw [hb] at hu
    have dh:k%(z+1)<zero.cells.size:=by rw [hb];exact Nat.mod_lt _ ah
    simp [getElem!_pos,dh] at hu
    simp [dh,hu]
theorem F6 {t d:Nat} {l c:Operand} {kl kc:IntKind} {L C:Int} (ho:o.op= .makeSlice t l c) (hl:bp s l= .val (.int kl L)) (hc:bp s c= .val (.int kc C)) (hd:o.dst=some d) (hr:CS P n s d t L C h=some q):ma P n s o q.1 q.2:=by
 intro hC S0 w0 a w Q ⟨φ,hs⟩
 have Mg:a.eval l= .int kl L:=bL (hl ▸ hs.bp l)
 have ec:a.eval c= .int kc C:=bL (hc ▸ hs.bp c)
 unfold CS at hr
 split at hr
 ·rename_i el hu
  split at hr
  ·rename_i i hi
   split at hr
   ·rename_i zero z hz dw
    split at hr
    ·rename_i hb
     have hb:=Nat.eq_of_beq_eq_true hb
     split at hr
     ·rename_i s' bY
      injection hr with hr;subst hr
      obtain ⟨KY,hC⟩:=g_ hC
      rw [KY] at bY
      obtain ⟨h1,h2,h3,h4,h5,-⟩:=hC
      have cp:=run_make ho Mg ec hu hi hz dw hb h1 h2 h3 h4 h5 w
      obtain ⟨cur,cp,wM,bu⟩:=cp
      refine cT cp ?_
      rw [hd]
      have Gw:(zero.cells.toList.map bC).length=z+1:=by simp [hb]
      have Gy:=tl (zero.cells.toList.map bC) (z+1) Gw h.k
      have hle:(z+1)*h.k≤(z+1)*h.m:=Nat.mul_le_mul_left _ h3
      have hf:=hs.fresh (w':={w with heap:=w.heap.push (.cells cur el (0,0))}) d ⟨z+1,true,false,tn (zero.cells.toList.map bC) h.k⟩ (iS bY) rfl rfl rfl (by simp) (cK w _) (dL w _) (by simp) (by simp only [Gy,wM];exact hle) (fun h=>by cases h) (fun j u x hu hx=>⟨fun _=>by
       have h6:=w_ _ (z+1) Gw ah _ _ _ hx
       have h7:=bu j u hu
       rw [List.getElem?_map] at h6
       have h8:zero.cells.toList[j%(z+1)]?=some u:=by simpa using h7
       rw [h8] at h6;injection h6 with h6;subst h6;exact fN u,fun h=>by cases h⟩)
      exact ⟨_,dW hf (.ref d _ _ _ h.k h.m (fi d _ _) Gy h3 h5 (by unfold aV;rw [dL];exact wM)) bY⟩
     ·cases hr
    ·cases hr
   ·cases hr
  ·cases hr
 ·cases hr
def yy (P:Program) (n:Nat) (s:AS) (d src dst:Nat) (b:ByteArray):Option (AS×List Prop) :=
 match P.underlying src,P.underlying dst with
 | some .string,some (.slice el)=>(match P.underlying el with
  | some (.int .u8)=>(match gE n (install s d ⟨1,true,false,ag b.data.toList⟩) (some d) (.ref d) with|some s'=>some (s',[b.size≤maxLen])|none=>none)
  | _=>none)
 | _,_=>none
theorem C_ {src dst d:Nat} {x:Operand} {b:ByteArray} (ho:o.op= .convert src dst x) (hx:bp s x= .val (.string b)) (hd:o.dst=some d) (hr:yy P n s d src dst b=some q):ma P n s o q.1 q.2:=by
 intro hC S0 w0 a w Q ⟨φ,hs⟩
 have ex:a.eval x= .string b:=bL (hx ▸ hs.bp x)
 unfold yy at hr
 split at hr
 ·rename_i el h1 h2
  split at hr
  ·rename_i h3
   split at hr
   ·rename_i s' bY
    injection hr with hr;subst hr
    have dw:=hC.1
    have AO:=vN.of_string w b el dw
    have cp:(execOp a.eval o).run P w= .ok (.value (.slice (some ⟨w.heap.size,0,none⟩) b.size (grownCap w b.size 0 el))) (w.drew.alloc (.cells (bytesRow b (grownCap w b.size 0 el)) el ((bytesRow b (grownCap w b.size 0 el)).size,(bytesRow b (grownCap w b.size 0 el)).size+1))):=by
     unfold execOp
     simp [ho,ex,run_bytes_of_string w src dst el b h1 h2 h3]
    refine cT cp ?_
    rw [hd]
    have uG:=grownCap_ge w b.size 0 el
    have s7:grownCap w b.size 0 el≤maxLen:=grownCap_le_maxLen w _ 0 el dw
    have P7:(bytesRow b (grownCap w b.size 0 el)).size=grownCap w b.size 0 el:=by
     unfold bytesRow;simp only [Array.size_append,Array.size_map,Array.size_replicate]
     show b.size+_=_
     omega
    have pD:(ag b.data.toList).length=b.size:=by rw [aC];rfl
    have lY:(w.drew.alloc (.cells (bytesRow b (grownCap w b.size 0 el)) el ((bytesRow b (grownCap w b.size 0 el)).size,(bytesRow b (grownCap w b.size 0 el)).size+1))).heap[w.heap.size]?=some (.cells (bytesRow b (grownCap w b.size 0 el)) el ((bytesRow b (grownCap w b.size 0 el)).size,(bytesRow b (grownCap w b.size 0 el)).size+1)):=heap_alloc_new w.drew _
    have hf:=hs.fresh (w':=w.drew.alloc (.cells (bytesRow b (grownCap w b.size 0 el)) el ((bytesRow b (grownCap w b.size 0 el)).size,(bytesRow b (grownCap w b.size 0 el)).size+1))) d ⟨1,true,false,ag b.data.toList⟩ (iS bY) rfl rfl rfl (by simp) (fun k hk=>Below.heap_alloc w.drew _ k hk) lY (fun j hj=>by simp only;omega) (by simp only [pD,P7];exact uG) (fun h=>by cases h) (fun j u x hu hx=>⟨fun _=>by
     have hj:j<b.size:=by have:=(List.getElem?_eq_some_iff.1 hx).1;rw [pD] at this;exact this
     have We:j<b.data.toList.length:=hj
     have xV:j<b.data.size:=hj
     have e1:(bytesRow b (grownCap w b.size 0 el))[j]?=some (.int .u8 (b.data.toList[j].toNat)):=by
      unfold bytesRow
      rw [Array.getElem?_append_left (by simpa using hj)]
      simp
      exact ⟨_,Array.getElem?_eq_getElem xV,rfl⟩
     rw [e1] at hu;injection hu with hu;subst hu
     have e2:(ag b.data.toList)[j]?=some (.val (.int .u8 (bv b.data.toList[j]))):=by
      simp [ag]
      exact ⟨_,Array.getElem?_eq_getElem xV,rfl⟩
     rw [e2] at hx;injection hx with hx;subst hx
     exact .val _,fun h=>by cases h⟩)
    exact ⟨_,dW hf (.ref d 1 _ _ b.size (grownCap w b.size 0 el) (fi d _ _) (by rw [Nat.one_mul];exact pD) uG s7 (by unfold aV;rw [lY];simp only [P7,Nat.one_mul])) bY⟩
   ·cases hr
  ·cases hr
 ·cases hr
end
section
variable {S0:bm} {w0 w w':World} {n:Nat} {s:AS} {a:Act} {φ:Nat->Option Nat}
theorem aL.stored (h:aL S0 w0 n [] s a w φ) {id:Nat} {r r':Row} {g:Nat} (hr:look s.H id=some r) (cm:φ id=some g) (he:r'.e=r.e) (hlen:r'.cells.length=r.cells.length) (Iy:r'.full=r.full)
  {cur cur':Array Value} {te:TypeId} {fr:Nat×Nat} (hg:w.heap[g]?=some (.cells cur te fr)) (ja:w'.heap[g]?=some (.cells cur' te fr)) (dw:cur'.size=cur.size)
  (Ij:w'.os=w.os) (uA:w'.tape=w.tape) (uB:w'.output=w.output) (Rv:w'.heap.size=w.heap.size) (hb:∀b,b≠g->w'.heap[b]?=w.heap[b]?)
  (hc:∀(j:Nat) u x,cur'[j]?=some u->r'.cells[j]?=some x->bg (az s.H φ) (aN S0 w φ []) w r'.pure u x):aL S0 w0 n [] ⟨s.F,(id,r')::cS s.H id⟩ a w' φ:=by
 have hI:∀i x,az s.H φ i=some x->az ((id,r')::cS s.H id) φ i=some x:=by
  intro i x hi
  obtain ⟨e,m,b⟩:=x
  obtain ⟨q,hl,h1,h2,h3⟩:=aQ hi
  by_cases cV:id=i
  ·subst cV
   rw [hr] at hl;injection hl with hl;subst hl
   rw [br (r:=r') (by rw [aE,if_pos rfl]),he,hlen,h1,h2,h3]
  ·rw [br (r:=q) (by rw [aE,if_neg cV,bI,if_neg cV,hl]),h1,h2,h3]
 have hF:∀b,aN S0 w φ [] b->aN S0 w' φ [] b∧w'.heap[b]?=w.heap[b]?:=fun b kL=>⟨⟨by rw [Rv];exact kL.1,kL.2⟩,hb b fun e=>kL.2.2.1 id (by rw [cm,e])⟩
 have hL:∀i e m g',az s.H φ i=some (e,m,some g')->aV w' g'=aV w g':=by
  intro i e m g' _
  unfold aV
  by_cases e:g'=g
  ·subst e;rw [hg,ja];exact dw
  ·rw [hb g' e]
 have aP:=h.rows id r hr
 unfold bN at aP
 rw [cm] at aP
 obtain ⟨VO,V2,Wp,AR,gw,hle,mS,-⟩:=aP
 rw [hg] at AR
 injection AR with AR
 injection AR with e1 e2 e3
 subst e1;subst e2;subst e3
 refine ⟨h.jP,h.jS,⟨Ij.trans h.cX.os,uA.trans h.cX.tape,uB.trans h.cX.output,by rw [Rv];exact h.cX.size,fun k hk hx=>?_,h.cX.g0,h.cX.gx⟩,fun i av hi=>(h.cC i av hi).mono hI hF hL,fun i q hq=>?_,fun i hi=>?_,h.inj,fun i g' ja=>by rw [Rv];exact h.cW i g' ja,h.apart,h.new⟩
 ·rw [hb k (fun e=>by rcases (h.cW id g cm).1.2 with h|h;omega;rw [e] at hx;exact hx h)]
  exact h.cX.block k hk hx
 ·rw [aE] at hq
  by_cases cV:id=i
  ·rw [if_pos cV] at hq;injection hq with hq;subst hq;subst cV
   rw [cm]
   refine ⟨cur',te,fr,ja,fun j hj=>gw j ah,by rw [hlen,dw];exact hle,fun hf=>by rw [hlen,dw];exact mS (by rw [←Iy];exact hf),fun j u x hu hx=>?_⟩
   have:=hc j u x hu hx
   unfold bg at this ⊢
   cases hp:r'.pure with
   | true=>rw [hp] at this;exact this.mono hF
   | false=>rw [hp] at this;exact this.mono hI hF hL
  ·rw [if_neg cV,bI,if_neg cV] at hq
   have gL:=h.rows i q hq
   unfold bN at gL ⊢
   cases Cs:φ i with
   | none=>rw [Cs] at gL;exact gL
   | some g2 =>
    rw [Cs] at gL
    obtain ⟨Dv,T_,VL,PU,GC,Cx,R8,Oz⟩:=gL
    have RO:g2≠g:=fun e=>cV (h.inj id i g cm (by rw [Cs,e]))
    refine ⟨Dv,T_,VL,(hb g2 RO).trans PU,GC,Cx,R8,fun j u x hu hx=>?_⟩
    have:=Oz j u x hu hx
    unfold bg at this ⊢
    cases hp:q.pure with
    | true=>rw [hp] at this;exact this.mono hF
    | false=>rw [hp] at this;exact this.mono hI hF hL
 ·rw [aE] at hi
  by_cases cV:id=i
  ·rw [if_pos cV] at hi;cases hi
  ·rw [if_neg cV,bI,if_neg cV] at hi
   exact h.only i hi
end
def DA:AV->Bool
 | .val u=>u.oneCell'
 | .nil=>true
 | .sl _ _=>true
 | .ptr _ _=>true
 | .ref _=>true
 | .pre _ _=>true
 | .js _ _ _=>true
 | .addr _ _=>true
 | _=>false
def qt:List AV->Bool
 | []=>true
 | x::l=>match DA x with|true=>qt l|false=>false
theorem Dz {I:Info} {S:Nat->Prop} {w:World} {v:Value} {x:AV} (hd:Den I S w v x) (hp:DA x=true):v.oneCell'=true:=by
 cases hd with
 | rep h=>cases h<;>first|exact hp|rfl|cases hp
 | agg=>cases hp
 | bq=>cases hp
 | dead=>cases hp
 | _=>rfl
theorem vj:∀ {l:List AV} {j:Nat} {x:AV},qt l=true->l[j]?=some x->DA x=true
 | [],j,x,_,h=>by simp at h
 | y::l,j,x,hp,h=>by
  simp only [qt] at hp
  split at hp
  ·rename_i hy
   cases j with
   | zero=>simp at h;subst h;exact hy
   | succ j=>exact vj hp (by simpa using h)
  ·cases hp
def setCells (cells:List AV) (off:Nat) (l:List AV):List AV:=match l with| [x]=>cells.set off x|l=>cells.take off++l++cells.drop (off+l.length)
theorem ni (cells:List AV) (off:Nat) (l:List AV) (h:off+l.length≤cells.length):setCells cells off l=cells.take off++l++cells.drop (off+l.length):=by
 unfold setCells
 split
 ·rename_i x
  simp only [List.length_cons,List.length_nil] at h ⊢
  rw [List.set_eq_take_append_cons_drop,if_pos ah]
  simp
 ·rfl
theorem wa {α:Type} (l m:List α) (off j:Nat) (h:off+m.length≤l.length):(l.take off++m++l.drop (off+m.length))[j]?=if off≤j∧j<off+m.length then m[j-off]? else l[j]?:=by
 by_cases h1:j<off
 ·rw [List.getElem?_append_left (by simp only [List.length_append,List.length_take];omega),List.getElem?_append_left (by simp only [List.length_take];omega),List.getElem?_take,if_pos h1,if_neg ah]
 ·by_cases h2:j<off+m.length
  ·rw [List.getElem?_append_left (by simp only [List.length_append,List.length_take];omega),List.getElem?_append_right (by simp only [List.length_take];omega),if_pos ah]
   congr 1;simp only [List.length_take];omega
  ·rw [List.getElem?_append_right (by simp only [List.length_append,List.length_take];omega),List.getElem?_drop,if_neg ah]
   congr 1;simp only [List.length_append,List.length_take];omega
theorem oU {α:Type} (l m:List α) (off:Nat) (h:off+m.length≤l.length):(l.take off++m++l.drop (off+m.length)).length=l.length:=by
 simp only [List.length_append,List.length_take,List.length_drop];omega
def Fa (s:AS) (id:Nat) (r:Row):AS:=⟨s.F,(id,r)::cS s.H id⟩
def uX (P:Program) (s:AS) (t:TypeId) (x:Operand) (cs:List AV) (h:Hint):Option (AS×List Prop) :=
 match bp s x with
 | .addr id off=>(match look s.H id,eh P t with
  | some r,some z=>(match r.pure with
   | true=>some (Fa s id ⟨r.e,true,r.full,(named h (r.cells.take off++cs++r.cells.drop (off+cs.length))).1⟩,(named h (r.cells.take off++cs++r.cells.drop (off+cs.length))).2++ [cs.length=z,∀x∈cs,ic x=true,off+cs.length≤r.cells.length])
   | false=>none)
  | _,_=>none)
 | _=>none
def kO (P:Program) (s:AS) (t:TypeId) (x:Operand) (y:Operand) (h:Hint):Option (AS×List Prop) :=
 match bp s x with
 | .addr id off=>(match look s.H id,eh P t with
  | some r,some z=>(match r.pure with
   | true=>(match gb s (p9 (bp s y)) with
    | some s1=>(match look s1.H id,lg (bp s1 y),bp s1 x with
     | some r1,some l,.addr pd Ch=>(match Nat.beq id pd,Nat.beq l.length z,dY l,r1.pure with
      | true,true,true,true=>some (Fa s1 id ⟨r1.e,true,r1.full,(named h (setCells r1.cells Ch l)).1⟩,(named h (setCells r1.cells Ch l)).2++ [Ch+l.length≤r1.cells.length])
      | _,_,_,_=>none)
     | _,_,_=>none)
    | none=>none)
   | false=>(match lg (bp s y) with
    | some l=>(match Nat.beq l.length z,qt l with
     | true,true=>some (Fa s id ⟨r.e,false,r.full,(named h (setCells r.cells off l)).1⟩,(named h (setCells r.cells off l)).2++ [off+l.length≤r.cells.length])
     | _,_=>none)
    | none=>none))
  | _,_=>none)
 | _=>none
def yh (P:Program) (s:AS) (t:TypeId) (x:Operand) (y:Operand) (h:Hint):Option (AS×List Prop) :=
 match bp s y,h.k with
 | .arr cs,1=>uX P s t x cs h
 | _,_=>kO P s t x y h
section
variable {P:Program} {n:Nat} {s:AS} {o:Oper} {h:Hint} {q:AS×List Prop}
theorem sw {w:World} {t:TypeId} {g off z:Nat} {v:Value} {vs:List Value} {cur:Array Value} {te:TypeId} {fr:Nat×Nat} (hz:eh P t=some z) (hv:v.cells=vs.toArray) (hl:vs.length=z) (hg:w.heap[g]?=some (.cells cur te fr)) (hf:∀j,j<cur.size-> ¬(fr.1≤j∧j<fr.2)) (mF:off+vs.length≤cur.size) (h1:∀u∈vs,u.oneCell'=true) :
  (storeVar t ⟨g,off,none⟩ v).run P w= .ok () (w.setRow g (cur.toList.take off++vs++cur.toList.drop (off+vs.length)).toArray):=by
 have dP:=cY P g te fr cur.size hf off vs 0 cur w hg ah rfl h1
 simp only [Nat.add_zero] at dP
 unfold storeVar
 have AH:(sizeOf t).run P w= .ok z w:=run_sizeOf hz
 simp only [Sem.run_bind,AH,Result.andThen_ok,Sem.run_ite,hv]
 rw [if_neg (by simp [hl])]
 simp [dP]
theorem pL {w:World} {g:Nat} {cur cur':Array Value} {te:TypeId} {fr:Nat×Nat} (hg:w.heap[g]?=some (.cells cur te fr)):(w.setRow g cur').heap[g]?=some (.cells cur' te fr)∧(w.setRow g cur').heap.size=w.heap.size∧ ∀b,b≠g->(w.setRow g cur').heap[b]?=w.heap[b]? :=
 ⟨setRow_heap w g cur cur' te fr hg,by simp,fun b hb=>setRow_other w g b _ hb⟩
theorem aL.written {S0:bm} {w0 w:World} {a:Act} {φ:Nat->Option Nat} (hs:aL S0 w0 n [] s a w φ) {id off g:Nat} {r:Row} {l cells:List AV} {vs:List Value} {cur:Array Value} {te:TypeId} {fr:Nat×Nat} (hr:look s.H id=some r) (cm:φ id=some g) (hg:w.heap[g]?=some (.cells cur te fr)) (hle:r.cells.length≤cur.size)
  (hold:∀(j:Nat) u x,cur[j]?=some u->r.cells[j]?=some x->bg (az s.H φ) (aN S0 w φ []) w r.pure u x) (hlen:vs.length=l.length) (mF:off+l.length≤r.cells.length) (dM:cells=setCells r.cells off l)
  (lY:∀(j:Nat) u x,vs[j]?=some u->l[j]?=some x->bg (az s.H φ) (aN S0 w φ []) w r.pure u x) :
  aL S0 w0 n [] (Fa s id ⟨r.e,r.pure,r.full,cells⟩) a (w.setRow g (cur.toList.take off++vs++cur.toList.drop (off+vs.length)).toArray) φ:=by
 obtain ⟨f1,f2,f3⟩:=pL (cur':=(cur.toList.take off++vs++cur.toList.drop (off+vs.length)).toArray) hg
 have gl:cur.toList.length=cur.size:=rfl
 rw [ni _ _ _ mF] at dM
 refine hs.stored (r':=⟨r.e,r.pure,r.full,cells⟩) hr cm rfl (by rw [dM,oU _ _ _ mF]) rfl hg f1 (by simp only [List.size_toArray];rw [oU _ _ _ ah];rfl) rfl rfl rfl f2 f3 fun j u x hu hx=>?_
 simp only [List.getElem?_toArray] at hu
 rw [wa _ _ _ _ ah] at hu
 simp only [dM] at hx
 rw [wa _ _ _ _ mF] at hx
 by_cases hj:off≤j∧j<off+l.length
 ·rw [if_pos hj] at hx
  rw [if_pos ah] at hu
  exact lY _ u x hu hx
 ·rw [if_neg hj] at hx
  rw [if_neg ah] at hu
  exact hold j u x (by simpa using hu) hx
theorem BZ {S0:bm} {w0 w:World} {a:Act} {φ:Nat->Option Nat} (hs:aL S0 w0 n [] s a w φ) {id g:Nat} {r:Row} (hr:look s.H id=some r) (cm:φ id=some g):∃cur te fr,w.heap[g]?=some (.cells cur te fr)∧(∀j,j<cur.size-> ¬(fr.1≤j∧j<fr.2))∧r.cells.length≤cur.size∧ ∀(j:Nat) u x,cur[j]?=some u->r.cells[j]?=some x->bg (az s.H φ) (aN S0 w φ []) w r.pure u x:=by
 have aP:=hs.rows id r hr
 unfold bN at aP
 rw [cm] at aP
 obtain ⟨cur,te,fr,hg,hf,hl,-,hc⟩:=aP
 exact ⟨cur,te,fr,hg,hf,hl,hc⟩
theorem tH {S0:bm} {w0 w:World} {a:Act} {φ:Nat->Option Nat} {Q:Exit->Act->World->Prop} (hs:aL S0 w0 n [] s a w φ) {t:TypeId} {x y:Operand} (ho:o.op= .store t x y) (hd:o.dst=none) {id off z:Nat} {r:Row} {l cells:List AV} (hx:bp s x= .addr id off) (hr:look s.H id=some r) (hz:eh P t=some z) (hl:lg (bp s y)=some l) (V_:l.length=z) (mF:off+l.length≤r.cells.length) (dM:cells=setCells r.cells off l)
  (hp:(r.pure=true∧ ∀x∈l,ic x=true)∨(r.pure=false∧qt l=true)):o.wp P a w (fun a' w'=>iu S0 w0 n (Fa s id ⟨r.e,r.pure,r.full,cells⟩) a' w') Q:=by
 have Ti:=hs.bp x
 rw [hx] at Ti
 obtain ⟨e,m,g,hi,hv⟩:=jO Ti
 obtain ⟨r',ij,-,-,cm⟩:=aQ hi
 obtain ⟨cur,te,fr,hg,hf,hle,hold⟩:=BZ hs hr cm
 obtain ⟨vs,Ut,xR,dU⟩:=l8 (hs.bp y) hl
 have uC:∀u∈vs,u.oneCell'=true:=by
  intro u hu
  obtain ⟨j,hj⟩:=List.getElem?_of_mem hu
  have M8:j<l.length:=by have:=(List.getElem?_eq_some_iff.1 hj).1;omega
  have RX:l[j]?=some l[j]:=List.getElem?_eq_getElem M8
  rcases hp with ⟨-,hp⟩|⟨-,hp⟩
  ·exact (eH (dU j u _ hj RX) (hp _ (List.getElem_mem M8))).2
  ·exact Dz (dU j u _ hj RX) (vj hp RX)
 have cp:=sw (P:=P) (w:=w) (t:=t) (g:=g) (off:=off) hz Ut ah hg hf ah uC
 unfold Oper.wp
 have:(execOp a.eval o).run P w= .ok .skip (w.setRow g (cur.toList.take off++vs++cur.toList.drop (off+vs.length)).toArray):=by
  unfold execOp
  simp [ho,Instr.storeAt,Instr.sureAddr,hv,cp]
 rw [this]
 show iu S0 w0 n _ (a.put o.dst undef) _
 rw [hd]
 refine ⟨φ,hs.written hr cm hg hle hold xR mF dM fun j u x hu hx=>?_⟩
 unfold bg
 rcases hp with ⟨L1,hp⟩|⟨L1,hp⟩<;>rw [L1]
 ·exact (eH (dU j u x hu hx) (hp x (List.mem_of_getElem? hx))).1
 ·exact dU j u x hu hx
theorem Bf {t:TypeId} {x y:Operand} {cs:List AV} (ho:o.op= .store t x y) (hd:o.dst=none) (hy:bp s y= .arr cs) (hr:uX P s t x cs h=some q):ma P n s o q.1 q.2:=by
 intro hC S0 w0 a w Q ⟨φ,hs⟩
 unfold uX at hr
 split at hr
 ·rename_i id off hx
  split at hr
  ·rename_i r z aP hz
   split at hr
   ·rename_i qc
    injection hr with hr;subst hr
    obtain ⟨hn,hlen,hp,mF,-⟩:=g_ hC
    have:=tH (Q:=Q) hs ho hd hx aP hz (l:=cs) (by rw [hy];rfl) hlen mF (hn.trans (ni _ _ _ mF).symm) (.inl ⟨qc,hp⟩)
    rw [qc] at this
    exact this
   ·cases hr
  ·cases hr
 ·cases hr
theorem sd {t:TypeId} {x y:Operand} (ho:o.op= .store t x y) (hd:o.dst=none) (hr:kO P s t x y h=some q):ma P n s o q.1 q.2:=by
 intro hC S0 w0 a w Q ⟨Q7,lH⟩
 unfold kO at hr
 split at hr
 ·rename_i id off hx
  split at hr
  ·rename_i r z aP hz
   split at hr
   ·rename_i qc
    split at hr
    ·rename_i s1 Ib
     obtain ⟨φ,hs⟩:=fL _ _ _ _ Ib lH
     split at hr
     ·rename_i r1 l pd Ch Pz hl Ru
      split at hr
      ·rename_i h1 h2 h3 h4
       injection hr with hr;subst hr
       have h1:=Nat.eq_of_beq_eq_true h1
       have h2:=Nat.eq_of_beq_eq_true h2
       subst h1
       obtain ⟨hn,mF,-⟩:=g_ hC
       have:=tH (Q:=Q) hs ho hd Ru Pz hz hl h2 mF hn (.inl ⟨h4,fun x hx=>by obtain ⟨j,hj⟩:=List.getElem?_of_mem hx;exact iz h3 hj⟩)
       rw [h4] at this
       exact this
      ·cases hr
     ·cases hr
    ·cases hr
   ·rename_i qc
    split at hr
    ·rename_i l hl
     split at hr
     ·rename_i h2 h3
      injection hr with hr;subst hr
      have h2:=Nat.eq_of_beq_eq_true h2
      obtain ⟨hn,mF,-⟩:=g_ hC
      have:=tH (Q:=Q) lH ho hd hx aP hz hl h2 mF hn (.inr ⟨qc,h3⟩)
      rw [qc] at this
      exact this
     ·cases hr
    ·cases hr
  ·cases hr
 ·cases hr
theorem CO {t:TypeId} {x y:Operand} (ho:o.op= .store t x y) (hd:o.dst=none) (hr:yh P s t x y h=some q):ma P n s o q.1 q.2:=by
 unfold yh at hr
 split at hr
 ·rename_i cs hy _;exact Bf ho hd hy hr
 ·exact sd ho hd hr
def tK (s:AS):AV->Option (Nat×List AV)
 | .nil=>some (0,[])
 | .sl e row=>some (e,row)
 | .ref id=>(match look s.H id with|some ⟨e,true,_,cells⟩=>some (e,cells)|_=>none)
 | .pre id l=>(match look s.H id with|some ⟨e,true,_,cells⟩=>some (e,cells.take l)|_=>none)
 | .js id o l=>(match look s.H id with|some ⟨e,true,_,cells⟩=>some (e,(cells.drop o).take l)|_=>none)
 | _=>none
theorem MD {S0:bm} {w0 w:World} {a:Act} {φ:Nat->Option Nat} (hs:aL S0 w0 n [] s a w φ) {v:Value} {x:AV} (hx:Den (az s.H φ) (aN S0 w φ []) w v x) {e:Nat} {row:List AV} (he:tK s x=some (e,row)) :
  ∃(A:Option Addr) (m c:Nat) (us:List Value),v= .slice A m c∧row.length=e*m∧us.length=row.length∧(0<row.length-> ∃ad,A=some ad∧ ∀(j:Nat) u,us[j]?=some u->w.cell? (ad.add j)=some u)∧(∀(j:Nat) u x,us[j]?=some u->row[j]?=some x->cz (aN S0 w φ []) w u x)∧m≤maxLen:=by
 have LC:∀(id g:Nat) (r:Row),look s.H id=some r->r.pure=true->φ id=some g-> ∃us:List Value,r.cells.length≤us.length∧(∀(j:Nat) u,us[j]?=some u->w.cell? ⟨g,j,none⟩=some u)∧ ∀(j:Nat) u x,us[j]?=some u->r.cells[j]?=some x->cz (aN S0 w φ []) w u x:=by
  intro id g r hr hp hg
  obtain ⟨cur,te,fr,ja,hf,hl,hc⟩:=kA hs hr hp hg
  exact ⟨cur.toList,hl,fun j u hu=>by rw [cell_of_row w g _ cur te fr ja];simpa using hu,fun j u x hu hx=>hc j u x (by simpa using hu) hx⟩
 cases hx with
 | rep h =>
  cases h with
  | nil=>injection he with he;injection he with h1 h2;subst h1;subst h2;exact ⟨none,0,0,[],rfl,rfl,rfl,fun h=>(by simp at h),fun j u x hu=>(by simp at hu),by simp⟩
  | sl A n c e' us Fc hl hn hc hm ha h =>
   injection he with he;injection he with h1 h2;subst h1;subst h2
   exact ⟨A,n,c,us,rfl,hn,hl,fun h0=>by obtain ⟨ad,e1,_,e2⟩:=ha h0;exact ⟨ad,e1,e2⟩,h,ah⟩
  | _=>cases he
 | agg=>cases he
 | bq=>cases he
 | dead=>cases he
 | addr=>cases he
 | ref id e' m g l c hi hm hc hx bY =>
  obtain ⟨r,hr,h1,h2,cm⟩:=aQ hi
  obtain ⟨re,rp,rf,rc⟩:=r
  simp only [tK,hr] at he
  split at he
  ·rename_i heq
   injection heq with heq;cases heq
   injection he with he;injection he with h3 h4;subst h3;subst h4
   obtain ⟨us,Pp,Ia,LZ⟩:=LC id g _ hr rfl cm
   simp only at h1 h2 Pp LZ
   exact ⟨_,l,c,us.take rc.length,rfl,by rw [h2,hm,h1],by rw [List.length_take];omega,fun _=>⟨_,rfl,fun j u hu=>by rw [fa];exact Ia j u (bX _ _ _ _ hu)⟩,fun j u x hu hx=>LZ j u x (bX _ _ _ _ hu) hx,ah⟩
  ·cases he
 | cD id e' hi =>
  obtain ⟨r,hr,h1,h2,cm⟩:=aQ hi
  obtain ⟨re,rp,rf,rc⟩:=r
  simp only [tK,hr] at he
  split at he
  ·rename_i heq
   injection heq with heq;cases heq
   injection he with he;injection he with h3 h4;subst h3;subst h4
   simp only at h2
   have:rc= []:=List.length_eq_zero_iff.1 h2
   subst this
   exact ⟨none,0,0,[],rfl,rfl,rfl,fun h=>(by simp at h),fun j u x hu=>(by simp at hu),by simp⟩
  ·cases he
 | pre id k e' m g l c hi hn hm hc hx bY =>
  obtain ⟨r,hr,h1,h2,cm⟩:=aQ hi
  obtain ⟨re,rp,rf,rc⟩:=r
  simp only [tK,hr] at he
  split at he
  ·rename_i heq
   injection heq with heq;cases heq
   injection he with he;injection he with h3 h4;subst h3;subst h4
   obtain ⟨us,Pp,Ia,LZ⟩:=LC id g _ hr rfl cm
   simp only at h1 h2 Pp LZ
   have lB:(rc.take k).length=k:=by rw [List.length_take];omega
   exact ⟨_,l,c,us.take k,rfl,by rw [lB,hn,h1],by rw [lB,List.length_take];omega,fun _=>⟨_,rfl,fun j u hu=>by rw [fa];exact Ia j u (bX _ _ _ _ hu)⟩,fun j u x hu hx=>LZ j u x (bX _ _ _ _ hu) (bX _ _ _ _ hx),ah⟩
  ·cases he
 | dC id e' hi =>
  obtain ⟨r,hr,h1,h2,cm⟩:=aQ hi
  obtain ⟨re,rp,rf,rc⟩:=r
  simp only [tK,hr] at he
  split at he
  ·rename_i heq
   injection heq with heq;cases heq
   injection he with he;injection he with h3 h4;subst h3;subst h4
   simp only [List.take_zero]
   exact ⟨none,0,0,[],rfl,rfl,rfl,fun h=>(by simp at h),fun j u x hu=>(by simp at hu),by simp⟩
  ·cases he
 | js id off k e' m l c g A hi hn hm hc hx ha =>
  obtain ⟨r,hr,h1,h2,cm⟩:=aQ hi
  obtain ⟨re,rp,rf,rc⟩:=r
  simp only [tK,hr] at he
  split at he
  ·rename_i heq
   injection heq with heq;cases heq
   injection he with he;injection he with h3 h4;subst h3;subst h4
   simp only at h1 h2
   have lB:((rc.drop off).take k).length=k:=by rw [List.length_take,List.length_drop];omega
   by_cases hk:0<k
   ·obtain ⟨b,hb,hA⟩:=ha hk
    rw [hb] at cm
    obtain ⟨us,Pp,Ia,LZ⟩:=LC id b _ hr rfl cm
    simp only at Pp LZ
    exact ⟨A,l,c,(us.drop off).take k,rfl,by rw [lB,hn,h1],by rw [lB,List.length_take,List.length_drop];omega,fun _=>⟨_,hA,fun j u hu=>by rw [l_];exact Ia _ u (bT _ _ _ _ _ hu)⟩,fun j u x hu hx=>LZ _ u x (bT _ _ _ _ _ hu) (bT _ _ _ _ _ hx),ah⟩
   ·have:(rc.drop off).take k= []:=List.length_eq_zero_iff.1 ah
    rw [this]
    exact ⟨A,l,c,[],rfl,by rw [h1];simp;omega,rfl,fun h=>(by simp at h),fun j u x hu=>(by simp at hu),ah⟩
  ·cases he
end
section
variable {P:Program} {w:World}
structure nS (P:Program) (w:World) (xt:TypeId) (e:Nat) (xv:Value) (m:Nat) (news:List Value):Prop where
 ty:(∃e2,P.underlying xt=some (.slice e2))∨P.underlying xt=some .string
 len:∀w',(Builtin.lenOf xv).run P w'= .ok m w'
 part:∀(w':World) (k:Nat),w'.heap=w.heap->k≤m->(Builtin.firstCells e k xv).run P w'= .ok (news.take (k*e)).toArray w'
 hl:news.length=m*e
 one:∀u∈news,u.oneCell'=true
theorem nS.cells {xt:TypeId} {e m:Nat} {xv:Value} {news:List Value} (h:nS P w xt e xv m news) (w':World) (hw:w'.heap=w.heap):(Builtin.firstCells e m xv).run P w'= .ok news.toArray w':=by
 have:=h.part w' m hw (Nat.le_refl _)
 rw [List.take_of_length_le (by rw [h.hl];exact Nat.le_refl _)] at this
 exact this
theorem pK {xt e2:TypeId} (ht:P.underlying xt=some (.slice e2)) {A:Option Addr} {m c e:Nat} {news:List Value} (hl:news.length=m*e) (hc:0<news.length-> ∃ad,A=some ad∧ ∀(j:Nat) u,news[j]?=some u->w.cell? (ad.add j)=some u) (h1:∀u∈news,u.oneCell'=true) :
  nS P w xt e (.slice A m c) m news:=by
 refine ⟨.inl ⟨e2,ht⟩,fun w'=>rfl,fun w' k hw hk=>?_,hl,h1⟩
 have bu:∀p:Addr,w'.cell? p=w.cell? p:=fun p=>ks (by rw [hw])
 have iG:(news.take (k*e)).length=k*e:=by
  have:=Nat.mul_le_mul_right e hk
  rw [List.length_take];omega
 by_cases h0:0<news.length
 ·obtain ⟨ad,rfl,dM⟩:=hc h0
  exact run_firstCells_some w' e k ad m c _ iG (fun j u hu=>(bu _).trans (dM j u (bX _ _ _ _ hu)))
 ·have hn:news= []:=List.length_eq_zero_iff.1 ah
  subst hn
  cases A with
  | none=>rw [run_firstCells_none];simp
  | some ad=>exact run_firstCells_some w' e k ad m c _ iG (fun j u hu=>by simp at hu)
theorem vu {xt:TypeId} (ht:P.underlying xt=some .string) (b:ByteArray):nS P w xt 1 (.string b) b.size (sr b.data.toList):=by
 refine ⟨.inr ht,fun w'=>rfl,fun w' k _ hk=>?_,by rw [gg,Nat.mul_one];rfl,EP _⟩
 simp only [Builtin.firstCells,Sem.run_pure,Nat.mul_one]
 congr 1
 apply Array.ext'
 simp [sr,bv,←List.map_take]
structure JV (w w':World) (v':Value) (g0:Option Nat) (e N:Nat) (cells:List Value) (g':Nat):Prop where
 slice:∃c',v'= .slice (some ⟨g',0,none⟩) N c'∧N≤c'∧c'≤maxLen∧aV w' g'=e*c'
 LC:∃cur te fr,w'.heap[g']?=some (.cells cur te fr)∧(∀j,j<cur.size-> ¬(fr.1≤j∧j<fr.2))∧cells.length≤cur.size∧cur.toList.take cells.length=cells
 len:cells.length=e*N
 os:w'.os=w.os
 tape:w'.tape=w.tape
 output:w'.output=w.output
 size:w.heap.size≤w'.heap.size
 other:∀b,b<w.heap.size->some b≠g0->w'.heap[b]?=w.heap[b]?
 place:(g0=some g'∧g'<w.heap.size)∨(g'=w.heap.size∧w.heap.size<w'.heap.size)
theorem tq (z:Value) (e k:Nat) (hz:z.cells.size=e):(Builtin.zeroCells z.cells k).size=k*e:=by unfold Builtin.zeroCells;simp [hz]
theorem rI {el:TypeId} {z:Value} {e l m old:Nat} {olds news:List Value} (g0:Option Nat) (hz:z.cells.size=e) (TC:olds.length=l*e) (L7:news.length=m*e) (hm:l+m≤maxLen) :
  JV w (w.drew.alloc (.cells (olds.toArray++news.toArray++Builtin.zeroCells z.cells (grownCap w (l+m) old el-(l+m))) el)) (.slice (some ⟨w.heap.size,0,none⟩) (l+m) (grownCap w (l+m) old el)) g0 e (l+m) (olds++news) w.heap.size:=by
 have uG:=grownCap_ge w (l+m) old el
 have s7:grownCap w (l+m) old el≤maxLen:=grownCap_le_maxLen w _ old el hm
 have lY:(w.drew.alloc (.cells (olds.toArray++news.toArray++Builtin.zeroCells z.cells (grownCap w (l+m) old el-(l+m))) el)).heap[w.heap.size]?=some (.cells (olds.toArray++news.toArray++Builtin.zeroCells z.cells (grownCap w (l+m) old el-(l+m))) el (0,0)):=heap_alloc_new w.drew _
 have dw:(olds.toArray++news.toArray++Builtin.zeroCells z.cells (grownCap w (l+m) old el-(l+m))).size=e*grownCap w (l+m) old el:=by
  simp only [Array.size_append,List.size_toArray,tq z e _ hz,TC,L7]
  rw [←Nat.add_mul,←Nat.add_mul,Nat.mul_comm]
  congr 1;omega
 have hlen:(olds++news).length=e*(l+m):=by rw [List.length_append,TC,L7,←Nat.add_mul,Nat.mul_comm]
 refine ⟨⟨_,rfl,uG,s7,by unfold aV;rw [lY];exact dw⟩,⟨_,_,_,lY,by simp,by rw [dw,hlen];exact Nat.mul_le_mul_left _ uG,?_⟩,hlen,rfl,rfl,rfl,by simp,fun b hb _=>Below.heap_alloc w.drew _ b hb,.inr ⟨rfl,by simp⟩⟩
 simp only [Array.toList_append,List.append_assoc]
 rw [←List.append_assoc]
 exact List.take_left
theorem Bv (A B:List Value) (C:Array Value):A.toArray++(B.toArray++C)=(A++B).toArray++C:=by
 apply Array.ext'
 simp
theorem xE {e l m bytes q:Nat} (he:0<e) (hq:q=e*(l+m)) (hb:q*bytes≤e*140737488355328):(l+m)*bytes≤140737488355328:=by
 rw [hq,Nat.mul_assoc] at hb
 exact Nat.le_of_mul_le_mul_left hb he
theorem uf {l m bytes:Nat} (xY:0<bytes) (hb:(l+m)*bytes≤140737488355328):l+m≤maxLen∧((l+m:Nat):Int)≤9223372036854775807:=by
 have:l+m≤(l+m)*bytes:=Nat.le_mul_of_pos_right _ xY
 unfold maxLen;omega
theorem Hh {t xt ty el:TypeId} {i:TypeInfo} {z xv:Value} {m:Nat} {news:List Value} (ht:P.underlying t=some (.slice el)) (hi:P.info? el=some i) (hz:i.zero=some z) (uz:z.cells.size=i.size) (xY:0<i.bytes)
  (gu:nS P w xt i.size xv m news) (hb:m*i.bytes≤140737488355328) :
  (m=0∧(Builtin.append_ #[t,xt] ty #[.slice none 0 0,xv]).run P w= .ok (.slice none 0 0) w)∨ ∃v' w',(Builtin.append_ #[t,xt] ty #[.slice none 0 0,xv]).run P w= .ok v' w'∧JV w w' v' none i.size m news w.heap.size:=by
 have hf:=gu.cells w.drew rfl
 by_cases h0:m=0
 ·left
  refine ⟨h0,?_⟩
  have Ma:=gu.cells w rfl
  have hn:news= []:=List.length_eq_zero_iff.1 (by rw [gu.hl,h0];simp)
  subst h0;subst hn
  rcases gu.ty with ⟨e2,hu⟩|hu<;>simp [Builtin.append_,run_underlying ht,run_underlying hu,sizeOf,typeInfo,hi,gu.len,Ma]
 ·right
  obtain ⟨FI,Iq⟩:=uf (l:=0) xY (by rw [Nat.zero_add];exact hb)
  rw [Nat.zero_add] at FI
  have Qe:¬(281474976710656<Builtin.nextslicecap m 0*i.bytes):=by rw [nextslicecap_zero ah];omega
  have Qd:¬(9223372036854775807<(m:Int)):=by simp at Iq;omega
  have hA:=rI (w:=w) (el:=el) (old:=0) (olds:=[]) (news:=news) (l:=0) none uz (by simp) gu.hl (by rw [Nat.zero_add];exact FI)
  simp only [Nat.zero_add,List.nil_append] at hA
  refine ⟨_,_,?_,hA⟩
  rcases gu.ty with ⟨e2,hu⟩|hu<;>simp [Builtin.append_,run_underlying ht,run_underlying hu,sizeOf,typeInfo,zeroValue,hi,hz,gu.len,hf,h0,Qe,Qd,Question.forced,run_firstCells_none,newRow,grownCap]
theorem Hg {t xt ty el:TypeId} {i:TypeInfo} {z xv:Value} {m:Nat} {news:List Value} (ht:P.underlying t=some (.slice el)) (hi:P.info? el=some i) (hz:i.zero=some z) (uz:z.cells.size=i.size) (xY:0<i.bytes)
  (gu:nS P w xt i.size xv m news) {g l c:Nat} {cur:Array Value} {te:TypeId} {fr:Nat×Nat} (hg:w.heap[g]?=some (.cells cur te fr)) (gw:∀j,j<cur.size-> ¬(fr.1≤j∧j<fr.2)) (dw:cur.size=i.size*c) (FJ:l≤c) (s7:c≤maxLen) (hb:(l+m)*i.bytes≤140737488355328) :
  ∃v' w' g',(Builtin.append_ #[t,xt] ty #[.slice (some ⟨g,0,none⟩) l c,xv]).run P w= .ok v' w'∧JV w w' v' (some g) i.size (l+m) (cur.toList.take (l*i.size)++news) g':=by
 have Nb:g<w.heap.size:=(Array.getElem?_eq_some_iff.1 hg).1
 have gl:cur.toList.length=cur.size:=rfl
 have hle:l*i.size≤cur.size:=by rw [dw,Nat.mul_comm];exact Nat.mul_le_mul_left _ FJ
 have Im:(cur.toList.take (l*i.size)).length=l*i.size:=by rw [List.length_take];omega
 by_cases mR:l+m≤c
 ·have Ma:=gu.cells w rfl
  have mF:l*i.size+news.length≤cur.size:=by rw [gu.hl,←Nat.add_mul,dw,Nat.mul_comm];exact Nat.mul_le_mul_left _ mR
  have dP:=cY P g te fr cur.size gw (l*i.size) news 0 cur w hg ah rfl gu.one
  simp only [Nat.add_zero] at dP
  obtain ⟨f1,f2,f3⟩:=pL (cur':=(cur.toList.take (l*i.size)++news++cur.toList.drop (l*i.size+news.length)).toArray) hg
  have FF:(cur.toList.take (l*i.size)++news++cur.toList.drop (l*i.size+news.length)).toArray.size=cur.size:=by
   simp only [List.size_toArray];rw [oU _ _ _ ah];rfl
  have hlen:(cur.toList.take (l*i.size)++news).length=i.size*(l+m):=by rw [List.length_append,Im,gu.hl,←Nat.add_mul,Nat.mul_comm]
  refine ⟨.slice (some ⟨g,0,none⟩) (l+m) c,_,g,?_,⟨c,rfl,mR,s7,by unfold aV;rw [f1];simp only;rw [FF,dw]⟩,⟨_,te,fr,f1,fun j hj=>gw j ah,by rw [FF,hlen,dw];exact Nat.mul_le_mul_left _ mR,by simp only;exact List.take_left⟩,hlen,rfl,rfl,rfl,by rw [f2];exact Nat.le_refl _,fun b hb cV=>f3 b fun e=>cV (by rw [e]),.inl ⟨rfl,Nb⟩⟩
  rcases gu.ty with ⟨e2,hu⟩|hu<;>simp [Builtin.append_,run_underlying ht,run_underlying hu,sizeOf,typeInfo,hi,gu.len,mR,Ma,fa,dP]
 ·obtain ⟨FI,Iq⟩:=uf xY hb
  have Qe:¬(281474976710656<Builtin.nextslicecap (l+m) c*i.bytes):=by have:=growslice_fits (need:=l+m) (old:=c) ah hb;omega
  have Qd:¬(9223372036854775807<((l:Int)+(m:Int))):=ah
  have hA:=rI (w:=w) (el:=el) (old:=c) (some g) uz Im gu.hl FI
  have hf:=gu.cells w.drew rfl
  have IA:=run_firstCells_some (P:=P) w.drew i.size l ⟨g,0,none⟩ l c (cur.toList.take (l*i.size)) Im (fun j u hu=>by
   rw [fa]
   have:w.drew.cell? ⟨g,j,none⟩=w.cell? ⟨g,j,none⟩:=ks rfl
   rw [this,cell_of_row w g _ cur te fr hg]
   have:=bX _ _ _ _ hu
   simpa using this)
  refine ⟨_,_,w.heap.size,?_,hA⟩
  rcases gu.ty with ⟨e2,hu⟩|hu<;>simp [Builtin.append_,run_underlying ht,run_underlying hu,sizeOf,typeInfo,zeroValue,hi,hz,gu.len,mR,hf,IA,Qe,Qd,Question.forced,newRow,grownCap]<;>rw [Bv]
theorem Hi {t xt ty el:TypeId} {i:TypeInfo} {z xv:Value} {m:Nat} {news:List Value} (ht:P.underlying t=some (.slice el)) (hi:P.info? el=some i) (hz:i.zero=some z) (uz:z.cells.size=i.size) (xY:0<i.bytes)
  (gu:nS P w xt i.size xv m news) {A:Option Addr} {l:Nat} {us:List Value} (za:us.length=l*i.size) (hc:0<us.length-> ∃ad,A=some ad∧ ∀(j:Nat) u,us[j]?=some u->w.cell? (ad.add j)=some u) (L4:0<m) (hb:(l+m)*i.bytes≤140737488355328) :
  ∃v' w',(Builtin.append_ #[t,xt] ty #[.slice A l l,xv]).run P w= .ok v' w'∧JV w w' v' none i.size (l+m) (us++news) w.heap.size:=by
 have mR:¬(l+m≤l):=ah
 obtain ⟨FI,Iq⟩:=uf xY hb
 have Qe:¬(281474976710656<Builtin.nextslicecap (l+m) l*i.bytes):=by have:=growslice_fits (need:=l+m) (old:=l) ah hb;omega
 have Qd:¬(9223372036854775807<((l:Int)+(m:Int))):=ah
 have hA:=rI (w:=w) (el:=el) (old:=l) none uz za gu.hl FI
 have hf:=gu.cells w.drew rfl
 have IA:(Builtin.firstCells i.size l (.slice A l l)).run P w.drew= .ok us.toArray w.drew:=by
  by_cases h0:0<us.length
  ·obtain ⟨ad,rfl,dM⟩:=hc h0
   exact run_firstCells_some w.drew i.size l ad l l us za (fun j u hu=>(ks (w:=w) (w':=w.drew) rfl).trans (dM j u hu))
  ·have hn:us= []:=List.length_eq_zero_iff.1 ah
   subst hn
   cases A with
   | none=>rw [run_firstCells_none]
   | some ad=>exact run_firstCells_some w.drew i.size l ad l l _ za (fun j u hu=>by simp at hu)
 refine ⟨_,_,?_,hA⟩
 rcases gu.ty with ⟨e2,hu⟩|hu<;>simp [Builtin.append_,run_underlying ht,run_underlying hu,sizeOf,typeInfo,zeroValue,hi,hz,gu.len,mR,hf,IA,Qe,Qd,Question.forced,newRow,grownCap]<;>rw [Bv]
end
section
variable {S0:bm} {w0 w w':World} {n:Nat} {s:AS} {a:Act} {φ:Nat->Option Nat}
theorem pZ (id d:Nat) (h:look s.H d=none):look (ck id s).H d=none:=by
 unfold ck
 rw [cy,bI]
 split
 ·rfl
 ·rw [h];rfl
theorem aL.vn {O:List Nat} {g0:Option Nat} (h:aL S0 w0 n O s a w φ) (hO:O=match g0 with|some g=>[g]|none=>[]) (Su:∀g∈O,w0.heap.size≤g∨S0.X g) (Nu:∀g∈O,g<w.heap.size) {d e N g':Nat} {v':Value} {cells:List Value} (P2:d<1000000000000) (hd:look s.H d=none) (hA:JV w w' v' g0 e N cells g') {row:List AV} (hl:row.length=cells.length)
  (hc:∀(j:Nat) u x,cells[j]?=some u->row[j]?=some x->cz (aN S0 w φ O) w u x) :
  ∃ cB,aL S0 w0 n [] ⟨s.F,(d,⟨e,true,false,row⟩)::s.H⟩ a w' cB∧Den (az ((d,⟨e,true,false,row⟩)::s.H) cB) (aN S0 w' cB []) w' v' (.ref d):=by
 obtain ⟨c',hv,hN,s7,gl⟩:=hA.slice
 obtain ⟨cur,te,fr,hg,hf,hle,L0⟩:=hA.LC
 have hb:∀b,b<w.heap.size->b ∉ O->w'.heap[b]?=w.heap[b]?:=fun b hb hn=>hA.other b hb fun e=>hn (by rw [hO,←e];simp)
 have hF:∀b,aN S0 w φ O b->w'.heap[b]?=w.heap[b]?:=fun b h=>hb b h.1 h.2.1
 have rd:∀(S:Nat->Prop),(∀b,aN S0 w φ O b->S b)-> ∀(j:Nat) u x,cur[j]?=some u->row[j]?=some x->cz S w' u x:=by
  intro S hS j u x hu hx
  have hj:j<cells.length:=by have:=(List.getElem?_eq_some_iff.1 hx).1;omega
  have:cells[j]?=some u:=by
   rw [←L0,List.getElem?_take,if_pos hj];simpa using hu
  exact (hc j u x this hx).mono fun b hb=>⟨hS b hb,hF b hb⟩
 have fin:∀ cB,cB d=some g'->Den (az ((d,⟨e,true,false,row⟩)::s.H) cB) (aN S0 w' cB []) w' v' (.ref d):=by
  intro cB cm
  rw [hv]
  exact .ref d e row.length g' N c' (by rw [br (r:=⟨e,true,false,row⟩) (by rw [aE,if_pos rfl]),cm]) (by rw [hl];exact hA.len) hN s7 gl
 rcases hA.place with ⟨AR,dh⟩|⟨rfl,dh⟩
 ·rw [AR] at hO
  subst hO
  have h2:=h.vX Su hA.os hA.tape hA.output hA.size hb
  have h3:=h2.wY (id:=d) (r:=⟨e,true,false,row⟩) ⟨.inl P2,Su g' (by simp)⟩ (by have:=hA.size;omega) (by simp) hd ⟨cur,te,fr,hg,hf,by simp only [hl];exact hle,fun h=>(by cases h),fun j u x hu hx=>by
   show cz _ _ _ _
   exact rd _ (fun b hb=>⟨by have:=hb.1;have:=hA.size;omega,hb.2⟩) j u x hu hx⟩
  exact ⟨_,h3,fin _ (by unfold fD;rw [if_pos rfl])⟩
 ·have h1:=h.await w.heap.size (Nat.le_refl _)
  have h2:=h1.vX (fun g hg=>by rcases List.mem_cons.1 hg with rfl|hg;exact .inl h.cX.size;exact Su g hg) hA.os hA.tape hA.output hA.size (fun b J4 hn=>hb b J4 fun hm=>hn (by simp [hm]))
  have Up:w.heap.size ∉ O:=fun hm=>Nat.lt_irrefl _ (Nu _ hm)
  have h3:=h2.wY (id:=d) (r:=⟨e,true,false,row⟩) ⟨.inl P2,.inl h.cX.size⟩ dh Up hd ⟨cur,te,fr,hg,hf,by simp only [hl];exact hle,fun h=>(by cases h),fun j u x hu hx=>by
   show cz _ _ _ _
   exact rd _ (fun b hb=>⟨by have:=hb.1;omega,by simp only [List.mem_cons,not_or];exact ⟨by have:=hb.1;omega,hb.2.1⟩,hb.2.2⟩) j u x hu hx⟩
  cases AR:g0 with
  | none =>
   rw [AR] at hO;subst hO
   exact ⟨_,h3,fin _ (by unfold fD;rw [if_pos rfl])⟩
  | some g =>
   rw [AR] at hO;subst hO
   exact ⟨_,h3.uS,fin _ (by unfold fD;rw [if_pos rfl])⟩
end
def cE (row:List AV):Prop:=∀x∈row,ic x=true
theorem fO (l:List UInt8):cE (ag l):=by
 intro x hx;simp only [ag,List.mem_map] at hx;obtain ⟨c,_,rfl⟩:=hx;rfl
theorem pT (l:List UInt64):cE (aj l):=by
 intro x hx;simp only [aj,List.mem_map] at hx;obtain ⟨c,_,rfl⟩:=hx;rfl
theorem Au (l:List Int):cE (ax l):=by
 intro x hx;simp only [ax,List.mem_map] at hx;obtain ⟨c,_,rfl⟩:=hx;rfl
theorem dJ:∀ {l:List AV},dY l=true->cE l
 | [],_=>by intro x hx;simp at hx
 | y::l,h=>by
  simp only [dY] at h
  split at h
  ·rename_i hy
   intro x hx
   rcases List.mem_cons.1 hx with rfl|hx
   ·exact hy
   ·exact dJ h x hx
  ·cases h
def xB (h:Hint) (row:List AV):Option (List Prop):=match h.b with|true=>(match dY row with|true=>some []|false=>none)|false=>some [cE row]
theorem wA {h:Hint} {row:List AV} {C D:List Prop} (hp:xB h row=some C) (hC:bx (C++D)):cE row∧bx D:=by
 unfold xB at hp
 split at hp
 ·split at hp
  ·rename_i h1;cases hp;exact ⟨dJ h1,hC⟩
  ·cases hp
 ·cases hp;exact hC
def qL (P:Program) (s:AS) (xt:TypeId) (z:Nat) (x:AV):Option (List AV) :=
 match P.underlying xt with
 | some (.slice _)=>(match tK s x with|some (e,row)=>(match Nat.beq e z with|true=>some row|false=>(match x with| .nil=>some []|_=>none))|none=>none)
 | some .string=>(match x,z with| .val (.string b),1=>some (ag b.data.toList)|_,_=>none)
 | _=>none
def qm (s:AS) (e:Nat):AV->Option (List AV×AS)
 | .nil=>some ([],s)
 | .ref id=>(match look s.H id with|some ⟨e',true,_,cells⟩=>(match Nat.beq e e' with|true=>some (cells,ck id s)|false=>none)|_=>none)
 | .pre id l=>(match look s.H id with|some ⟨e',true,_,cells⟩=>(match Nat.beq e e' with|true=>some (cells.take l,ck id s)|false=>none)|_=>none)
 | .pg e' row=>(match Nat.beq e e' with|true=>some (row,s)|false=>none)
 | _=>none
def SG (x:AV) (row:List AV):List Prop:=match x with| .pg _ _=>[0<row.length]|_=>[]
def kR (P:Program) (n:Nat) (s:AS) (d t xt:Nat) (x y:AV) (h:Hint):Option (AS×List Prop) :=
 match P.underlying t with
 | some (.slice el)=>(match P.info? el with
  | some i=>(match i.zero,i.size,i.bytes with
   | some zero,z+1,b+1=>(match Nat.beq zero.cells.size (z+1),qm s (z+1) x,qL P s xt (z+1) y with
    | true,some (cells,s1),some row=>(match xB h row,gE n ⟨(ck d s1).F,(d,⟨z+1,true,false,(named h (cells++row)).1⟩)::(ck d s1).H⟩ (some d) (.ref d) with
     | some C,some s'=>some (s',(named h (cells++row)).2++(C++(((cells.length+row.length)*(b+1)≤(z+1)*140737488355328)::SG x row)))
     | _,_=>none)
    | _,_,_=>none)
   | _,_,_=>none)
  | none=>none)
 | _=>none
section
variable {P:Program} {n:Nat} {s:AS} {o:Oper} {h:Hint} {q:AS×List Prop}
theorem D8 {S:Nat->Prop} {w:World} {v:Value} {x:AV} (h:cz S w v x) (hp:ic x=true):v.oneCell'=true:=(eH (I:=fun _=>none) (.rep h) hp).2
theorem v_ {S0:bm} {w0 w:World} {a:Act} {φ:Nat->Option Nat} (hs:aL S0 w0 n [] s a w φ) {xt:TypeId} {v:Value} {x:AV} (hx:Den (az s.H φ) (aN S0 w φ []) w v x) {z:Nat} {row:List AV} (he:qL P s xt z x=some row) (uC:cE row) :
  ∃m us,nS P w xt z v m us∧us.length=row.length∧ ∀(j:Nat) u x,us[j]?=some u->row[j]?=some x->cz (aN S0 w φ []) w u x:=by
 unfold qL at he
 split at he
 ·rename_i e2 hu
  split at he
  ·rename_i e Fc gu
   split at he
   ·rename_i hb
    have hb:=Nat.eq_of_beq_eq_true hb
    cases he
    subst hb
    obtain ⟨A,m,c,us,rfl,h1,h2,h3,h4,h5⟩:=MD hs hx gu
    have ho:∀u∈us,u.oneCell'=true:=by
     intro u hu
     obtain ⟨j,hj⟩:=List.getElem?_of_mem hu
     have M8:j<row.length:=by have:=(List.getElem?_eq_some_iff.1 hj).1;omega
     exact D8 (h4 j u _ hj (List.getElem?_eq_getElem M8)) (uC _ (List.getElem_mem M8))
    exact ⟨m,us,pK hu (by rw [h2,h1,Nat.mul_comm]) (fun h0=>h3 ah) ho,h2,h4⟩
   ·split at he
    ·cases he
     cases hx with|rep hx=>cases hx with|nil=>exact ⟨0,[],pK hu (by simp) (fun h=>by simp at h) (by simp),rfl,fun j u x hu=>by simp at hu⟩
    ·cases he
  ·cases he
 ·rename_i hu
  split at he
  ·rename_i b
   cases he
   have hv:=bL hx
   subst hv
   refine ⟨b.size,sr b.data.toList,vu hu b,by rw [gg,aC],fun j u x hu hx=>?_⟩
   have hj:j<b.data.toList.length:=by have:=(List.getElem?_eq_some_iff.1 hu).1;rw [gg] at this;exact this
   rw [NU _ _ hj] at hu
   injection hu with hu;subst hu
   have e2:(ag b.data.toList)[j]?=some (.val (.int .u8 (bv (b.data.toList.getD j 0)))):=by
    simp only [ag,List.getElem?_map,List.getElem?_eq_getElem hj,Option.map_some,List.getD_eq_getElem?_getD,Option.getD_some]
   rw [e2] at hx
   injection hx with hx;subst hx
   exact .val _
  ·cases he
 ·cases he
theorem Jl {S0:bm} {w0 w:World} {a:Act} {φ:Nat->Option Nat} (hs:aL S0 w0 n [] s a w φ) {v:Value} {x:AV} (hx:Den (az s.H φ) (aN S0 w φ []) w v x) {e:Nat} {cells:List AV} {s1:AS} (he:qm s e x=some (cells,s1)) :
  (v= .slice none 0 0∧cells= []∧ ∃ iH,aL S0 w0 n [] s1 a w iH∧ ∀b,aN S0 w φ [] b->aN S0 w iH [] b) ∨
  (∃(g l c:Nat) (iH:Nat->Option Nat),v= .slice (some ⟨g,0,none⟩) l c∧aL S0 w0 n [g] s1 a w iH∧(∀b,aN S0 w φ [] b->aN S0 w iH [g] b)∧l≤c∧c≤maxLen∧cells.length=e*l∧(w0.heap.size≤g∨S0.X g)∧g<w.heap.size ∧
   ∃cur te fr,w.heap[g]?=some (.cells cur te fr)∧(∀j,j<cur.size-> ¬(fr.1≤j∧j<fr.2))∧cur.size=e*c∧ ∀(j:Nat) u x,cur[j]?=some u->cells[j]?=some x->cz (aN S0 w φ []) w u x) ∨
  ∃(A:Option Addr) (l:Nat) (us:List Value),(∃e',x= .pg e' cells)∧v= .slice A l l∧s1=s∧us.length=cells.length∧cells.length=e*l∧(0<us.length-> ∃ad,A=some ad∧ ∀(j:Nat) u,us[j]?=some u->w.cell? (ad.add j)=some u) ∧
   ∀(j:Nat) u x,us[j]?=some u->cells[j]?=some x->cz (aN S0 w φ []) w u x:=by
 have own:∀(id g l c m:Nat) (e':Nat) (fu:Bool) (rc:List AV),look s.H id=some ⟨e',true,fu,rc⟩->az s.H φ id=some (e',m,some g)->e=e'->l≤c->c≤maxLen->aV w g=e'*c->cells.length=e*l->(∀(j:Nat) x,cells[j]?=some x->rc[j]?=some x)->s1=ck id s->v= .slice (some ⟨g,0,none⟩) l c ->
   ∃(g l c:Nat) (iH:Nat->Option Nat),v= .slice (some ⟨g,0,none⟩) l c∧aL S0 w0 n [g] s1 a w iH∧(∀b,aN S0 w φ [] b->aN S0 w iH [g] b)∧l≤c∧c≤maxLen∧cells.length=e*l∧(w0.heap.size≤g∨S0.X g)∧g<w.heap.size ∧
   ∃cur te fr,w.heap[g]?=some (.cells cur te fr)∧(∀j,j<cur.size-> ¬(fr.1≤j∧j<fr.2))∧cur.size=e*c∧ ∀(j:Nat) u x,cur[j]?=some u->cells[j]?=some x->cz (aN S0 w φ []) w u x:=by
  intro id g l c m e' fu rc hr hi Sa FJ s7 gl hlen Ct gU hv
  subst gU;subst Sa
  obtain ⟨r',ij,-,-,cm⟩:=aQ hi
  obtain ⟨cur,te,fr,hg,hf,hle,hc⟩:=kA hs hr rfl cm
  refine ⟨g,l,c,erase φ id,hv,hs.jw id [g] (by rw [cm]),fun b hb=>⟨hb.1,by simp;exact fun e=>hb.2.2.1 id (by rw [cm,e]),fun i hi=>?_,hb.2.2.2⟩,FJ,s7,hlen,(hs.cW id g cm).1.2,(hs.cW id g cm).2,cur,te,fr,hg,hf,?_,fun j u x hu hx=>hc j u x hu (Ct j x hx)⟩
  ·unfold erase at hi
   split at hi
   ·cases hi
   ·exact hb.2.2.1 i hi
  ·unfold aV at gl;rw [hg] at gl;exact gl
 have none_:∀id,φ id=none->s1=ck id s->v= .slice none 0 0->cells= []->v= .slice none 0 0∧cells= []∧ ∃ iH,aL S0 w0 n [] s1 a w iH∧ ∀b,aN S0 w φ [] b->aN S0 w iH [] b:=by
  intro id cm gU hv hc
  subst gU
  refine ⟨hv,hc,erase φ id,hs.jw id [] (by rw [cm]),fun b hb=>⟨hb.1,by simp,fun i hi=>?_,hb.2.2.2⟩⟩
  unfold erase at hi
  split at hi
  ·cases hi
  ·exact hb.2.2.1 i hi
 cases hx with
 | rep hx =>
  cases hx with
  | nil=>cases he;exact .inl ⟨rfl,rfl,φ,hs,fun _ h=>h⟩
  | pg A k e' us row hl hn hm ha h =>
   simp only [qm] at he
   split at he
   ·rename_i hb
    have hb:=Nat.eq_of_beq_eq_true hb
    cases he
    exact .inr (.inr ⟨A,k,us,⟨e',rfl⟩,rfl,rfl,hl,by rw [hn,hb],fun h0=>by
     obtain ⟨ad,h1,-,h2⟩:=ha ah
     exact ⟨ad,h1,h2⟩,h⟩)
   ·cases he
  | _=>cases he
 | agg=>cases he
 | bq=>cases he
 | dead=>cases he
 | addr=>cases he
 | js=>cases he
 | ref id e' m g l c hi hm hc hx bY =>
  obtain ⟨r,hr,h1,h2,cm⟩:=aQ hi
  obtain ⟨re,rp,rf,rc⟩:=r
  simp only [qm,hr] at he
  split at he
  ·rename_i heq
   injection heq with heq;cases heq
   split at he
   ·rename_i hb
    have hb:=Nat.eq_of_beq_eq_true hb
    cases he
    simp only at h1 h2
    subst h1
    exact .inr (.inl (own id g l c m _ _ _ hr hi hb hc hx bY (by rw [h2,hm,hb]) (fun _ _ h=>h) rfl rfl))
   ·cases he
  ·cases he
 | cD id e' hi =>
  obtain ⟨r,hr,h1,h2,cm⟩:=aQ hi
  obtain ⟨re,rp,rf,rc⟩:=r
  simp only [qm,hr] at he
  split at he
  ·rename_i heq
   injection heq with heq;cases heq
   split at he
   ·cases he
    simp only at h2
    exact .inl (none_ id cm rfl rfl (List.length_eq_zero_iff.1 h2))
   ·cases he
  ·cases he
 | pre id k e' m g l c hi hn hm hc hx bY =>
  obtain ⟨r,hr,h1,h2,cm⟩:=aQ hi
  obtain ⟨re,rp,rf,rc⟩:=r
  simp only [qm,hr] at he
  split at he
  ·rename_i heq
   injection heq with heq;cases heq
   split at he
   ·rename_i hb
    have hb:=Nat.eq_of_beq_eq_true hb
    cases he
    simp only at h1 h2
    subst h1
    exact .inr (.inl (own id g l c m _ _ _ hr hi hb hc hx bY (by rw [List.length_take,h2,hb,←hn];omega) (fun j x h=>bX _ _ _ _ h) rfl rfl))
   ·cases he
  ·cases he
 | dC id e' hi =>
  obtain ⟨r,hr,h1,h2,cm⟩:=aQ hi
  obtain ⟨re,rp,rf,rc⟩:=r
  simp only [qm,hr] at he
  split at he
  ·rename_i heq
   injection heq with heq;cases heq
   split at he
   ·cases he
    exact .inl (none_ id cm rfl rfl (by simp))
   ·cases he
  ·cases he
theorem sg {t xt d:Nat} {x y:Operand} (ho:o.op= .call ⟨.builtin .append,⟨[x,y]⟩,⟨[t,xt]⟩⟩) (hd:o.dst=some d) (hr:kR P n s d t xt (bp s x) (bp s y) h=some q):ma P n s o q.1 q.2:=by
 intro hC S0 w0 a w Q ⟨φ,hs⟩
 unfold kR at hr
 split at hr
 ·rename_i el hu
  split at hr
  ·rename_i i hi
   split at hr
   ·rename_i zero z b hz dw xY
    split at hr
    ·rename_i cells s1 row uz lC gu
     split at hr
     ·rename_i C s' oP eW
      injection hr with hr;subst hr
      obtain ⟨hn,EG⟩:=g_ hC
      obtain ⟨PD,m9,mS⟩:=wA oP EG
      have uz:=Nat.eq_of_beq_eq_true uz
      replace dw:i.size=z+1:=dw
      replace xY:i.bytes=b+1:=xY
      obtain ⟨m,us,FG,za,bZ⟩:=v_ (P:=P) hs (hs.bp y) gu PD
      have aP:row.length=(z+1)*m:=by rw [←za,FG.hl,Nat.mul_comm]
      rw [hn] at eW
      have wp:∀v' w',(Builtin.append_ #[t,xt] o.type #[a.eval x,a.eval y]).run P w= .ok v' w'->iu S0 w0 n s' (a.put o.dst v') w'->o.wp P a w (fun a' w'=>iu S0 w0 n s' a' w') Q:=by
       intro v' w' cp fZ
       refine cT (v:=v') (w':=w') ?_ fZ
       unfold execOp
       simp [ho,resolve,invoke,builtin,cp]
      have zZ:∀s1:AS,look (ck d s1).H d=none:=fun s1=>dn d
      rcases Jl hs (hs.bp x) lC with ⟨hv,Vc,iH,gU,hF⟩|⟨g,l,c,iH,hv,gU,hF,FJ,s7,gl,AR,FL,cur,te,fr,hg,hf,wM,hold⟩|⟨A,l,ol,⟨e',Un⟩,hv,QJ,zb,gl,VD,hold⟩
      ·subst Vc
       simp only [List.nil_append,List.length_nil,Nat.zero_add] at eW m9
       have zc:m*i.bytes≤140737488355328:=by
        have:=xE (l:=0) (m:=m) ah (by rw [Nat.zero_add];exact aP) m9
        rw [Nat.zero_add] at this;rw [xY];exact this
       have mX:=gU.mi d
       rcases Hh (ty:=o.type) hu hi hz (by rw [uz,dw]) ah (by rw [dw];exact FG) zc with ⟨hm,cp⟩|⟨v',w',cp,hA⟩
       ·have UC:row= []:=List.length_eq_zero_iff.1 (by rw [aP,hm];simp)
        subst UC
        refine wp (.slice none 0 0) w (by rw [hv];exact cp) ⟨erase iH d,?_⟩
        rw [hd]
        exact dW (mX.rJ (id:=d) (r:=⟨z+1,true,false,[]⟩) (zZ s1) rfl) (.cD d (z+1) (by rw [br (r:=⟨z+1,true,false,[]⟩) (by rw [aE,if_pos rfl]),mX.only d (zZ s1)];rfl)) eW
       ·rw [dw] at hA
        obtain ⟨j6,h3,h4⟩:=mX.vn (g0:=none) rfl (by simp) (by simp) (iS eW) (zZ s1) hA (row:=row) za.symm (fun j u x hu hx=>(bZ j u x hu hx).mono fun b hb=>⟨⟨hb.1,by simp,fun i hi=>by
         unfold erase at hi
         split at hi
         ·cases hi
         ·exact (hF b hb).2.2.1 i hi,hb.2.2.2⟩,rfl⟩)
        refine wp _ _ (by rw [hv];exact cp) ⟨j6,?_⟩
        rw [hd]
        exact dW h3 h4 eW
      ·have L0:(cur.toList.take (l*(z+1))).length=cells.length:=by
        have K9:cur.toList.length=cur.size:=rfl
        rw [List.length_take,gl,K9,wM,Nat.mul_comm]
        exact Nat.min_eq_left (Nat.mul_le_mul_left _ FJ)
       have zc:(l+m)*i.bytes≤140737488355328:=by
        rw [xY];exact xE ah (by rw [gl,aP,←Nat.mul_add]) m9
       have mX:aL S0 w0 n [g] (ck d s1) a w (erase iH d):=by
        cases Pg:iH d with
        | none=>exact gU.jw d [g] (by rw [Pg])
        | some gd=>exact (gU.jw d [gd,g] (by rw [Pg])).uS
       obtain ⟨v',w',g',cp,hA⟩:=Hg (ty:=o.type) hu hi hz (by rw [uz,dw]) ah (by rw [dw];exact FG) hg hf (by rw [dw];exact wM) FJ s7 zc
       rw [dw] at hA
       have Sy:∀b,aN S0 w φ [] b->aN S0 w (erase iH d) [g] b:=fun b hb=>⟨hb.1,(hF b hb).2.1,fun i hi=>by
        unfold erase at hi
        split at hi
        ·cases hi
        ·exact (hF b hb).2.2.1 i hi,hb.2.2.2⟩
       obtain ⟨j6,h3,h4⟩:=mX.vn (g0:=some g) rfl (by simpa using AR) (by simpa using FL) (iS eW) (zZ s1) hA (row:=cells++row) (by rw [List.length_append,List.length_append,L0,za]) (fun j u x hu hx=>by
        refine cz.mono (fun b hb=>⟨Sy b hb,rfl⟩) (?_:cz (aN S0 w φ []) w u x)
        by_cases hj:j<cells.length
        ·rw [List.getElem?_append_left ah] at hu
         rw [List.getElem?_append_left hj] at hx
         have:=bX _ _ _ _ hu
         exact hold j u x (by simpa using this) hx
        ·rw [List.getElem?_append_right ah] at hu
         rw [List.getElem?_append_right ah] at hx
         rw [L0] at hu
         exact bZ _ u x hu hx)
       refine wp _ _ (by rw [hv];exact cp) ⟨j6,?_⟩
       rw [hd]
       exact dW h3 h4 eW
      ·subst QJ
       rw [Un] at mS
       have L4:0<m:=by
        have h0:0<row.length:=mS.1
        rw [aP] at h0
        exact Nat.pos_of_mul_pos_left h0
       have zc:(l+m)*i.bytes≤140737488355328:=by
        rw [xY];exact xE ah (by rw [gl,aP,←Nat.mul_add]) m9
       have mX:=hs.mi d
       obtain ⟨v',w',cp,hA⟩:=Hi (ty:=o.type) hu hi hz (by rw [uz,dw]) ah (by rw [dw];exact FG) (by rw [zb,gl,dw,Nat.mul_comm]) VD L4 zc
       rw [dw] at hA
       have Sy:∀b,aN S0 w φ [] b->aN S0 w (erase φ d) [] b:=fun b hb=>⟨hb.1,by simp,fun i hi=>by
        unfold erase at hi
        split at hi
        ·cases hi
        ·exact hb.2.2.1 i hi,hb.2.2.2⟩
       obtain ⟨j6,h3,h4⟩:=mX.vn (g0:=none) rfl (by simp) (by simp) (iS eW) (zZ _) hA (row:=cells++row) (by rw [List.length_append,List.length_append,zb,za]) (fun j u x hu hx=>by
        refine cz.mono (fun b hb=>⟨Sy b hb,rfl⟩) (?_:cz (aN S0 w φ []) w u x)
        by_cases hj:j<cells.length
        ·rw [List.getElem?_append_left ah] at hu
         rw [List.getElem?_append_left hj] at hx
         exact hold j u x hu hx
        ·rw [List.getElem?_append_right ah] at hu
         rw [List.getElem?_append_right ah] at hx
         rw [zb] at hu
         exact bZ _ u x hu hx)
       refine wp _ _ (by rw [hv];exact cp) ⟨j6,?_⟩
       rw [hd]
       exact dW h3 h4 eW
     ·cases hr
    ·cases hr
   ·cases hr
  ·cases hr
 ·cases hr
def Jv (s:AS):AV->Option (Nat×Nat×Nat)
 | .ref id=>(match look s.H id with|some r=>some (id,0,r.cells.length)|none=>none)
 | .pre id l=>some (id,0,l)
 | .js id o l=>some (id,o,l)
 | _=>none
def C7 (P:Program) (n:Nat) (s:AS) (d:Option Nat) (t xt:Nat) (x y:AV) (h:Hint):Option (AS×List Prop) :=
 match P.underlying t with
 | some (.slice el)=>(match eh P el,Jv s x with
  | some (z+1),some (id,off,l)=>(match look s.H id,qL P s xt (z+1) y with
   | some ⟨e,true,fu,cells⟩,some row=>(match Nat.beq e (z+1),xB h row,gE n (Fa s id ⟨e,true,fu,(named h (setCells cells off (row.take (cU h.k (z+1))))).1⟩) d (.val (.int .i64 h.k)) with
    | true,some C,some s'=>some (s',(named h (setCells cells off (row.take (cU h.k (z+1))))).2++(C++ [min row.length l=cU h.k (z+1),0<l]))
    | _,_,_=>none)
   | _,_=>none)
  | _,_=>none)
 | _=>none
theorem Ga {t xt:Nat} {x y:Operand} (ho:o.op= .call ⟨.builtin .copy,⟨[x,y]⟩,⟨[t,xt]⟩⟩) (hr:C7 P n s o.dst t xt (bp s x) (bp s y) h=some q):ma P n s o q.1 q.2:=by
 intro hC S0 w0 a w Q ⟨φ,hs⟩
 unfold C7 at hr
 split at hr
 ·rename_i el hu
  split at hr
  ·rename_i z id off l dw J1
   split at hr
   ·rename_i e fu cells row aP gu
    split at hr
    ·rename_i C s' he oP eW
     injection hr with hr;subst hr
     have he:=Nat.eq_of_beq_eq_true he
     obtain ⟨hn,EG⟩:=g_ hC
     obtain ⟨PD,Cw,ze,-⟩:=wA oP EG
     obtain ⟨m,us,FG,za,bZ⟩:=v_ (P:=P) hs (hs.bp y) gu PD
     rw [bw] at Cw
     have Gy:row.length=(z+1)*m:=by rw [←za,FG.hl,Nat.mul_comm]
     have hI:=br (φ:=φ) aP
     have hx:=hs.bp x
     have lC:∃(g dl c:Nat),a.eval x= .slice (some ⟨g,off,none⟩) dl c∧φ id=some g∧l=(z+1)*dl∧off+l≤cells.length:=by
      generalize a.eval x=V at hx
      unfold Jv at J1
      split at J1
      ·rename_i pd Ol
       rw [Ol] at hx
       split at J1
       ·rename_i r' ij
        cases J1
        rw [aP] at ij;injection ij with ij;subst ij
        cases hx with
        | rep h=>cases h
        | ref _ e' m' g l' c hi hm hc hx bY =>
         rw [hI] at hi;injection hi with hi;injection hi with h1 hi;injection hi with h2 h3
         simp only at h1 h2 ⊢
         exact ⟨g,l',c,rfl,h3,by rw [h2,hm,←h1,he],ah⟩
        | cD _ e' hi =>
         rw [hI] at hi;injection hi with hi;injection hi with h1 hi;injection hi with h2 h3
         simp only at h2 ze;omega
       ·cases J1
      ·rename_i pd l' Ol
       rw [Ol] at hx
       cases J1
       cases hx with
       | rep h=>cases h
       | pre _ _ e' m' g l' c hi sF hm hc hx bY =>
        rw [hI] at hi;injection hi with hi;injection hi with h1 hi;injection hi with h2 h3
        simp only at h1 h2 ⊢
        exact ⟨g,l',c,rfl,h3,by rw [sF,←h1,he],ah⟩
       | dC _ e' hi=>omega
      ·rename_i pd o' l' Ol
       rw [Ol] at hx
       cases J1
       cases hx with
       | rep h=>cases h
       | js _ _ _ e' m' l' c g A hi sF hm hc hx ha =>
        rw [hI] at hi;injection hi with hi;injection hi with h1 hi;injection hi with h2 h3
        obtain ⟨b,hb,rfl⟩:=ha ze
        simp only at h1 h2 ⊢
        exact ⟨b,l',c,rfl,by rw [h3,hb],by rw [sF,←h1,he],ah⟩
      ·cases J1
     obtain ⟨g,dl,c,hv,cm,hl,mF⟩:=lC
     obtain ⟨cur,te,fr,hg,hf,hle,hold⟩:=BZ hs aP cm
     have UQ:cells.length≤cur.size:=hle
     have QR:min m dl=h.k:=by
      rw [Gy,hl,Nat.mul_comm h.k,Nat.mul_min_mul_left] at Cw
      exact Nat.eq_of_mul_eq_mul_left ah Cw
     have iG:h.k*(z+1)≤l:=ah
     have Wb:h.k*(z+1)≤row.length:=ah
     have AK:(row.take (cU h.k (z+1))).length=h.k*(z+1):=by rw [bw,List.length_take];omega
     have Tl:(us.take (h.k*(z+1))).length=h.k*(z+1):=by rw [List.length_take];omega
     have dM:(Builtin.firstCells (z+1) h.k (a.eval y)).run P w= .ok (us.take (h.k*(z+1))).toArray w:=FG.part w h.k rfl ah
     have uC:∀u∈us.take (h.k*(z+1)),u.oneCell'=true:=fun u hu=>FG.one u (List.mem_of_mem_take hu)
     have dP:=cY P g te fr cur.size hf off (us.take (h.k*(z+1))) 0 cur w hg (by rw [Tl];omega) rfl uC
     simp only [Nat.add_zero] at dP
     have fZ:=hs.written (off:=off) (l:=row.take (cU h.k (z+1))) (vs:=us.take (h.k*(z+1))) aP cm hg hle hold (by rw [AK,Tl]) (by rw [AK];simp only;omega) hn (fun j u x hu hx=>by
      show cz _ _ _ _
      exact bZ j u x (bX _ _ _ _ hu) (bX _ _ _ _ hx))
     have RD:(sizeOf el).run P w= .ok (z+1) w:=run_sizeOf dw
     refine cT (v:=.int .i64 h.k) (w':=w.setRow g (cur.toList.take off++us.take (h.k*(z+1))++cur.toList.drop (off+(us.take (h.k*(z+1))).length)).toArray) ?_ ⟨φ,dW fZ (.rep (.val _)) eW⟩
     have KY:Nat.min m dl=h.k:=QR
     unfold execOp
     simp [ho,resolve,invoke,builtin,Builtin.copy_,run_underlying hu,hv,FG.len,KY,RD,dM,dP,goInt]
    ·cases hr
   ·cases hr
  ·cases hr
 ·cases hr
end
inductive h_ (S:Nat->Prop) (w:World):Value->AV->List Nat->Prop
 | rep {v:Value} {x:AV} (h:cz S w v x):h_ S w v x []
 | nil (e:Nat):h_ S w (.slice none 0 0) (.own e []) []
 | own (g l c e:Nat) (row:List AV) (cur:Array Value) (te:TypeId) (fr:Nat×Nat) (hg:w.heap[g]?=some (.cells cur te fr)) (hf:∀j,j<cur.size-> ¬(fr.1≤j∧j<fr.2)) (hl:row.length=e*l) (hc:l≤c) (hm:c≤maxLen) (hs:cur.size=e*c)
   (h:∀(j:Nat) u x,cur[j]?=some u->row[j]?=some x->cz S w u x):h_ S w (.slice (some ⟨g,0,none⟩) l c) (.own e row) [g]
 | box (g:Nat) (row:List AV) (cur:Array Value) (te:TypeId) (fr:Nat×Nat) (hg:w.heap[g]?=some (.cells cur te fr)) (hf:∀j,j<cur.size-> ¬(fr.1≤j∧j<fr.2)) (hs:cur.size=row.length)
   (h:∀(j:Nat) u x,cur[j]?=some u->row[j]?=some x->cz S w u x):h_ S w (.pointer (some ⟨g,0,none⟩)) (.box row) [g]
inductive kW (R:Value->AV->List Nat->Prop):List Value->List AV->List Nat->Prop
 | nil:kW R [] [] []
 | cons {v:Value} {x:AV} {vs:List Value} {xs:List AV} {O1 O2:List Nat} (h:R v x O1) (t:kW R vs xs O2):kW R (v::vs) (x::xs) (O1++O2)
def nU (S:Nat->Prop) (w:World) (v:Value) (x:AV) (O:List Nat):Prop:=h_ S w v x O∨ ∃vs cs,v= .agg (List.toArray vs)∧x= .agg cs∧kW (h_ S w) vs cs O
def sP (S:Nat->Prop) (w:World) (v:Value) (x:AV) (O:List Nat):Prop:=nU S w v x O∨ ∃vs cs,v= .tuple (List.toArray vs)∧x= .bq cs∧kW (nU S w) vs cs O
theorem kW.imp {R R':Value->AV->List Nat->Prop} (hR:∀v x O,R v x O->R' v x O) {vs:List Value} {xs:List AV} {O:List Nat} (h:kW R vs xs O):kW R' vs xs O:=by
 induction h with
 | nil=>exact .nil
 | cons h _ ih=>exact .cons (hR _ _ _ h) ih
section
variable {S S':Nat->Prop} {w:World}
theorem h_.mono (hS:∀b,S b->S' b) {v:Value} {x:AV} {O:List Nat} (h:h_ S w v x O):h_ S' w v x O:=by
 cases h with
 | rep h=>exact .rep (h.mono fun b hb=>⟨hS b hb,rfl⟩)
 | nil e=>exact .nil e
 | own g l c e row cur te fr hg hf hl hc hm hs h=>exact .own g l c e row cur te fr hg hf hl hc hm hs fun j u x hu hx=>(h j u x hu hx).mono fun b hb=>⟨hS b hb,rfl⟩
 | box g row cur te fr hg hf hs h=>exact .box g row cur te fr hg hf hs fun j u x hu hx=>(h j u x hu hx).mono fun b hb=>⟨hS b hb,rfl⟩
theorem nU.mono (hS:∀b,S b->S' b) {v:Value} {x:AV} {O:List Nat} (h:nU S w v x O):nU S' w v x O:=by
 rcases h with h|⟨vs,cs,h1,h2,h3⟩
 ·exact .inl (h.mono hS)
 ·exact .inr ⟨vs,cs,h1,h2,h3.imp fun _ _ _ h=>h.mono hS⟩
theorem sP.mono (hS:∀b,S b->S' b) {v:Value} {x:AV} {O:List Nat} (h:sP S w v x O):sP S' w v x O:=by
 rcases h with h|⟨vs,cs,h1,h2,h3⟩
 ·exact .inl (h.mono hS)
 ·exact .inr ⟨vs,cs,h1,h2,h3.imp fun _ _ _ h=>h.mono hS⟩
end
def bK (P:Program) (f:FuncId) (args:List AV) (r:AV):Prop :=
 ∀(w:World) (S:Nat->Prop) (vs:List Value),Good w->(∀b,S b->b<w.heap.size)->vs.length=args.length->(∀(j:Nat) v x,vs[j]?=some v->args[j]?=some x->cz S w v x) ->
  Calls P f vs.toArray w fun e w'=>∃v O,e= .returned v∧Below w.heap.size w w'∧O.Nodup∧(∀g∈O,w.heap.size≤g∧g<w'.heap.size)∧sP (fun b=>S b∨(w.heap.size≤b∧b<w'.heap.size∧b ∉ O)) w' v r O
def lj (row:List AV):Prop:=∀x∈row,∃v,x= .val v
theorem aR (l:List UInt8):lj (ag l):=by
 intro x hx;simp only [ag,List.mem_map] at hx;obtain ⟨c,_,rfl⟩:=hx;exact ⟨_,rfl⟩
theorem gm (l:List UInt64):lj (aj l):=by
 intro x hx;simp only [aj,List.mem_map] at hx;obtain ⟨c,_,rfl⟩:=hx;exact ⟨_,rfl⟩
theorem vV (l:List Int):lj (ax l):=by
 intro x hx;simp only [ax,List.mem_map] at hx;obtain ⟨c,_,rfl⟩:=hx;exact ⟨_,rfl⟩
def wR:AV->Option (List Prop)
 | .val _=>some []
 | .nil=>some []
 | .own _ row=>some [lj row]
 | .box row=>some [lj row]
 | _=>none
def qg (f:AV->Option (List Prop)):List AV->Option (List Prop)
 | []=>some []
 | x::l=>match f x,qg f l with|some a,some b=>some (a++b)|_,_=>none
def uU:AV->Option (List Prop)
 | .agg cs=>qg wR cs
 | x=>wR x
def flat:AV->Option (List Prop)
 | .bq cs=>qg uU cs
 | x=>uU x
theorem bQ {C D:List Prop}:bx (C++D)↔bx C∧bx D:=by
 induction C with
 | nil=>simp [bx]
 | cons p C ih=>simp only [List.cons_append,bx,ih,and_assoc]
section
variable {S S':Nat->Prop} {w:World}
theorem uV {v:Value} {x:AV} {O:List Nat} {C:List Prop} (hf:wR x=some C) (hC:bx C) (h:h_ S w v x O):h_ S' w v x O:=by
 cases h with
 | rep h=>cases h with
  | val v=>exact .rep (.val v)
  | nil=>exact .rep .nil
  | _=>cases hf
 | nil e=>exact .nil e
 | own g l c e row cur te fr hg gw hl hc hm hs h =>
  refine .own g l c e row cur te fr hg gw hl hc hm hs fun j u x hu hx=>?_
  have hv:lj row:=by injection hf with hf;subst hf;exact hC.1
  obtain ⟨v',rfl⟩:=hv x (List.mem_of_getElem? hx)
  have:=h j u _ hu hx
  cases this
  exact .val _
 | box g row cur te fr hg gw hs h =>
  refine .box g row cur te fr hg gw hs fun j u x hu hx=>?_
  have hv:lj row:=by injection hf with hf;subst hf;exact hC.1
  obtain ⟨v',rfl⟩:=hv x (List.mem_of_getElem? hx)
  have:=h j u _ hu hx
  cases this
  exact .val _
theorem Bd {R R':Value->AV->List Nat->Prop} {f:AV->Option (List Prop)} (hR:∀v x O C,f x=some C->bx C->R v x O->R' v x O) {vs:List Value} {xs:List AV} {O:List Nat} (h:kW R vs xs O):∀C,qg f xs=some C->bx C->kW R' vs xs O:=by
 induction h with
 | nil=>intro _ _ _;exact .nil
 | cons h _ ih =>
  intro C hf hC
  simp only [qg] at hf
  split at hf
  ·rename_i a b ha hb
   cases hf
   obtain ⟨h1,h2⟩:=bQ.1 hC
   exact .cons (hR _ _ _ _ ha h1 h) (ih b hb h2)
  ·cases hf
theorem uT {v:Value} {x:AV} {O:List Nat} {C:List Prop} (hf:uU x=some C) (hC:bx C) (h:nU S w v x O):nU S' w v x O:=by
 rcases h with h|⟨vs,cs,h1,rfl,h3⟩
 ·by_cases hx:∃cs,x= .agg cs
  ·obtain ⟨cs,rfl⟩:=hx
   cases h with
   | rep h=>cases h with
    | agg vs _ hl h =>
     right
     refine ⟨vs,cs,rfl,rfl,?_⟩
     have key:∀(vs:List Value) (cs:List AV) (C:List Prop),vs.length=cs.length->(∀(j:Nat) v c,vs[j]?=some v->cs[j]?=some c->cz S w v c)->qg wR cs=some C->bx C->kW (h_ S' w) vs cs []:=by
      intro vs cs
      induction cs generalizing vs with
      | nil=>intro C hl _ _ _;cases vs with|nil=>exact .nil|cons=>simp at hl
      | cons c cs ih =>
       intro C hl hr hf hC
       cases vs with
       | nil=>simp at hl
       | cons v vs =>
        simp only [qg] at hf
        split at hf
        ·rename_i a b ha hb
         cases hf
         obtain ⟨h1,h2⟩:=bQ.1 hC
         exact kW.cons (O1:=[]) (O2:=[]) (uV ha h1 (.rep (hr 0 v c rfl rfl))) (ih vs b (by simpa using hl) (fun j v c hv hc=>hr (j+1) v c (by simpa using hv) (by simpa using hc)) hb h2)
        ·cases hf
     exact key vs cs C hl h hf hC
  ·have:uU x=wR x:=by
    cases x with
    | agg cs=>exact absurd ⟨cs,rfl⟩ hx
    | _=>rfl
   rw [this] at hf
   exact .inl (uV hf hC h)
 ·exact .inr ⟨vs,cs,h1,rfl,Bd (f:=wR) (R':=h_ S' w) (fun _ _ _ _ a b c=>uV a b c) h3 C hf hC⟩
theorem s_ {v:Value} {x:AV} {O:List Nat} {C:List Prop} (hf:flat x=some C) (hC:bx C) (h:sP S w v x O):sP S' w v x O:=by
 rcases h with h|⟨vs,cs,h1,rfl,h3⟩
 ·by_cases hx:∃cs,x= .bq cs
  ·obtain ⟨cs,rfl⟩:=hx
   rcases h with h|⟨vs,J8,h1,h2,h3⟩
   ·cases h with
    | rep h=>cases h with
     | bq vs _ hl h =>
      right
      refine ⟨vs,cs,rfl,rfl,?_⟩
      have key:∀(vs:List Value) (cs:List AV) (C:List Prop),vs.length=cs.length->(∀(j:Nat) v c,vs[j]?=some v->cs[j]?=some c->cz S w v c)->qg uU cs=some C->bx C->kW (nU S' w) vs cs []:=by
       intro vs cs
       induction cs generalizing vs with
       | nil=>intro C hl _ _ _;cases vs with|nil=>exact .nil|cons=>simp at hl
       | cons c cs ih =>
        intro C hl hr hf hC
        cases vs with
        | nil=>simp at hl
        | cons v vs =>
         simp only [qg] at hf
         split at hf
         ·rename_i a b ha hb
          cases hf
          obtain ⟨h1,h2⟩:=bQ.1 hC
          exact kW.cons (O1:=[]) (O2:=[]) (uT ha h1 (.inl (.rep (hr 0 v c rfl rfl)))) (ih vs b (by simpa using hl) (fun j v c hv hc=>hr (j+1) v c (by simpa using hv) (by simpa using hc)) hb h2)
         ·cases hf
      exact key vs cs C hl h hf hC
   ·cases h2
  ·have:flat x=uU x:=by
    cases x with
    | bq cs=>exact absurd ⟨cs,rfl⟩ hx
    | _=>rfl
   rw [this] at hf
   exact .inl (uT hf hC h)
 ·exact .inr ⟨vs,cs,h1,rfl,Bd (f:=uU) (R':=nU S' w) (fun _ _ _ _ a b c=>uT a b c) h3 C hf hC⟩
end
def jr (id:Nat):AV->AV×List (Nat×Row)
 | .own e row=>(.ref id,[(id,⟨e,true,false,row⟩)])
 | .box row=>(.addr id 0,[(id,⟨1,false,true,row⟩)])
 | x=>(x,[])
def gS (f:Nat->AV->AV×List (Nat×Row)) (step:Nat):Nat->List AV->List AV×List (Nat×Row)
 | _,[]=>([],[])
 | id,x::l=>((f id x).1::(gS f step (id+step) l).1,(gS f step (id+step) l).2++(f id x).2)
def w6 (id:Nat):AV->AV×List (Nat×Row)
 | .agg cs=>(.agg (gS jr 100000 (id+100000) cs).1,(gS jr 100000 (id+100000) cs).2)
 | x=>jr id x
def cw (d:Nat):AV->AV×List (Nat×Row)
 | .bq cs=>(.bq (gS w6 1000 (d+1000) cs).1,(gS w6 1000 (d+1000) cs).2)
 | x=>w6 d x
section
variable {S0:bm} {w0 w:World} {n:Nat} {a:Act}
def Ext (S0:bm) (w:World) (s s':AS) (φ cB:Nat->Option Nat) (O O':List Nat):Prop :=
 (∀i y,az s.H φ i=some y->az s'.H cB i=some y)∧(∀b,aN S0 w φ O b->aN S0 w cB O' b)
theorem Ext.den {s s':AS} {φ cB:Nat->Option Nat} {O O':List Nat} (h:Ext S0 w s s' φ cB O O') {v:Value} {x:AV} (hd:Den (az s.H φ) (aN S0 w φ O) w v x):Den (az s'.H cB) (aN S0 w cB O') w v x :=
 hd.mono h.1 (fun b hb=>⟨h.2 b hb,rfl⟩) (fun _ _ _ _ _=>rfl)
theorem Ext.trans {s s1 s2:AS} {φ iH j6:Nat->Option Nat} {O O1 O2:List Nat} (h:Ext S0 w s s1 φ iH O O1) (k:Ext S0 w s1 s2 iH j6 O1 O2):Ext S0 w s s2 φ j6 O O2 :=
 ⟨fun i y hi=>k.1 i y (h.1 i y hi),fun b hb=>k.2 b (h.2 b hb)⟩
def EW (S0:bm) (w0 w:World) (n:Nat) (a:Act) (R:(Nat->Prop)->Value->AV->List Nat->Prop) (f:Nat->AV->AV×List (Nat×Row)):Prop :=
 ∀(s:AS) (φ:Nat->Option Nat) (O1 O:List Nat) (v:Value) (x:AV) (id:Nat),aL S0 w0 n (O1++O) s a w φ->R (aN S0 w φ (O1++O)) v x O1->(O1++O).Nodup->(∀g∈O1,(w0.heap.size≤g∨S0.X g)∧g<w.heap.size)->(∀i∈(f id x).2.map (·.1),look s.H i=none∧i<1000000000000)->((f id x).2.map (·.1)).Nodup ->
  ∃ cB,aL S0 w0 n O ⟨s.F,(f id x).2++s.H⟩ a w cB∧Den (az ((f id x).2++s.H) cB) (aN S0 w cB O) w v (f id x).1∧Ext S0 w s ⟨s.F,(f id x).2++s.H⟩ φ cB (O1++O) O
theorem mg:EW S0 w0 w n a (fun S=>h_ S w) jr:=by
 intro s φ O1 O v x id h hg ik mC gw _
 cases hg with
 | rep bZ =>
  have hx:jr id x=(x,[]):=by
   cases bZ<;>rfl
  rw [hx]
  exact ⟨φ,h,.rep bZ,fun _ _ h=>h,fun _ h=>h⟩
 | nil e =>
  have hid:look s.H id=none:=(gw id (by simp [jr])).1
  have h1:=h.rJ (id:=id) (r:=⟨e,true,false,[]⟩) hid rfl
  refine ⟨φ,h1,.cD id e ?_,fun i y hi=>?_,fun _ h=>h⟩
  ·show az ((id,⟨e,true,false,[]⟩)::s.H) φ id=_
   rw [br (r:=⟨e,true,false,[]⟩) (by rw [aE,if_pos rfl]),h.only id hid];rfl
  ·obtain ⟨e',m,b⟩:=y
   obtain ⟨q,hl,h1,h2,h3⟩:=aQ hi
   show az ((id,_)::s.H) φ i=_
   have cV:id≠i:=fun e=>by subst e;rw [hid] at hl;cases hl
   rw [br (r:=q) (by rw [aE,if_neg cV,hl]),h1,h2,h3]
 | own g l c e row cur te fr hg hf hl hc hm hs bZ =>
  have hid:look s.H id=none:=(gw id (by simp [jr])).1
  have PT:g ∉ O:=by
   have:=ik
   simp only [List.cons_append,List.nil_append,List.nodup_cons] at this
   exact this.1
  have h1:=aL.wY (g:=g) (id:=id) (r:=⟨e,true,false,row⟩) h ⟨.inl (gw id (by simp [jr])).2,(mC g (by simp)).1⟩ (mC g (by simp)).2 PT hid ⟨cur,te,fr,hg,hf,by simp only [hl,hs];exact Nat.mul_le_mul_left _ hc,fun h=>(by cases h),fun j u x hu hx=>by show cz _ _ _ _;exact bZ j u x hu hx⟩
  refine ⟨_,h1,.ref id e row.length g l c ?_ hl hc hm (by unfold aV;rw [hg];exact hs),fun i y hi=>?_,fun b hb=>(rn (h.only id hid) b).1 hb⟩
  ·show az ((id,⟨e,true,false,row⟩)::s.H) _ id=_
   rw [br (r:=⟨e,true,false,row⟩) (by rw [aE,if_pos rfl])]
   unfold fD;rw [if_pos rfl]
  ·obtain ⟨e',m,b⟩:=y
   obtain ⟨q,hl,h1,h2,h3⟩:=aQ hi
   show az ((id,_)::s.H) _ i=_
   have cV:id≠i:=fun e=>by subst e;rw [hid] at hl;cases hl
   rw [br (r:=q) (by rw [aE,if_neg cV,hl]),h1,h2]
   unfold fD;rw [if_neg (Ne.symm cV),h3]
 | box g row cur te fr hg hf hs bZ =>
  have hid:look s.H id=none:=(gw id (by simp [jr])).1
  have PT:g ∉ O:=by
   have:=ik
   simp only [List.cons_append,List.nil_append,List.nodup_cons] at this
   exact this.1
  have h1:=aL.wY (g:=g) (id:=id) (r:=⟨1,false,true,row⟩) h ⟨.inl (gw id (by simp [jr])).2,(mC g (by simp)).1⟩ (mC g (by simp)).2 PT hid ⟨cur,te,fr,hg,hf,by simp only [hs];exact Nat.le_refl _,fun _=>hs,fun j u x hu hx=>by show Den _ _ _ _ _;exact .rep (bZ j u x hu hx)⟩
  refine ⟨_,h1,.addr id 0 1 row.length g ?_,fun i y hi=>?_,fun b hb=>(rn (h.only id hid) b).1 hb⟩
  ·show az ((id,⟨1,false,true,row⟩)::s.H) _ id=_
   rw [br (r:=⟨1,false,true,row⟩) (by rw [aE,if_pos rfl])]
   unfold fD;rw [if_pos rfl]
  ·obtain ⟨e',m,b⟩:=y
   obtain ⟨q,hl,h1,h2,h3⟩:=aQ hi
   show az ((id,_)::s.H) _ i=_
   have cV:id≠i:=fun e=>by subst e;rw [hid] at hl;cases hl
   rw [br (r:=q) (by rw [aE,if_neg cV,hl]),h1,h2]
   unfold fD;rw [if_neg (Ne.symm cV),h3]
theorem kv {R:(Nat->Prop)->Value->AV->List Nat->Prop} (TS:∀S S' v x O,(∀b,S b->S' b)->R S v x O->R S' v x O) {f:Nat->AV->AV×List (Nat×Row)} (hf:EW S0 w0 w n a R f) (step:Nat):∀(xs:List AV) (vs:List Value) (s:AS) (φ:Nat->Option Nat) (O1 O:List Nat) (id:Nat),aL S0 w0 n (O1++O) s a w φ->kW (R (aN S0 w φ (O1++O))) vs xs O1->(O1++O).Nodup->(∀g∈O1,(w0.heap.size≤g∨S0.X g)∧g<w.heap.size)->(∀i∈(gS f step id xs).2.map (·.1),look s.H i=none∧i<1000000000000)->((gS f step id xs).2.map (·.1)).Nodup ->
  ∃ cB,aL S0 w0 n O ⟨s.F,(gS f step id xs).2++s.H⟩ a w cB∧vs.length=(gS f step id xs).1.length∧(∀(j:Nat) v c,vs[j]?=some v->(gS f step id xs).1[j]?=some c->Den (az ((gS f step id xs).2++s.H) cB) (aN S0 w cB O) w v c)∧Ext S0 w s ⟨s.F,(gS f step id xs).2++s.H⟩ φ cB (O1++O) O
 | [],vs,s,φ,O1,O,id,h,hg,ik,mC,gw,hn=>by
  cases hg
  exact ⟨φ,h,rfl,fun j v c hv=>by simp at hv,fun _ _ h=>h,fun _ h=>h⟩
 | x::xs,vs,s,φ,O1,O,id,h,hg,ik,mC,gw,hn=>by
  cases hg with
  | cons hx ht =>
   rename_i v vs Oa Ob
   rw [List.append_assoc] at h ik hx ht
   simp only [gS,List.map_append] at gw hn ⊢
   obtain ⟨iH,h1,GD,Mb⟩:=hf s φ Oa (Ob++O) v x id h hx ik (fun g hg=>mC g (by simp [hg])) (fun i hi=>gw i (by simp [hi])) (List.nodup_append.1 hn).2.1
   have RP:(Ob++O).Nodup:=(List.nodup_append.1 ik).2.1
   obtain ⟨j6,h2,Cx,zf,K6⟩:=kv TS hf step xs vs ⟨s.F,(f id x).2++s.H⟩ iH Ob O (id+step) h1 (ht.imp fun v x O hR=>TS _ _ v x O (fun b hb=>Mb.2 b hb) hR) RP (fun g hg=>mC g (by simp [hg])) (fun i hi=>⟨by
    rw [bM]
    have h3:look (f id x).2 i=none:=by
     have gf:i ∉ (f id x).2.map (·.1):=fun hm=>(List.nodup_append.1 hn).2.2 i hi i hm rfl
     have key:∀(l:List (Nat×Row)),i ∉ l.map (·.1)->look l i=none:=by
      intro l
      induction l with
      | nil=>intro _;rfl
      | cons p l ih =>
       intro hm
       obtain ⟨k,r⟩:=p
       simp only [List.map_cons,List.mem_cons,not_or] at hm
       rw [aE,if_neg (Ne.symm hm.1),ih hm.2]
     exact key _ gf
    rw [h3,(gw i (by simp [hi])).1];rfl,(gw i (by simp [hi])).2⟩) (List.nodup_append.1 hn).1
   have e1:(gS f step (id+step) xs).2++((f id x).2++s.H)=((gS f step (id+step) xs).2++(f id x).2)++s.H:=by rw [List.append_assoc]
   rw [e1] at h2 zf K6
   rw [List.append_assoc Oa Ob O]
   refine ⟨j6,h2,by simp [Cx],fun j v' c hv hc=>?_,Mb.trans K6⟩
   cases j with
   | zero=>simp at hv hc;subst hv;subst hc;exact K6.den GD
   | succ j=>exact zf j v' c (by simpa using hv) (by simpa using hc)
theorem qH:EW S0 w0 w n a (fun S=>nU S w) w6:=by
 intro s φ O1 O v x id h hg ik mC gw hn
 rcases hg with hg|⟨vs,cs,rfl,rfl,hL⟩
 ·by_cases hx:∃cs,x= .agg cs
  ·obtain ⟨cs,rfl⟩:=hx
   cases hg with
   | rep bZ=>cases bZ with
    | agg vs _ hl bZ =>
     have hL:kW (h_ (aN S0 w φ ([]++O)) w) vs cs []:=by
      have key:∀(vs:List Value) (cs:List AV),vs.length=cs.length->(∀(j:Nat) v c,vs[j]?=some v->cs[j]?=some c->cz (aN S0 w φ ([]++O)) w v c)->kW (h_ (aN S0 w φ ([]++O)) w) vs cs []:=by
       intro vs cs
       induction cs generalizing vs with
       | nil=>intro hl _;cases vs with|nil=>exact .nil|cons=>simp at hl
       | cons c cs ih =>
        intro hl hr
        cases vs with
        | nil=>simp at hl
        | cons v vs=>exact kW.cons (O1:=[]) (O2:=[]) (.rep (hr 0 v c rfl rfl)) (ih vs (by simpa using hl) fun j v c hv hc=>hr (j+1) v c (by simpa using hv) (by simpa using hc))
      exact key vs cs hl bZ
     obtain ⟨cB,h1,h2,h3,h4⟩:=kv (R:=fun S=>h_ S w) (fun S S' v x O hS h=>h.mono hS) mg 100000 cs vs s φ [] O (id+100000) h hL ik mC gw hn
     exact ⟨cB,h1,.agg vs _ h2 h3,h4⟩
  ·have:w6 id x=jr id x:=by
    cases x with
    | agg cs=>exact absurd ⟨cs,rfl⟩ hx
    | _=>rfl
   rw [this] at gw hn ⊢
   exact mg s φ O1 O v x id h hg ik mC gw hn
 ·obtain ⟨cB,h1,h2,h3,h4⟩:=kv (R:=fun S=>h_ S w) (fun S S' v x O hS h=>h.mono hS) mg 100000 cs vs s φ O1 O (id+100000) h hL ik mC gw hn
  exact ⟨cB,h1,.agg vs _ h2 h3,h4⟩
theorem vY:EW S0 w0 w n a (fun S=>sP S w) cw:=by
 intro s φ O1 O v x id h hg ik mC gw hn
 rcases hg with hg|⟨vs,cs,rfl,rfl,hL⟩
 ·by_cases hx:∃cs,x= .bq cs
  ·obtain ⟨cs,rfl⟩:=hx
   rcases hg with hg|⟨vs,J8,h1,h2,h3⟩
   ·cases hg with
    | rep bZ=>cases bZ with
     | bq vs _ hl bZ =>
      have hL:kW (nU (aN S0 w φ ([]++O)) w) vs cs []:=by
       have key:∀(vs:List Value) (cs:List AV),vs.length=cs.length->(∀(j:Nat) v c,vs[j]?=some v->cs[j]?=some c->cz (aN S0 w φ ([]++O)) w v c)->kW (nU (aN S0 w φ ([]++O)) w) vs cs []:=by
        intro vs cs
        induction cs generalizing vs with
        | nil=>intro hl _;cases vs with|nil=>exact .nil|cons=>simp at hl
        | cons c cs ih =>
         intro hl hr
         cases vs with
         | nil=>simp at hl
         | cons v vs=>exact kW.cons (O1:=[]) (O2:=[]) (.inl (.rep (hr 0 v c rfl rfl))) (ih vs (by simpa using hl) fun j v c hv hc=>hr (j+1) v c (by simpa using hv) (by simpa using hc))
       exact key vs cs hl bZ
      obtain ⟨cB,h1,h2,h3,h4⟩:=kv (R:=fun S=>nU S w) (fun S S' v x O hS h=>h.mono hS) qH 1000 cs vs s φ [] O (id+1000) h hL ik mC gw hn
      exact ⟨cB,h1,.bq vs _ h2 h3,h4⟩
   ·cases h2
  ·have:cw id x=w6 id x:=by
    cases x with
    | bq cs=>exact absurd ⟨cs,rfl⟩ hx
    | _=>rfl
   rw [this] at gw hn ⊢
   exact qH s φ O1 O v x id h hg ik mC gw hn
 ·obtain ⟨cB,h1,h2,h3,h4⟩:=kv (R:=fun S=>nU S w) (fun S S' v x O hS h=>h.mono hS) qH 1000 cs vs s φ O1 O (id+1000) h hL ik mC gw hn
  exact ⟨cB,h1,.bq vs _ h2 h3,h4⟩
def ba:AS->List Nat->AS
 | s,[]=>s
 | s,i::l=>ba (ck i s) l
theorem j_:∀(l:List Nat) (s:AS) (φ:Nat->Option Nat) (O:List Nat),aL S0 w0 n O s a w φ-> ∃ cB,aL S0 w0 n O (ba s l) a w cB∧(∀b,aN S0 w φ O b->aN S0 w cB O b)∧(∀i,look s.H i=none∨i∈l->look (ba s l).H i=none)
 | [],s,φ,O,h=>⟨φ,h,fun _ h=>h,fun i hi=>hi.resolve_right (by simp)⟩
 | i::l,s,φ,O,h=>by
  have h1:aL S0 w0 n O (ck i s) a w (erase φ i):=by
   cases cm:φ i with
   | none=>exact h.jw i O (by rw [cm])
   | some g=>exact (h.jw i (g::O) (by rw [cm])).uS
  obtain ⟨cB,h2,h3,h4⟩:=j_ l _ _ _ h1
  refine ⟨cB,h2,fun b hb=>h3 b ⟨hb.1,hb.2.1,fun j hj=>?_,hb.2.2.2⟩,fun j hj=>h4 j ?_⟩
  ·unfold erase at hj
   split at hj
   ·cases hj
   ·exact hb.2.2.1 j hj
  ·by_cases e:j=i
   ·subst e;exact .inl (dn j)
   ·rcases hj with hj|hj
    ·exact .inl (pZ i j hj)
    ·rcases List.mem_cons.1 hj with h|h
     ·exact absurd h e
     ·exact .inr h
theorem nQ:∀(O' O:List Nat) (s:AS) (φ:Nat->Option Nat),aL S0 w0 n O s a w φ->(∀g∈O',w.heap.size≤g)->aL S0 w0 n (O'++O) s a w φ
 | [],O,s,φ,h,_=>h
 | g::O',O,s,φ,h,hg=>(nQ O' O s φ h fun g hm=>hg g (by simp [hm])).await g (hg g (by simp))
end
def nodupB:List Nat->Bool
 | []=>true
 | i::l=>match l.any (Nat.beq i),Nat.ble i 999999999999 with|false,true=>nodupB l|_,_=>false
theorem iB:∀ {l:List Nat},nodupB l=true->l.Nodup
 | [],_=>List.nodup_nil
 | i::l,h=>by
  simp only [nodupB] at h
  split at h
  ·rename_i hn _
   rw [List.nodup_cons]
   refine ⟨fun hm=>?_,iB h⟩
   have:l.any (Nat.beq i)=true:=List.any_eq_true.2 ⟨i,hm,Nat.beq_refl i⟩
   rw [hn] at this;cases this
  ·cases h
theorem qX:∀ {l:List Nat},nodupB l=true-> ∀i∈l,i<1000000000000
 | [],_,i,h=>by cases h
 | j::l,h,i,hi=>by
  simp only [nodupB] at h
  split at h
  ·rename_i _ hb
   rcases List.mem_cons.1 hi with rfl|hi
   ·have:=Nat.le_of_ble_eq_true hb;omega
   ·exact qX h i hi
  ·cases h
def jQ (s:AS):List AV->Option (List AV)
 | []=>some []
 | x::l=>match view s x,jQ s l with|some y,some m=>some (y::m)|_,_=>none
def xy:AV->Bool
 | .agg cs=>dY cs
 | .arr _=>true
 | x=>ic x
def ly:List AV->Bool
 | []=>true
 | x::l=>match xy x with|true=>ly l|false=>false
def ib (P : Program) (f : FuncId) : Bool := match P.funcs[f]? with | some fn => fn.body.isSome && !(fn.name == "runtime.NumGoroutine") | none => false
theorem pc {P:Program} {f:FuncId} (h:ib P f=true) (args:Array Value) (w:World):(callFunc f args).run P w= .ok (.enter f args) w:=by
 unfold ib at h
 split at h
 ·rename_i fn hf
  simp only [Bool.and_eq_true,Bool.not_eq_true',Option.isSome_iff_exists] at h
  obtain ⟨⟨c,hc⟩,hn⟩:=h
  have sF : ¬ fn.name = "runtime.NumGoroutine" := by simpa using hn
  simp [callFunc,hf,hc,sF]
 ·cases h
def callee (s:AS):Callee->Option FuncId
 | .value (.func f)=>some f
 | .value x=>(match bp s x with| .val (.func (.func f) ⟨[]⟩ ⟨[]⟩)=>some f|_=>none)
 | _=>none
def rA (P:Program) (n:Nat) (s:AS) (d:Option Nat) (c:Callee) (args:List Operand) (h:Hint):Option (AS×List Prop) :=
 match callee s c,h.av with
 | some f,some r=>(match ib P f with
  | true=>(match h.b with
   | true=>(match jQ s (args.map (bp s)),flat r,d with
    | some vs,some C,some d=>(match nodupB ((cw d r).2.map (·.1)),gE n ⟨(ba s ((cw d r).2.map (·.1))).F,(cw d r).2++(ba s ((cw d r).2.map (·.1))).H⟩ (some d) (cw d r).1 with
     | true,some s'=>some (s',bK P f vs r::C)
     | _,_=>none)
    | some vs,some C,none=>some (s,bK P f vs r::C)
    | _,_,_=>none)
   | false=>(match gb s ((args.map (bp s)).flatMap p9) with
    | some s1=>(match ly (args.map (bp s1)),d with
     | true,some d=>(match nodupB ((cw d r).2.map (·.1)),gE n ⟨(ba s1 ((cw d r).2.map (·.1))).F,(cw d r).2++(ba s1 ((cw d r).2.map (·.1))).H⟩ (some d) (cw d r).1 with
      | true,some s'=>some (s',[bK P f (args.map (bp s1)) r])
      | _,_=>none)
     | true,none=>some (s1,[bK P f (args.map (bp s1)) r])
     | _,_=>none)
    | none=>none))
  | false=>none)
 | _,_=>none
section
variable {P:Program} {n:Nat} {s:AS} {o:Oper} {h:Hint} {q:AS×List Prop}
theorem lM {S0:bm} {w0 w:World} {O:List Nat} {a:Act} {φ:Nat->Option Nat} (hs:aL S0 w0 n O s a w φ):∀(xs:List Operand) (ys:List AV),jQ s (xs.map (bp s))=some ys->ys.length=xs.length∧ ∀(j:Nat) v y,(xs.map a.eval)[j]?=some v->ys[j]?=some y->cz (fun b=>b<w.heap.size) w v y
 | [],ys,h=>by cases h;exact ⟨rfl,fun j v y hv=>by simp at hv⟩
 | x::xs,ys,h=>by
  simp only [List.map_cons,jQ] at h
  split at h
  ·rename_i y m hy hm
   cases h
   obtain ⟨h1,h2⟩:=lM hs xs m hm
   refine ⟨by simp [h1],fun j v y' hv Rt=>?_⟩
   cases j with
   | zero=>simp at hv Rt;subst hv;subst Rt;exact xb hs (hs.bp x) hy
   | succ j=>exact h2 j v y' (by simpa using hv) (by simpa using Rt)
  ·cases h
theorem nW {I:Info} {S:Nat->Prop} {w:World} {v:Value} {x:AV} (hd:Den I S w v x) (hr:xy x=true):cz S w v x:=by
 by_cases hc:∃cs,x= .agg cs
 ·obtain ⟨cs,rfl⟩:=hc
  obtain ⟨vs,rfl,hl,hd⟩:=ki hd
  exact .agg vs cs hl fun j v c hv hc=>(eH (hd j v c hv hc) (iz hr hc)).1
 ·by_cases ha:∃cs,x= .arr cs
  ·obtain ⟨cs,rfl⟩:=ha
   obtain ⟨vs,rfl,hl,hd⟩:=qp hd
   exact .arr vs cs hl hd
  ·have:xy x=ic x:=by
    cases x with
    | agg cs=>exact absurd ⟨cs,rfl⟩ hc
    | arr cs=>exact absurd ⟨cs,rfl⟩ ha
    | _=>rfl
   rw [this] at hr
   exact (eH hd hr).1
theorem lS:∀ {l:List AV} {j:Nat} {x:AV},ly l=true->l[j]?=some x->xy x=true
 | [],j,x,_,h=>by simp at h
 | y::l,j,x,hp,h=>by
  simp only [ly] at hp
  split at hp
  ·rename_i hy
   cases j with
   | zero=>simp at h;subst h;exact hy
   | succ j=>exact lS hp (by simpa using h)
  ·cases hp
theorem jq {S0:bm} {w0 w:World} {O:List Nat} {a:Act} {φ:Nat->Option Nat} (hs:aL S0 w0 n O s a w φ) {c:Callee} {f:FuncId} (hc:callee s c=some f) {xs:Array Operand} {ts:Array TypeId} (ho:o.op= .call ⟨c,xs,ts⟩) (hE:ib P f=true) :
  (execOp a.eval o).run P w= .ok (.enter f (xs.map a.eval)) w:=by
 have key:∃x,c= .value x∧a.eval x= .func (.func f) #[] #[]:=by
  unfold callee at hc
  split at hc
  ·cases hc;exact ⟨_,rfl,rfl⟩
  ·rename_i x _
   split at hc
   ·rename_i f' he
    cases hc
    exact ⟨x,rfl,bL (he ▸ hs.bp x)⟩
   ·cases hc
  ·cases hc
 obtain ⟨x,rfl,hx⟩:=key
 unfold execOp
 simp [ho,resolve,hx,Deferred.ofValue,invoke,pc hE]
theorem vk {S0:bm} {w0 w:World} {a:Act} {φ:Nat->Option Nat} {Q:Exit->Act->World->Prop} (hs:aL S0 w0 n [] s a w φ) {f:FuncId} {us:List Value} (cp:(execOp a.eval o).run P w= .ok (.enter f us.toArray) w) {S:Nat->Prop} {args:List AV} {r:AV} (nD:bK P f args r) (hS:∀b,S b->b<w.heap.size) (hl:us.length=args.length) (iC:∀(j:Nat) v x,us[j]?=some v->args[j]?=some x->cz S w v x)
  (hG:∀w' v O,Below w.heap.size w w'->(∀g∈O,w.heap.size≤g∧g<w'.heap.size)->sP (fun b=>S b∨(w.heap.size≤b∧b<w'.heap.size∧b ∉ O)) w' v r O->sP (aN S0 w' φ O) w' v r O) {s':AS}
  (hd:(∃d,o.dst=some d∧nodupB ((cw d r).2.map (·.1))=true∧gE n ⟨(ba s ((cw d r).2.map (·.1))).F,(cw d r).2++(ba s ((cw d r).2.map (·.1))).H⟩ (some d) (cw d r).1=some s')∨(o.dst=none∧s'=s)) :
  o.wp P a w (fun a' w'=>iu S0 w0 n s' a' w') Q:=by
 unfold Oper.wp
 rw [cp]
 have mT:=nD w S us hs.cX.mG hS hl iC
 refine mT.mono ?_
 rintro en w' ⟨v,O,rfl,hb,ik,mC,uF⟩
 show iu S0 w0 n s' (a.put o.dst v) w'
 have uF:=hG w' v O hb mC uF
 have h1:=nQ O [] s φ hs (fun g hg=>(mC g hg).1)
 rw [List.append_nil] at h1
 have h2:=h1.vX (fun g hg=>.inl (Nat.le_trans hs.cX.size (mC g hg).1)) hb.os hb.tape hb.output hb.size (fun b J4 _=>hb.block b J4)
 rcases hd with ⟨d,hd,zc,eW⟩|⟨hd,rfl⟩
 ·obtain ⟨j6,h3,hF,Ip⟩:=j_ ((cw d r).2.map (·.1)) s φ O h2
  have VG:aL S0 w0 n (O++ []) (ba s ((cw d r).2.map (·.1))) a w' j6:=by rw [List.append_nil];exact h3
  obtain ⟨w8,h4,h5,h6⟩:=vY (ba s ((cw d r).2.map (·.1))) j6 O [] v r d VG (by rw [List.append_nil];exact uF.mono hF) (by rw [List.append_nil];exact ik) (fun g hg=>⟨.inl (Nat.le_trans hs.cX.size (mC g hg).1),(mC g hg).2⟩) (fun i hi=>⟨Ip i (.inr hi),qX zc i hi⟩) (iB zc)
  rw [hd]
  exact ⟨w8,dW h4 h5 eW⟩
 ·rw [hd]
  have key:∀(O:List Nat),aL S0 w0 n O s' a w' φ->aL S0 w0 n [] s' a w' φ:=by
   intro O
   induction O with
   | nil=>exact fun h=>h
   | cons g O ih=>exact fun h=>ih h.uS
  have h3:=key O h2
  exact ⟨φ,⟨h3.jP,h3.jS,h3.cX,h3.cC,h3.rows,h3.only,h3.inj,h3.cW,h3.apart,h3.new⟩⟩
theorem th {S0:bm} {w0 w:World} {a:Act} {φ:Nat->Option Nat} {Q:Exit->Act->World->Prop} (hs:aL S0 w0 n [] s a w φ) {f:FuncId} {xs:Array Operand} (cp:(execOp a.eval o).run P w= .ok (.enter f (xs.map a.eval)) w) {S:Nat->Prop} {args:List AV} {r:AV} (nD:bK P f args r) (hS:∀b,S b->b<w.heap.size) (hl:args.length=xs.toList.length) (iC:∀(j:Nat) v x,(xs.toList.map a.eval)[j]?=some v->args[j]?=some x->cz S w v x)
  (hG:∀w' v O,Below w.heap.size w w'->(∀g∈O,w.heap.size≤g∧g<w'.heap.size)->sP (fun b=>S b∨(w.heap.size≤b∧b<w'.heap.size∧b ∉ O)) w' v r O->sP (aN S0 w' φ O) w' v r O) {s':AS}
  (hd:(∃d,o.dst=some d∧nodupB ((cw d r).2.map (·.1))=true∧gE n ⟨(ba s ((cw d r).2.map (·.1))).F,(cw d r).2++(ba s ((cw d r).2.map (·.1))).H⟩ (some d) (cw d r).1=some s')∨(o.dst=none∧s'=s)) :
  o.wp P a w (fun a' w'=>iu S0 w0 n s' a' w') Q:=by
 have e:(xs.toList.map a.eval).toArray=xs.map a.eval:=by apply Array.ext';simp
 exact vk hs (us:=xs.toList.map a.eval) (by rw [e];exact cp) nD hS (by simp [hl]) iC hG hd
theorem wU {c:Callee} {xs:Array Operand} {ts:Array TypeId} (ho:o.op= .call ⟨c,xs,ts⟩) (hr:rA P n s o.dst c xs.toList h=some q):ma P n s o q.1 q.2:=by
 intro hC S0 w0 a w Q ⟨φ,hs⟩
 unfold rA at hr
 split at hr
 ·rename_i f r hc _
  split at hr
  ·rename_i hE
   split at hr
   ·
    split at hr
    ·rename_i vs C d hv sH hd
     split at hr
     ·rename_i s' hn hp
      cases hr
      obtain ⟨nD,hC⟩:=hC
      obtain ⟨hl,bZ⟩:=lM hs _ _ hv
      exact th hs (jq hs hc ho hE) nD (S:=fun b=>b<w.heap.size) (fun _ h=>h) hl bZ (fun w' v O _ _ hg=>s_ sH hC hg) (.inl ⟨d,hd,hn,hp⟩)
     ·cases hr
    ·rename_i vs C hv sH hd
     cases hr
     obtain ⟨nD,hC⟩:=hC
     obtain ⟨hl,bZ⟩:=lM hs _ _ hv
     exact th hs (jq hs hc ho hE) nD (S:=fun b=>b<w.heap.size) (fun _ h=>h) hl bZ (fun w' v O _ _ hg=>s_ sH hC hg) (.inr ⟨hd,rfl⟩)
    ·cases hr
   ·split at hr
    ·rename_i s1 Ib
     obtain ⟨iH,gU⟩:=fL _ _ _ _ Ib hs
     have Ta:ly (xs.toList.map (bp s1))=true-> ∀(j:Nat) v x,(xs.toList.map a.eval)[j]?=some v->(xs.toList.map (bp s1))[j]?=some x->cz (aN S0 w iH []) w v x:=by
      intro xS j v x hv hx
      have M4:=lS xS hx
      rw [List.getElem?_map] at hv hx
      cases hj:xs.toList[j]? with
      | none=>rw [hj] at hv;cases hv
      | some y =>
       rw [hj] at hv hx
       injection hv with hv;injection hx with hx;subst hv;subst hx
       exact nW (gU.bp y) M4
     have hG:∀w' v O,Below w.heap.size w w'->(∀g∈O,w.heap.size≤g∧g<w'.heap.size)->sP (fun b=>aN S0 w iH [] b∨(w.heap.size≤b∧b<w'.heap.size∧b ∉ O)) w' v r O->sP (aN S0 w' iH O) w' v r O:=by
      intro w' v O hb mC hg
      refine hg.mono fun b kL=>?_
      rcases kL with kL|⟨h1,h2,h3⟩
      ·exact ⟨by have:=kL.1;have:=hb.size;omega,fun hm=>by have:=(mC b hm).1;have:=kL.1;omega,kL.2.2⟩
      ·exact ⟨h2,h3,fun i hi=>by have:=(gU.cW i b hi).2;omega,gU.new b (.inl (by have:=gU.cX.size;omega))⟩
     split at hr
     ·rename_i d xS hd
      split at hr
      ·rename_i s' hn hp
       cases hr
       obtain ⟨nD,-⟩:=hC
       exact th gU (jq hs hc ho hE) nD (fun b hb=>hb.1) (by simp) (Ta xS) hG (.inl ⟨d,hd,hn,hp⟩)
      ·cases hr
     ·rename_i xS hd
      cases hr
      obtain ⟨nD,-⟩:=hC
      exact th gU (jq hs hc ho hE) nD (fun b hb=>hb.1) (by simp) (Ta xS) hG (.inr ⟨hd,rfl⟩)
     ·cases hr
    ·cases hr
  ·cases hr
 ·cases hr
def Ca (s:AS) (id:Nat):AS :=
 match look s.H id with
 | some ⟨e,false,f,cs⟩=>(match dY cs with|true=>⟨s.F,(id,⟨e,true,f,cs⟩)::cS s.H id⟩|false=>s)
 | _=>s
theorem Fp {S0:bm} {w0 w:World} {O:List Nat} {a:Act} {φ:Nat->Option Nat} (id:Nat) (hs:aL S0 w0 n O s a w φ):aL S0 w0 n O (Ca s id) a w φ:=by
 unfold Ca
 split
 ·rename_i e f cs hr
  split
  ·rename_i hp
   have lB:∀i,look ((id,(⟨e,true,f,cs⟩:Row))::cS s.H id) i=if id=i then some ⟨e,true,f,cs⟩ else look s.H i:=by
    intro i
    rw [aE,bI]
    by_cases e:id=i<;>simp [e]
   have hI:az ((id,(⟨e,true,f,cs⟩:Row))::cS s.H id) φ=az s.H φ:=by
    funext i
    unfold az
    rw [lB]
    by_cases e:id=i
    ·subst e;rw [if_pos rfl,hr];rfl
    ·rw [if_neg e]
   refine ⟨hs.jP,hs.jS,hs.cX,fun i av hi=>?_,fun i q hq=>?_,fun i hi=>?_,hs.inj,hs.cW,hs.apart,hs.new⟩
   ·simp only [hI];exact hs.cC i av hi
   ·simp only [hI]
    simp only [lB] at hq
    by_cases e:id=i
    ·subst e
     rw [if_pos rfl] at hq;injection hq with hq;subst hq
     have aP:=hs.rows id _ hr
     unfold bN at aP ⊢
     cases cm:φ id with
     | none=>rw [cm] at aP;exact aP
     | some g =>
      rw [cm] at aP
      obtain ⟨cur,te,fr,hg,hf,hl,mS,hc⟩:=aP
      exact ⟨cur,te,fr,hg,hf,hl,mS,fun j u x hu hx=>(eH (hc j u x hu hx) (iz hp hx)).1⟩
    ·rw [if_neg e] at hq;exact hs.rows i q hq
   ·simp only [lB] at hi
    by_cases e:id=i
    ·rw [if_pos e] at hi;cases hi
    ·rw [if_neg e] at hi;exact hs.only i hi
  ·exact hs
 ·exact hs
def qS:AS->List Nat->AS
 | s,[]=>s
 | s,i::l=>qS (Ca s i) l
theorem pS {S0:bm} {w0 w:World} {O:List Nat} {a:Act} {φ:Nat->Option Nat}:∀(l:List Nat) (s:AS),aL S0 w0 n O s a w φ->aL S0 w0 n O (qS s l) a w φ
 | [],_,h=>h
 | i::l,_,h=>pS l _ (Fp i h)
def CV (n:Nat) (s:AS) (d f:Nat) (xs:List Operand):Option (AS×List Prop) :=
 match gb (qS s ((xs.map (bp s)).flatMap p9)) ((xs.map (bp s)).flatMap p9) with
 | some s1=>(match ly (xs.map (bp s1)),gE n s1 (some d) (.lI f (xs.map (bp s1))) with|true,some s'=>some (s',[])|_,_=>none)
 | none=>none
theorem ml {S0:bm} {w0 w:World} {O:List Nat} {a:Act} {φ:Nat->Option Nat} (hs:aL S0 w0 n O s a w φ) {xs:List Operand} (h:ly (xs.map (bp s))=true) (j:Nat) (v:Value) (x:AV) (hv:(xs.map a.eval)[j]?=some v) (hx:(xs.map (bp s))[j]?=some x):cz (aN S0 w φ O) w v x:=by
 have M4:=lS h hx
 rw [List.getElem?_map] at hv hx
 cases hj:xs[j]? with
 | none=>rw [hj] at hv;cases hv
 | some y =>
  rw [hj] at hv hx
  injection hv with hv;injection hx with hx;subst hv;subst hx
  exact nW (hs.bp y) M4
theorem F9 {d f:Nat} {xs:List Operand} (ho:o.op= .makeFunc (.func f) ⟨[]⟩ ⟨xs⟩) (hd:o.dst=some d) (hr:CV n s d f xs=some q):ma P n s o q.1 q.2:=by
 intro hC S0 w0 a w Q ⟨φ,hs⟩
 unfold CV at hr
 split at hr
 ·rename_i s1 Ib
  obtain ⟨iH,gU⟩:=fL _ _ _ _ Ib (pS _ _ hs)
  split at hr
  ·rename_i s' xS hp
   cases hr
   have cp:(execOp a.eval o).run P w= .ok (.value (.func (.func f) #[] (xs.map a.eval).toArray)) w:=by
    unfold execOp;simp [ho,Instr.makeFunc]
   refine cT cp ⟨iH,?_⟩
   rw [hd]
   exact dW gU (.rep (.lI f _ _ (by simp) (ml gU xS))) hp
  ·cases hr
 ·cases hr
def yx (P:Program) (n:Nat) (s:AS) (d:Option Nat) (c:Callee) (args:List Operand) (h:Hint):Option (AS×List Prop) :=
 match c,h.av,gb s ((args.map (bp s)).flatMap p9) with
 | .value x,some r,some s1=>(match bp s1 x with
  | .lI f lF=>(match ib P f,ly (args.map (bp s1)),d with
   | true,true,some d=>(match nodupB ((cw d r).2.map (·.1)),gE n ⟨(ba s1 ((cw d r).2.map (·.1))).F,(cw d r).2++(ba s1 ((cw d r).2.map (·.1))).H⟩ (some d) (cw d r).1 with
    | true,some s'=>some (s',[bK P f (args.map (bp s1)++lF) r])
    | _,_=>none)
   | true,true,none=>some (s1,[bK P f (args.map (bp s1)++lF) r])
   | _,_,_=>none)
  | _=>none)
 | _,_,_=>none
theorem D9 {S:Nat->Prop} {I:Info} {w:World} {v:Value} {f:Nat} {cs:List AV} (h:Den I S w v (.lI f cs)):∃vs:List Value,v= .func (.func f) #[] vs.toArray∧vs.length=cs.length∧ ∀(j:Nat) v c,vs[j]?=some v->cs[j]?=some c->cz S w v c:=by
 cases h with|rep h=>cases h with|lI f vs cs hl h=>exact ⟨vs,rfl,hl,h⟩
theorem tP {S:Nat->Prop} {w:World} {vs us:List Value} {xs ys:List AV} (hl:vs.length=xs.length) (h1:∀(j:Nat) v x,vs[j]?=some v->xs[j]?=some x->cz S w v x) (h2:∀(j:Nat) v x,us[j]?=some v->ys[j]?=some x->cz S w v x) (j:Nat) (v:Value) (x:AV) (hv:(vs++us)[j]?=some v) (hx:(xs++ys)[j]?=some x):cz S w v x:=by
 rcases Nat.lt_or_ge j vs.length with h|h
 ·rw [List.getElem?_append_left h] at hv
  rw [List.getElem?_append_left ah] at hx
  exact h1 j v x hv hx
 ·rw [List.getElem?_append_right h] at hv
  rw [List.getElem?_append_right ah,←hl] at hx
  exact h2 _ v x hv hx
theorem C9 {c:Callee} {xs:Array Operand} {ts:Array TypeId} (ho:o.op= .call ⟨c,xs,ts⟩) (hr:yx P n s o.dst c xs.toList h=some q):ma P n s o q.1 q.2:=by
 intro hC S0 w0 a w Q ⟨φ,hs⟩
 unfold yx at hr
 split at hr
 ·rename_i x r s1 _ Ib
  obtain ⟨iH,gU⟩:=fL _ _ _ _ Ib hs
  split at hr
  ·rename_i f lF gl
   have dx:=gU.bp x
   rw [gl] at dx
   obtain ⟨cv,hv,Sg,K9⟩:=D9 dx
   have cp:ib P f=true->(execOp a.eval o).run P w= .ok (.enter f (xs.toList.map a.eval++cv).toArray) w:=by
    intro hE
    have e:(xs.toList.map a.eval++cv).toArray= #[]++xs.map a.eval++cv.toArray:=by apply Array.ext';simp
    rw [e]
    unfold execOp
    simp [ho,resolve,hv,Deferred.ofValue,invoke,pc hE]
   have hG:∀w' v O,Below w.heap.size w w'->(∀g∈O,w.heap.size≤g∧g<w'.heap.size)->sP (fun b=>aN S0 w iH [] b∨(w.heap.size≤b∧b<w'.heap.size∧b ∉ O)) w' v r O->sP (aN S0 w' iH O) w' v r O:=by
    intro w' v O hb mC hg
    refine hg.mono fun b kL=>?_
    rcases kL with kL|⟨h1,h2,h3⟩
    ·exact ⟨by have:=kL.1;have:=hb.size;omega,fun hm=>by have:=(mC b hm).1;have:=kL.1;omega,kL.2.2⟩
    ·exact ⟨h2,h3,fun i hi=>by have:=(gU.cW i b hi).2;omega,gU.new b (.inl (by have:=gU.cX.size;omega))⟩
   have hlen:(xs.toList.map a.eval++cv).length=(xs.toList.map (bp s1)++lF).length:=by simp [Sg]
   split at hr
   ·rename_i d hE xS hd
    split at hr
    ·rename_i s' hn hp
     cases hr
     exact vk gU (cp hE) hC.1 (fun b hb=>hb.1) hlen (tP (by simp) (ml gU xS) K9) hG (.inl ⟨d,hd,hn,hp⟩)
    ·cases hr
   ·rename_i hE xS hd
    cases hr
    exact vk gU (cp hE) hC.1 (fun b hb=>hb.1) hlen (tP (by simp) (ml gU xS) K9) hG (.inr ⟨hd,rfl⟩)
   ·cases hr
  ·cases hr
 ·cases hr
end
end Go.Proofs.YtjgbhhnghedgdaaGreatDoor
