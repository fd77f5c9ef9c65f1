import Derived.Test.YtjgbhhnghedgdaaGreatDoorZfRA
import Derived.Laws.StructEq
import Derived.ChangeKeysEq
set_option linter.all false
namespace Go.Proofs.YtjgbhhnghedgdaaGreatDoor
open Go.RowKit
def KD (P:Program) (eq:TypeId->List AV->List AV->Option Bool) (cs ds:List AV):List Field->Option Bool
 | []=>some true
 | f :: fs => match f.name == "_", eH P f.type, KD P eq cs ds fs with
  | false,some z,some b=>(match eq f.type ((cs.drop f.offset).take z) ((ds.drop f.offset).take z) with|some a=>some (a && b)|none=>none)
  | _,_,_=>none
def Pq (P:Program):Nat->TypeId->List AV->List AV->Option Bool
 | 0,_,_,_=>none
 | d+1,t,cs,ds=>match P.underlying t with
  | some .bool=>(match cs,ds with| [.val (.bool a)],[.val (.bool b)]=>some (a == b)|_,_=>none)
  | some (.int _)=>(match cs,ds with| [.val (.int k a)],[.val (.int k' b)]=>if k=k' then some (a == b) else none|_,_=>none)
  | some .string=>(match cs,ds with| [.val (.string a)],[.val (.string b)]=>some (a.toList == b.toList)|_,_=>none)
  | some (.struct fs)=>(match P.stoodInHeld t with|true=>none|false=>KD P (Pq P d) cs ds fs.toList)
  | _=>none
def mi (P:Program) (t:TypeId) (vs:List Value) (x:Value):Prop:=match cD P t with|true=>x= .agg vs.toArray|false=>vs= [x]
theorem mB {I:Info} {S:Nat->Prop} {w:World} {vs:List Value} {u:Value} (hl:vs.length=1) (hd:∀(j:Nat) v c,vs[j]?=some v-> [AV.val u][j]?=some c->Den I S w v c):vs= [u]:=by
 match vs,hl with
 | [v],_=>rw [bF (hd 0 v _ rfl rfl)]
section
variable {P:Program} {I:Info} {S:Nat->Prop} {w:World}
theorem vd {t:TypeId} {z:Nat} {cs:List AV} {vs:List Value} {off:Nat} (hz:eH P t=some z) (hu:∃d,P.underlying t=some d) (hl:vs.length=cs.length) (hs:cD P t=false-> ∃x,(cs.drop off).take z= [x]) :
  ∃v,(part t vs.toArray off).run P w= .ok v w∧mi P t ((vs.drop off).take z) v:=by
 cases ha:cD P t with
 | true =>
  refine ⟨.agg (vs.toArray.extract off (off+z)),?_,?_⟩
  ·simp [part,iL hu,ha,run_sizeOf hz]
  ·unfold mi;rw [ha];simp [List.extract_eq_take_drop]
 | false =>
  obtain ⟨x,hx⟩:=hs ha
  have hlen:=congrArg List.length hx
  rw [List.length_take,List.length_drop] at hlen
  simp at hlen
  have cZ:off<vs.length:=ag
  refine ⟨vs[off],?_,?_⟩
  ·simp [part,iL hu,ha,cZ]
  ·unfold mi;rw [ha]
   show (vs.drop off).take z= [vs[off]]
   rw [List.drop_eq_getElem_cons cZ]
   obtain ⟨z',rfl⟩:∃z',z=z'+1:=⟨z-1,ag⟩
   rw [List.take_succ_cons]
   congr 1
   apply List.eq_nil_of_length_eq_zero
   rw [List.length_take,List.length_drop];omega
theorem Gb {eq:TypeId->List AV->List AV->Option Bool} {D:Nat} (heq:∀t cs ds b vs us x y,eq t cs ds=some b->vs.length=cs.length->us.length=ds.length->(∀(j:Nat) v c,vs[j]?=some v->cs[j]?=some c->Den I S w v c)->(∀(j:Nat) v c,us[j]?=some v->ds[j]?=some c->Den I S w v c)->mi P t vs x->mi P t us y->(Op.equalIn D t x y).run P w= .ok b w)
  (vI:∀t cs ds b,eq t cs ds=some b->(∃d,P.underlying t=some d)∧(cD P t=false->(∃x,cs= [x])∧ ∃x,ds= [x])) {cs ds:List AV} {vs us:List Value} (hl:vs.length=cs.length) (sc:us.length=ds.length) (hd:∀(j:Nat) v c,vs[j]?=some v->cs[j]?=some c->Den I S w v c) (He:∀(j:Nat) v c,us[j]?=some v->ds[j]?=some c->Den I S w v c) :
  ∀(fs:List Field) (b:Bool),KD P eq cs ds fs=some b->(Op.eqFields D vs.toArray us.toArray fs).run P w= .ok b w
 | [],b,h=>by simp [KD] at h;subst h;simp [Op.eqFields]
 | f::fs,b,h=>by
  rw [KD] at h
  split at h
  ·rename_i z b' hn hz k9
   split at h
   ·rename_i a ha
    injection h with h;subst h
    obtain ⟨hu,ho⟩:=vI _ _ _ _ ha
    obtain ⟨x,hx,px⟩:=vd (w:=w) (off:=f.offset) hz hu hl (fun h0=>(ho h0).1)
    obtain ⟨y,hy,py⟩:=vd (w:=w) (off:=f.offset) hz hu sc (fun h0=>(ho h0).2)
    have he:=heq _ _ _ _ _ _ x y ha (by rw [List.length_take,List.length_drop,List.length_take,List.length_drop,hl]) (by rw [List.length_take,List.length_drop,List.length_take,List.length_drop,sc]) (fun j v c hv hc=>hd (f.offset+j) v c (bP _ _ _ _ _ hv) (bP _ _ _ _ _ hc)) (fun j v c hv hc=>He (f.offset+j) v c (bP _ _ _ _ _ hv) (bP _ _ _ _ _ hc)) px py
    have tJ : f.name ≠ "_" := by simpa using hn
    simp only [Op.eqFields,if_pos tJ,Sem.run_bind,hx,hy,he,Result.andThen_ok]
    cases a with
    | false=>simp
    | true =>
     have:=Gb heq vI hl sc hd He fs b' k9
     simpa using this
   ·cases h
  ·cases h
theorem MJ:∀(d:Nat) (t:TypeId) (cs ds:List AV) (b:Bool),Pq P d t cs ds=some b->(∃d,P.underlying t=some d)∧(cD P t=false->(∃x,cs= [x])∧ ∃x,ds= [x]):=by
 intro d t cs ds b h
 cases d with
 | zero=>cases h
 | succ d =>
  unfold Pq at h
  split at h
  ·rename_i hu;refine ⟨⟨_,hu⟩,fun _=>?_⟩
   split at h
   ·exact ⟨⟨_,rfl⟩,_,rfl⟩
   ·cases h
  ·rename_i hu;refine ⟨⟨_,hu⟩,fun _=>?_⟩
   split at h
   ·exact ⟨⟨_,rfl⟩,_,rfl⟩
   ·cases h
  ·rename_i hu;refine ⟨⟨_,hu⟩,fun _=>?_⟩
   split at h
   ·exact ⟨⟨_,rfl⟩,_,rfl⟩
   ·cases h
  ·rename_i hu;refine ⟨⟨_,hu⟩,fun ha=>?_⟩
   unfold cD at ha;rw [hu] at ha;cases ha
  ·cases h
theorem Pp (D:Nat):∀(d:Nat) (t:TypeId) (cs ds:List AV) (b:Bool) (vs us:List Value) (x y:Value),Pq P d t cs ds=some b->vs.length=cs.length->us.length=ds.length->(∀(j:Nat) v c,vs[j]?=some v->cs[j]?=some c->Den I S w v c)->(∀(j:Nat) v c,us[j]?=some v->ds[j]?=some c->Den I S w v c)->mi P t vs x->mi P t us y->(Op.equalIn (D+d) t x y).run P w= .ok b w:=by
 intro d
 induction d with
 | zero=>intro t cs ds b vs us x y h;cases h
 | succ d ih =>
  intro t cs ds b vs us x y h hl sc hd He px py
  unfold Pq at h
  split at h
  ·rename_i hu
   have ha:cD P t=false:=by unfold cD;rw [hu]
   unfold mi at px py;rw [ha] at px py
   split at h
   ·have h1:=mB hl hd
    have h2:=mB sc He
    rw [h1] at px;rw [h2] at py
    injection px with px;injection py with py
    injection h with h
    subst px py h
    exact run_equalIn_bool' w (D+d) t _ _ hu
   ·cases h
  ·rename_i hu
   have ha:cD P t=false:=by unfold cD;rw [hu]
   unfold mi at px py;rw [ha] at px py
   split at h
   ·have h1:=mB hl hd
    have h2:=mB sc He
    rw [h1] at px;rw [h2] at py
    injection px with px;injection py with py
    split at h
    ·rename_i hk
     injection h with h
     subst px py h hk
     exact run_equalIn_int w (D+d) t _ _ _ _ hu
    ·cases h
   ·cases h
  ·rename_i hu
   have ha:cD P t=false:=by unfold cD;rw [hu]
   unfold mi at px py;rw [ha] at px py
   split at h
   ·have h1:=mB hl hd
    have h2:=mB sc He
    rw [h1] at px;rw [h2] at py
    injection px with px;injection py with py
    injection h with h
    subst px py h
    exact run_equalIn_string w (D+d) t _ _ hu
   ·cases h
  ·rename_i fs hu
   have ha:cD P t=true:=by unfold cD;rw [hu]
   unfold mi at px py;rw [ha] at px py
   split at h
   ·cases h
   ·rename_i hp
    have hf:P.fieldsOf t=fs:=by simp [Program.fieldsOf,hu]
    simp only at px py
    subst px py
    rw [show D+(d+1)=(D+d)+1 from rfl,run_equalIn_struct w (D+d) t _ _ (by rw [hf];exact hu) hp,hf]
    exact Gb (fun t cs ds b vs us x y h1 h2 h3 h4 h5 h6 h7=>ih t cs ds b vs us x y h1 h2 h3 h4 h5 h6 h7) (MJ d) hl sc hd He fs.toList b h
  ·cases h
end
def Ag (P:Program) (op:BinOp) (t:TypeId) (cs ds:List AV):Option (AV×List Prop) :=
 match op,P.eqGuardType P.depth t,cD P t,Pq P 12 t cs ds with
 | .eql,false,true,some b=>some (.val (.bool b),[])
 | .neq,false,true,some b=>some (.val (.bool (!b)),[])
 | _,_,_,_=>none
section
variable {P:Program} {s:AS} {o:Oper} {h:Hint} {r:AV×List Prop}
theorem Eh {op:BinOp} {t t':TypeId} {x y:Operand} {cs ds:List AV} (ho:o.op= .binOp op t x y t') (hx:bq s x= .agg cs) (hy:bq s y= .agg ds) (hr:Ag P op t cs ds=some r):dd P s o r.1 r.2:=by
 intro _ S0 w0 n O a w φ hs
 have dx:=hs.bq x
 have dy:=hs.bq y
 rw [hx] at dx;rw [hy] at dy
 obtain ⟨vs,ex,hl,hd⟩:=kA dx
 obtain ⟨us,ey,sc,He⟩:=kA dy
 have main:∀b,P.eqGuardType P.depth t=false->cD P t=true->Pq P 12 t cs ds=some b->(∀op,(eqGuard op t x y (a.eval x) (a.eval y)).run P w= .ok () w)∧(Op.equalIn 10000 t (.agg vs.toArray) (.agg us.toArray)).run P w= .ok b w:=by
  intro b hg ha he
  refine ⟨fun op=>by rw [ex,ey];exact run_eqGuard_agg w op t x y _ _ hg,?_⟩
  exact Pp 9988 12 t cs ds b vs us _ _ he hl sc hd He (by unfold mi;rw [ha]) (by unfold mi;rw [ha])
 unfold Ag at hr
 split at hr
 ·rename_i hg ha he
  injection hr with hr;subst hr
  obtain ⟨h1,h2⟩:=main _ hg ha he
  refine ⟨.bool _,?_,.rep (.val _)⟩
  unfold execOp;simp only [ho,Sem.run_bind,h1,Result.andThen_ok]
  rw [ex,ey,run_eql_struct,h2];rfl
 ·rename_i hg ha he
  injection hr with hr;subst hr
  obtain ⟨h1,h2⟩:=main _ hg ha he
  refine ⟨.bool _,?_,.rep (.val _)⟩
  unfold execOp;simp only [ho,Sem.run_bind,h1,Result.andThen_ok]
  rw [ex,ey,run_neq_struct,h2];rfl
 ·cases hr
end
def Lc (k:IntKind) (n:Nat) (cs ds:List AV) (b:Bool):Prop:=∃l m:List Int,cs=l.map (fun x=>.val (.int k x))∧ds=m.map (fun x=>.val (.int k x))∧l.length=n∧m.length=n∧b=(l == m)
def Af (P:Program) (op:BinOp) (t:TypeId) (cs ds:List AV) (h:Hint):Option (AV×List Prop) :=
 match P.underlying t,P.eqGuardType P.depth t,h.av with
 | some (.array n e),false,some (.val (.bool b))=>(match P.underlying e,eH P e,op with
  | some (.int k),some 1,.eql=>some (.val (.bool b),[Lc k n cs ds b])
  | some (.int k),some 1,.neq=>some (.val (.bool b),[Lc k n cs ds (!b)])
  | _,_,_=>none)
 | _,_,_=>none
section
variable {P:Program} {w:World}
theorem qX (d:Nat) {e:TypeId} {k k':IntKind} (he:P.underlying e=some (.int k')) {n:Nat} {l m:List Int} (hl:l.length=n) (hm:m.length=n):∀(is:List Nat),(∀i∈is,i<n) ->
  (Op.eqItems (d+1) e 1 (l.map (Value.int k)).toArray (m.map (Value.int k)).toArray is).run P w= .ok (is.all fun i=>l.getD i 0 == m.getD i 0) w
 | [],_=>by simp [Op.eqItems]
 | i::is,hi=>by
  have h1:i<n:=hi i (by simp)
  have ha:cD P e=false:=by unfold cD;rw [he]
  have p1:(part e (l.map (Value.int k)).toArray (i*1)).run P w= .ok (.int k (l.getD i 0)) w:=by
   simp [part,iL ⟨_,he⟩,ha,hl,h1]
  have p2:(part e (m.map (Value.int k)).toArray (i*1)).run P w= .ok (.int k (m.getD i 0)) w:=by
   simp [part,iL ⟨_,he⟩,ha,hm,h1]
  simp only [Op.eqItems,Sem.run_bind,p1,p2,run_equalIn_int w d e k k' _ _ he,Result.andThen_ok,List.all_cons]
  have ih:=qX d (k:=k) he hl hm is (fun j hj=>hi j (by simp [hj]))
  cases hb:l.getD i 0 == m.getD i 0 with
  | false=>simp
  | true=>simpa using ih
theorem CQ {l m:List Int} {n:Nat} (hl:l.length=n) (hm:m.length=n):((List.range n).all fun i=>l.getD i 0 == m.getD i 0)=(l == m):=by
 rw [Bool.eq_iff_iff,List.all_eq_true,beq_iff_eq]
 constructor
 ·intro h
  apply List.ext_getElem ag
  intro i h1 h2
  have:=h i (List.mem_range.2 ag)
  simpa [h1,h2] using this
 ·rintro rfl i _;simp
theorem Bk {S:Nat->Prop} {k:IntKind} {l:List Int} {vs:List Value} (hl:vs.length=(l.map (fun x=>AV.val (.int k x))).length) (hd:∀(j:Nat) v c,vs[j]?=some v->(l.map (fun x=>AV.val (.int k x)))[j]?=some c->cz S w v c):vs=l.map (Value.int k):=by
 apply List.ext_getElem (by simpa using hl)
 intro i h1 h2
 have h3:i<l.length:=by simpa using h2
 have:=hd i vs[i] (.val (.int k l[i])) (List.getElem?_eq_getElem h1) (by simp [h3])
 generalize vs[i]=q at this
 cases this
 simp
end
section
variable {P:Program} {s:AS} {o:Oper} {h:Hint} {r:AV×List Prop}
theorem Eg {op:BinOp} {t t':TypeId} {x y:Operand} {cs ds:List AV} (ho:o.op= .binOp op t x y t') (hx:bq s x= .arr cs) (hy:bq s y= .arr ds) (hr:Af P op t cs ds h=some r):dd P s o r.1 r.2:=by
 intro hC S0 w0 n O a w φ hs
 have dx:=hs.bq x
 have dy:=hs.bq y
 rw [hx] at dx;rw [hy] at dy
 obtain ⟨vs,ex,hl,hd⟩:=q_ dx
 obtain ⟨us,ey,sc,He⟩:=q_ dy
 have main:∀k N e b,P.underlying t=some (.array N e)->P.underlying e=some (.int k)->eH P e=some 1->P.eqGuardType P.depth t=false->Lc k N cs ds b->(∀op,(eqGuard op t x y (a.eval x) (a.eval y)).run P w= .ok () w)∧(Op.equalIn 10000 t (.agg vs.toArray) (.agg us.toArray)).run P w= .ok b w:=by
  intro k N e b hu he hz hg ⟨l,m,e1,e2,h1,h2,h3⟩
  refine ⟨fun op=>by rw [ex,ey];exact run_eqGuard_agg w op t x y _ _ hg,?_⟩
  subst e1 e2
  rw [Bk hl hd,Bk sc He]
  obtain ⟨i,hi,Sr⟩:∃i,P.info? e=some i∧i.size=1:=by
   unfold eH at hz
   cases hp:P.info? e with
   | none=>rw [hp] at hz;cases hz
   | some i=>rw [hp] at hz;exact ⟨i,rfl,by simpa using hz⟩
  rw [show 10000=9999+1 from rfl,run_equalIn_array w 9999 _ _ hu hi]
  have hc:P.cellsOf e=1:=by unfold Program.cellsOf;rw [hi];exact Sr
  rw [hc,show 9999=9998+1 from rfl,qX 9998 he h1 h2 _ (fun i hi=>List.mem_range.1 hi),CQ h1 h2,h3]
 unfold Af at hr
 split at hr
 ·rename_i N e b hu hg _
  split at hr
  ·rename_i k he hz
   injection hr with hr;subst hr
   obtain ⟨h1,h2⟩:=main k N e _ hu he hz hg hC.1
   refine ⟨.bool _,?_,.rep (.val _)⟩
   unfold execOp;simp only [ho,Sem.run_bind,h1,Result.andThen_ok]
   rw [ex,ey,run_eql_struct,h2];rfl
  ·rename_i k he hz
   injection hr with hr;subst hr
   obtain ⟨h1,h2⟩:=main k N e _ hu he hz hg hC.1
   refine ⟨.bool _,?_,.rep (.val _)⟩
   unfold execOp;simp only [ho,Sem.run_bind,h1,Result.andThen_ok]
   rw [ex,ey,run_neq_struct,h2];simp
  ·cases hr
 ·cases hr
def Ao (P:Program) (s:AS) (t:TypeId) (x:AV):Option (AV×List Prop) :=
 match P.underlying t,x with
 | some (.array (n+1) _),.sl (z+1) row=>some (.ptr row 0,[cV (n+1) (z+1)≤row.length])
 | some (.array (n+1) _),.ref id=>(match look s.H id with
  | some ⟨z+1,_,_,cells⟩=>some (.addr id 0,[cV (n+1) (z+1)≤cells.length])
  | _=>none)
 | _,_=>none
theorem sV {P:Program} {w:World} {t:TypeId} {n:Nat} {e:TypeId} (hu:P.underlying t=some (.array n e)) (A:Option Addr) (l c:Nat) (h:n≤l):(Instr.arrayAt t (.slice A l c)).run P w= .ok (.pointer A) w:=by
 have:¬l<n:=ag
 simp [Instr.arrayAt,run_underlying hu,this]
theorem Et {t:TypeId} {x:Operand} (ho:o.op= .sliceToArrayPointer t x) (hr:Ao P s t (bq s x)=some r):dd P s o r.1 r.2:=by
 intro hC S0 w0 n O a w φ hs
 have dx:=hs.bq x
 unfold Ao at hr
 split at hr
 ·rename_i N e z row hu hx
  injection hr with hr;subst hr
  rw [hx] at dx
  have bV:=p7 dx
  generalize hv:a.eval x=v at bV
  cases bV with
  | sl A l c e' us GC hlen hn hc hm ha iE =>
   have iX:=hC.1
   rw [bu] at iX
   rw [hn,Nat.mul_comm (z+1)] at iX
   have T_:N+1≤l:=Nat.le_of_mul_le_mul_right iX ag
   obtain ⟨ad,rfl,hS,bt⟩:=ha (by rw [hn];exact Nat.mul_pos ag ag)
   refine ⟨.pointer (some ad),?_,?_⟩
   ·unfold execOp;simp only [ho,hv,Sem.run_bind,sV hu (some ad) l c T_,Result.andThen_ok];rfl
   ·have:=cz.ptr (S:=aO S0 w φ O) (w:=w) ad us row 0 hlen hS bt iE
    rw [dE] at this
    exact .rep this
 ·rename_i N e id hu hx
  rw [hx] at dx
  split at hr
  ·rename_i z p f cells lX
   injection hr with hr;subst hr
   have iX:=hC.1
   rw [bu] at iX
   generalize hv:a.eval x=v at dx
   cases dx with
   | rep bV=>cases bV
   | ref _ e' m g l c hi hm hc Le bT =>
    have oc:=br (φ:=φ) lX
    rw [hi] at oc
    simp at oc
    obtain ⟨h1,h2,h3⟩:=oc
    subst h1 h2
    rw [hm,Nat.mul_comm (z+1)] at iX
    have T_:N+1≤l:=Nat.le_of_mul_le_mul_right iX ag
    refine ⟨.pointer (some ⟨g,0,none⟩),?_,.addr id 0 _ _ g hi⟩
    unfold execOp;simp only [ho,hv,Sem.run_bind,sV hu _ l c T_,Result.andThen_ok];rfl
   | cB _ e' hi =>
    have oc:=br (φ:=φ) lX
    rw [hi] at oc
    simp at oc
    rw [←oc.2.1] at iX
    simp at iX
  ·cases hr
 ·cases hr
end
def lK:AV->Option (List AV)
 | .val u=>(match u.oneCell' with|true=>some [.val u]|false=>none)
 | .agg cs=>some cs
 | .arr cs=>some cs
 | .b_ _=>none
 | .dead=>none
 | .own _ _=>none
 | .box _=>none
 | x=>some [x]
theorem GO {v:Value} (h:v.oneCell'=true):v.cells= [v].toArray:=by
 cases v<;>first|rfl|cases h
theorem mC {I:Info} {S:Nat->Prop} {w:World} {v:Value} {x:AV} {l:List AV} (hd:Den I S w v x) (hl:lK x=some l) :
  ∃vs:List Value,v.cells=vs.toArray∧vs.length=l.length∧ ∀(j:Nat) u c,vs[j]?=some u->l[j]?=some c->Den I S w u c:=by
 have single:∀y,Den I S w v y->v.oneCell'=true->l= [y]-> ∃vs:List Value,v.cells=vs.toArray∧vs.length=l.length∧ ∀(j:Nat) u c,vs[j]?=some u->l[j]?=some c->Den I S w u c:=by
  intro y hy ho hl
  subst hl
  refine ⟨[v],GO ho,rfl,fun j u c hu hc=>?_⟩
  cases j with
  | zero=>simp at hu hc;subst hu;subst hc;exact hy
  | succ j=>simp at hu
 have x7:=hd
 cases hd with
 | rep h=>cases h with
  | val v =>
   unfold lK at hl
   simp only at hl
   split at hl
   ·rename_i ho;injection hl with hl;exact single _ x7 ho hl.symm
   ·cases hl
  | nil=>injection hl with hl;exact single _ x7 rfl hl.symm
  | agg vs cs hlen h=>injection hl with hl;subst hl;exact ⟨vs,rfl,hlen,fun j u c hu hc=>.rep (h j u c hu hc)⟩
  | b_ vs cs hlen h=>cases hl
  | arr vs cs hlen h=>injection hl with hl;subst hl;exact ⟨vs,rfl,hlen,fun j u c hu hc=>.rep (h j u c hu hc)⟩
  | sl=>injection hl with hl;exact single _ x7 rfl hl.symm
  | sm=>injection hl with hl;exact single _ x7 rfl hl.symm
  | ptr=>injection hl with hl;exact single _ x7 rfl hl.symm
  | lu=>injection hl with hl;exact single _ x7 rfl hl.symm
 | agg vs cs hlen h=>injection hl with hl;subst hl;exact ⟨vs,rfl,hlen,h⟩
 | b_=>cases hl
 | dead=>cases hl
 | ref=>injection hl with hl;exact single _ x7 rfl hl.symm
 | cB=>injection hl with hl;exact single _ x7 rfl hl.symm
 | pre=>injection hl with hl;exact single _ x7 rfl hl.symm
 | dH=>injection hl with hl;exact single _ x7 rfl hl.symm
 | jE=>injection hl with hl;exact single _ x7 rfl hl.symm
 | addr=>injection hl with hl;exact single _ x7 rfl hl.symm
def Ct (place:Nat->Option (Nat×Nat)) (cells:List AV):List (Nat×AV)->Option (List AV)
 | []=>some cells
 | (i,x)::rest=>match place i,lK x with
  | some (off,size),some l=>(match Nat.beq l.length size,Nat.ble (off+l.length) cells.length with
   | true,true=>Ct place (cells.take off++l++cells.drop (off+l.length)) rest
   | _,_=>none)
  | _,_=>none
theorem kI (off:Nat):∀(vs:List Value) (k:Nat) (cells:Array Value) (p:Nat),((vs.zipIdx k).foldl (fun cs (cj:Value×Nat)=>cs.setIfInBounds (off+cj.2) cj.1) cells)[p]?=if off+k≤p∧p<off+k+vs.length∧p<cells.size then vs[p-(off+k)]? else cells[p]?
 | [],k,cells,p=>by simp;omega
 | v::vs,k,cells,p=>by
  simp only [List.zipIdx_cons,List.foldl_cons]
  rw [kI off vs (k+1)]
  simp only [Array.size_setIfInBounds,List.length_cons]
  by_cases h1:off+(k+1)≤p∧p<off+(k+1)+vs.length∧p<cells.size
  ·rw [if_pos h1,if_pos ag]
   rw [show p-(off+k)=(p-(off+(k+1)))+1 by omega,List.getElem?_cons_succ]
  ·rw [if_neg h1]
   by_cases h2:off+k=p
   ·subst h2
    by_cases h3:off+k<cells.size
    ·rw [Array.getElem?_setIfInBounds_self_of_lt h3,if_pos ag];simp
    ·rw [if_neg ag,Array.getElem?_eq_none (by simp;omega),Array.getElem?_eq_none ag]
   ·rw [Array.getElem?_setIfInBounds_ne h2,if_neg ag]
theorem jy (off:Nat):∀(vs:List (Value×Nat)) (cells:Array Value),(vs.foldl (fun cs (cj:Value×Nat)=>cs.setIfInBounds (off+cj.2) cj.1) cells).size=cells.size
 | [],_=>rfl
 | v::vs,cells=>by rw [List.foldl_cons,jy off vs];simp
theorem z1 {I:Info} {S:Nat->Prop} {w:World} (place:Nat->Option (Nat×Nat)):∀(parts:List (Nat×AV)) (mI:List (Nat×Value)) (cells out:List AV) (cs:Array Value),Ct place cells parts=some out->mI.map (·.1)=parts.map (·.1) ->
  (∀(j:Nat) v x,mI[j]?=some v->parts[j]?=some x->Den I S w v.2 x.2)->cs.size=cells.length->(∀(j:Nat) u c,cs[j]?=some u->cells[j]?=some c->Den I S w u c) ->
  ∃us:List Value,Instr.fill place cs mI=some us.toArray∧us.length=out.length∧ ∀(j:Nat) u c,us[j]?=some u->out[j]?=some c->Den I S w u c
 | [],mI,cells,out,cs,hf,hm,hp,hs,hd=>by
  have:mI= []:=by simpa using hm
  subst this
  injection hf with hf;subst hf
  exact ⟨cs.toList,by simp [Instr.fill],by simpa using hs,fun j u c hu hc=>hd j u c (by simpa using hu) hc⟩
 | (i,x)::parts,mI,cells,out,cs,hf,hm,hp,hs,hd=>by
  cases mI with
  | nil=>simp at hm
  | cons p mI =>
   obtain ⟨i',v⟩:=p
   simp only [List.map_cons,List.cons.injEq] at hm
   obtain ⟨hi,hm⟩:=hm
   subst hi
   have hv:=hp 0 (i',v) (i',x) rfl rfl
   simp only [Ct] at hf
   split at hf
   ·rename_i off size l pv hl
    split at hf
    ·rename_i Lj sf
     have h1:=Nat.eq_of_beq_eq_true Lj
     have h2:off+l.length≤cells.length:=Nat.le_of_ble_eq_true sf
     obtain ⟨vs,FL,hlen,dX⟩:=mC hv hl
     have hz:v.cells.zipIdx.foldl (fun cs (cj:Value×Nat)=>cs.setIfInBounds (off+cj.2) cj.1) cs=(vs.zipIdx).foldl (fun cs (cj:Value×Nat)=>cs.setIfInBounds (off+cj.2) cj.1) cs:=by
      rw [FL];simp
     have ih:=z1 (I:=I) (S:=S) (w:=w) place parts mI (cells.take off++l++cells.drop (off+l.length)) out ((vs.zipIdx).foldl (fun cs (cj:Value×Nat)=>cs.setIfInBounds (off+cj.2) cj.1) cs) hf hm (fun j v x hv hx=>hp (j+1) v x (by simpa using hv) (by simpa using hx)) (by
       rw [jy,hs];simp only [List.length_append,List.length_take,List.length_drop];omega) (fun j u c hu hc=>by
       rw [kI off vs 0 cs j] at hu
       simp only [Nat.add_zero] at hu
       split at hu
       ·rename_i hj
        rw [List.getElem?_append_left (by simp only [List.length_append,List.length_take];omega),List.getElem?_append_right (by simp only [List.length_take];omega)] at hc
        refine dX _ u c hu ?_
        rw [←hc];congr 1;simp only [List.length_take];omega
       ·rename_i hj
        have XP:j<cs.size:=by
         rcases Nat.lt_or_ge j cs.size with h|h
         ·exact h
         ·rw [Array.getElem?_eq_none h] at hu;cases hu
        refine hd j u c hu ?_
        by_cases Wv:j<off
        ·rw [List.getElem?_append_left (by simp only [List.length_append,List.length_take];omega),List.getElem?_append_left (by simp only [List.length_take];omega),List.getElem?_take,if_pos Wv] at hc
         exact hc
        ·rw [List.getElem?_append_right (by simp only [List.length_append,List.length_take];omega),List.getElem?_drop] at hc
         rw [←hc];congr 1;simp only [List.length_append,List.length_take];omega)
     obtain ⟨us,G4,r⟩:=ih
     refine ⟨us,?_,r⟩
     have QS:v.cells.size=l.length:=by rw [FL];simpa using hlen
     unfold Instr.fill
     rw [pv]
     simp only
     rw [if_neg (by rw [QS,←h1,hs];simp;omega),hz]
     exact G4
    ·cases hf
   ·cases hf
def tY (P:Program):List Field->Option (List (Nat×Nat))
 | []=>some []
 | f::l=>match eH P f.type,tY P l with|some z,some m=>some ((f.offset,z)::m)|_,_=>none
theorem run_places {P:Program} {w:World}:∀(l:List Field) (m:List (Nat×Nat)),tY P l=some m->(l.mapM fun f=>(do pure (f.offset,←sizeOf f.type):Sem (Nat×Nat))).run P w= .ok m w
 | [],m,h=>by cases h;rfl
 | f::l,m,h=>by
  simp only [tY] at h
  split at h
  ·rename_i z q hz hq
   cases h
   have:=run_places (w:=w) l q hq
   have BS:(sizeOf f.type).run P w= .ok z w:=run_sizeOf hz
   simp only [List.mapM_cons,Sem.run_bind,BS,Result.andThen_ok,Sem.run_pure,this]
  ·cases h
def partsOf (s:AS):List (Nat×Operand)->List (Nat×AV)
 | []=>[]
 | (i,x)::l=>(i,bq s x)::partsOf s l
def An (P:Program) (s:AS) (t:TypeId) (parts:List (Nat×Operand)):Option (AV×List Prop) :=
 match (P.info? t).bind (·.zero),P.underlying t with
 | some z,some (.struct fields)=>(match tY P fields.toList with
  | some places=>(match Ct (fun i=>places[i]?) (z.cells.toList.map bB) (partsOf s parts) with|some l=>some (.agg l,[])|none=>none)
  | none=>none)
 | some z,some (.array _ el)=>(match eH P el with
  | some k=>(match Ct (fun i=>some (i*k,k)) (z.cells.toList.map bB) (partsOf s parts) with|some l=>some (.agg l,[])|none=>none)
  | none=>none)
 | _,_=>none
section
variable {P:Program} {s:AS} {o:Oper} {h:Hint} {r:AV×List Prop}
theorem td (parts:List (Nat×Operand)) (f:Operand->Value):(parts.map fun p=>(p.1,f p.2)).map (·.1)=(partsOf s parts).map (·.1):=by
 induction parts with
 | nil=>rfl
 | cons p l ih=>obtain ⟨i,x⟩:=p;simp only [List.map_cons,partsOf,ih]
theorem nV {S0:bo} {w0 w:World} {n:Nat} {O:List Nat} {a:Act} {φ:Nat->Option Nat} (hs:aJ S0 w0 n O s a w φ):∀(parts:List (Nat×Operand)) (j:Nat) (v:Nat×Value) (x:Nat×AV),(parts.map fun p=>(p.1,a.eval p.2))[j]?=some v->(partsOf s parts)[j]?=some x->Den (az s.H φ) (aO S0 w φ O) w v.2 x.2
 | [],j,v,x,hv,hx=>by simp at hv
 | (i,y)::l,j,v,x,hv,hx=>by
  cases j with
  | zero=>simp [partsOf] at hv hx;subst hv;subst hx;exact hs.bq y
  | succ j=>exact nV hs l j v x (by simpa using hv) (by simpa [partsOf] using hx)
theorem i5 {w:World} {t:TypeId} {z:Value} (h:(P.info? t).bind (·.zero)=some z):(zeroValue t).run P w= .ok z w:=by
 cases hi:P.info? t with
 | none=>rw [hi] at h;cases h
 | some i=>rw [hi] at h;simp at h;simp [zeroValue,typeInfo,hi,h]
theorem ux {I:Info} {S:Nat->Prop} {w:World} (z:Value) (j:Nat) (u:Value) (c:AV) (hu:z.cells[j]?=some u) (hc:(z.cells.toList.map bB)[j]?=some c):Den I S w u c:=by
 rw [List.getElem?_map] at hc
 have:z.cells.toList[j]?=some u:=by simpa using hu
 rw [this] at hc
 injection hc with hc;subst hc
 exact .rep (gk u)
theorem Es {t:TypeId} {parts:Array (Nat×Operand)} (ho:o.op= .build t parts) (hr:An P s t parts.toList=some r):dd P s o r.1 r.2:=by
 intro hC S0 w0 n O a w φ hs
 unfold An at hr
 have pv:(parts.map fun p=>(p.1,a.eval p.2)).toList=parts.toList.map fun p=>(p.1,a.eval p.2):=by simp
 split at hr
 ·rename_i z fields hz hu
  split at hr
  ·rename_i places hp
   split at hr
   ·rename_i l hl
    injection hr with hr;subst hr
    obtain ⟨us,G4,hlen,dX⟩:=z1 (I:=az s.H φ) (S:=aO S0 w φ O) (w:=w) (fun i=>places[i]?) (partsOf s parts.toList) (parts.toList.map fun p=>(p.1,a.eval p.2)) _ l z.cells hl (td _ _) (nV hs parts.toList) (by simp) (ux z)
    refine ⟨.agg us.toArray,?_,.agg us l hlen dX⟩
    have hm:(fields.mapM fun f=>(do pure (f.offset,←sizeOf f.type):Sem (Nat×Nat))).run P w= .ok places.toArray w:=by
     rw [Array.mapM_eq_mapM_toList,Sem.run_map,run_places _ _ hp];rfl
    have Rs:Instr.fill (fun i=>places.toArray[i]?) z.cells (parts.map fun p=>(p.1,a.eval p.2)).toList=some us.toArray:=by
     rw [pv,←G4];congr 1;funext i;simp
    unfold execOp
    simp only [ho,Instr.build,Sem.run_bind,i5 hz,Result.andThen_ok,run_underlying hu]
    rw [hm]
    simp only [Result.andThen_ok]
    rw [Rs]
    rfl
   ·cases hr
  ·cases hr
 ·rename_i z n' el hz hu
  split at hr
  ·rename_i k hk
   split at hr
   ·rename_i l hl
    injection hr with hr;subst hr
    obtain ⟨us,G4,hlen,dX⟩:=z1 (I:=az s.H φ) (S:=aO S0 w φ O) (w:=w) (fun i=>some (i*k,k)) (partsOf s parts.toList) (parts.toList.map fun p=>(p.1,a.eval p.2)) _ l z.cells hl (td _ _) (nV hs parts.toList) (by simp) (ux z)
    refine ⟨.agg us.toArray,?_,.agg us l hlen dX⟩
    have o9:(sizeOf el).run P w= .ok k w:=run_sizeOf hk
    unfold execOp
    simp only [ho,Instr.build,Sem.run_bind,i5 hz,Result.andThen_ok,run_underlying hu,o9]
    rw [pv,G4]
    rfl
   ·cases hr
  ·cases hr
 ·cases hr
def qV (P:Program) (s:AS) (o:Oper) (h:Hint):Option (AV×List Prop) :=
 match o.op with
 | .move x=>some (fin h (bq s x,[]))
 | .assign x=>some (fin h (bq s x,[]))
 | .binOp op t x y _=>(match bq s x,bq s y with
  | .val u,.val v=>(match KB P op t x y u v with|some r=>some (fin h r)|none=>none)
  | .agg cs,.agg ds=>(match Ag P op t cs ds with|some r=>some (fin h r)|none=>none)
  | .arr cs,.arr ds=>Af P op t cs ds h
  | _,_=>none)
 | .unOp op _ x=>(match bq s x with| .val u=>(match Pm P op u with|some r=>some (fin h r)|none=>none)|_=>none)
 | .convert src dst x=>Eo P s src dst (bq s x) h
 | .load t x=>Ec P s t (bq s x) h
 | .fieldAddr t x f=>ot P t (bq s x) f
 | .indexAddr t x i=>(match bq s i with| .val (.int _ n)=>Kv P s t (bq s x) n h|_=>none)
 | .index t x i=>(match bq s i with| .val (.int _ n)=>Ab P t (bq s x) n h|_=>none)
 | .slice t x lo hi mx=>(match wF s lo hi mx with|some c=>z_ P s t (bq s x) c h|none=>none)
 | .field t x f=>Ad P t (bq s x) f h
 | .extract x i=>sy (bq s x) i
 | .nilCheck x=>Kp (bq s x)
 | .pick c x y=>(match D_ s c x y h with|some r=>some (fin h r)|none=>none)
 | .build t parts=>An P s t parts.toList
 | .sliceToArrayPointer t x=>Ao P s t (bq s x)
 | .call ⟨.builtin .len,⟨[x]⟩,ts⟩=>Kt P s ts o.type (bq s x) h
 | .call ⟨.builtin b,xs,ts⟩=>(match uI s xs.toList with|some us=>(match Po P b ts o.type us with|some r=>some (fin h r)|none=>none)|none=>none)
 | _=>none
theorem lh (hr:qV P s o h=some r):dd P s o r.1 r.2:=by
 unfold qV at hr
 split at hr
 ·rename_i x ho
  injection hr with hr;subst hr
  refine gR fun _ S0 w0 n O a w φ hs=>⟨a.eval x,?_,hs.bq x⟩
  unfold execOp;simp only [ho];rfl
 ·rename_i x ho
  injection hr with hr;subst hr
  refine gR fun _ S0 w0 n O a w φ hs=>⟨a.eval x,?_,hs.bq x⟩
  unfold execOp;simp only [ho];rfl
 ·rename_i op t x y t' ho
  split at hr
  ·rename_i u v hu hv
   split at hr
   ·rename_i q hq
    injection hr with hr;subst hr
    exact gR (KA ho hu hv hq)
   ·cases hr
  ·rename_i cs ds hu hv
   split at hr
   ·rename_i q hq
    injection hr with hr;subst hr
    exact gR (Eh ho hu hv hq)
   ·cases hr
  ·rename_i cs ds hu hv
   exact Eg ho hu hv hr
  ·cases hr
 ·rename_i op t x ho
  split at hr
  ·rename_i u hu
   split at hr
   ·rename_i q hq
    injection hr with hr;subst hr
    exact gR (MH ho hu hq)
   ·cases hr
  ·cases hr
 ·rename_i ho;exact Hy ho hr
 ·rename_i ho;exact Ht ho hr
 ·rename_i ho;exact wq ho hr
 ·rename_i ho
  split at hr
  ·rename_i hi;exact Ku ho hi hr
  ·cases hr
 ·rename_i ho
  split at hr
  ·rename_i hi;exact Ed ho hi hr
  ·cases hr
 ·rename_i ho
  split at hr
  ·rename_i hc;exact D9 ho hc hr
  ·cases hr
 ·rename_i ho;exact Ef ho hr
 ·rename_i ho;exact Ae ho hr
 ·rename_i ho;exact Ko ho hr
 ·rename_i ho
  split at hr
  ·rename_i q hq
   injection hr with hr;subst hr
   exact gR (Hq ho hq)
  ·cases hr
 ·rename_i ho;exact Es ho hr
 ·rename_i ho;exact Et ho hr
 ·rename_i ho;exact Kq ho hr
 ·rename_i b xs ts _ ho
  split at hr
  ·rename_i us hu
   split at hr
   ·rename_i q hq
    injection hr with hr;subst hr
    exact gR (MI ho hu hq)
   ·cases hr
  ·cases hr
 ·cases hr
end
def mF (P:Program) (n:Nat) (s:AS) (o:Oper) (s':AS) (C:List Prop):Prop :=
 bw C-> ∀S0 w0 a w Q,iI S0 w0 n s a w->o.wp P a w (fun a' w'=>iI S0 w0 n s' a' w') Q
def gF (n:Nat) (s:AS) (d:Option Nat) (x:AV):Option AS :=
 match d with
 | none=>some s
 | some d=>(match Nat.blt d n,Nat.ble n 1000000000 with|true,true=>some (lO s d x)|_,_=>none)
theorem d_ {S0:bo} {w0 w:World} {n:Nat} {O:List Nat} {s s':AS} {a:Act} {φ:Nat->Option Nat} {d:Option Nat} {v:Value} {x:AV} (h:aJ S0 w0 n O s a w φ) (hx:Den (az s.H φ) (aO S0 w φ O) w v x) (hp:gF n s d x=some s'):aJ S0 w0 n O s' (a.put d v) w φ:=by
 unfold gF at hp
 split at hp
 ·injection hp with hp;subst hp
  exact ⟨h.j7,h.j_,h.cX,h.cA,h.rows,h.only,h.inj,h.cW,h.apart,h.new⟩
 ·split at hp
  ·rename_i d _ _ hb _
   injection hp with hp;subst hp
   have hd:d<n:=by simpa [Nat.blt_eq] using hb
   exact h.put hd hx
  ·cases hp
theorem cS {P:Program} {o:Oper} {a:Act} {w w':World} {v:Value} {next:Act->World->Prop} {Q:Exit->Act->World->Prop} (bZ:(execOp a.eval o).run P w= .ok (.value v) w') (hn:next (a.put o.dst v) w'):o.wp P a w next Q:=by
 unfold Oper.wp
 rw [bZ]
 exact hn
theorem ja {n:Nat} {s s':AS} {d:Nat} {x:AV} (hp:gF n s (some d) x=some s'):d<1000000000000:=by
 unfold gF at hp
 simp only at hp
 split at hp
 ·rename_i h1 h2
  have h1:d<n:=by simpa [Nat.blt_eq] using h1
  have h2:=Nat.le_of_ble_eq_true h2
  omega
 ·cases hp
theorem IY {P:Program} {n:Nat} {s s':AS} {o:Oper} {x:AV} {C:List Prop} (h:dd P s o x C) (hp:gF n s o.dst x=some s'):mF P n s o s' C:=by
 intro hC S0 w0 a w Q ⟨φ,hs⟩
 obtain ⟨v,bZ,dX⟩:=h hC S0 w0 n [] a w φ hs
 unfold Oper.wp
 rw [bZ]
 exact ⟨φ,d_ hs dX hp⟩
def named (h:Hint) (cells:List AV):List AV×List Prop:=match h.av with|some (.arr row)=>(row,[cells=row])|_=>(cells,[])
theorem ir {h:Hint} {cells:List AV} {C:List Prop} (hC:bw ((named h cells).2++C)):(named h cells).1=cells∧bw C:=by
 unfold named at *
 split at hC
 ·exact ⟨hC.1.symm,hC.2⟩
 ·exact ⟨rfl,hC⟩
def install (s:AS) (id:Nat) (r:Row):AS:=⟨(bX id s).F,(id,r)::(bX id s).H⟩
section
variable {S0:bo} {w0 w w':World} {n:Nat} {s:AS} {a:Act} {φ:Nat->Option Nat}
theorem aJ.mL (h:aJ S0 w0 n [] s a w φ) (id:Nat):aJ S0 w0 n [] (bX id s) a w (erase φ id):=by
 cases bY:φ id with
 | none=>exact h.jJ id [] (by rw [bY])
 | some g=>exact (h.jJ id [g] (by rw [bY])).vY
theorem dr (id:Nat):look (bX id s).H id=none:=by
 unfold bX;rw [cp,bD,if_pos rfl];rfl
theorem aJ.fresh (h:aJ S0 w0 n [] s a w φ) (id:Nat) (r:Row) (hid:id<1000000000000) (JG:w'.os=w.os) (vG:w'.tape=w.tape) (vH:w'.output=w.output) (dB:w.heap.size<w'.heap.size) (hb:∀b,b<w.heap.size->w'.heap[b]?=w.heap[b]?)
  {cur:Array Value} {te:TypeId} {fr:Nat×Nat} (hg:w'.heap[w.heap.size]?=some (.cells cur te fr)) (gZ:∀j,j<cur.size-> ¬(fr.1≤j∧j<fr.2)) (hl:r.cells.length≤cur.size) (nn:r.full=true->cur.size=r.cells.length)
  (hc:∀(j:Nat) u x,cur[j]?=some u->r.cells[j]?=some x->(r.pure=true->cz (aO S0 w φ []) w u x)∧(r.pure=false-> ∃y,x=aH id y∧Den (az s.H φ) (aO S0 w φ []) w u y)) :
  aJ S0 w0 n [] (install s id r) a w' (fU (erase φ id) id w.heap.size):=by
 have h1:=h.mL id
 have h2:=h1.await w.heap.size (Nat.le_refl _)
 have h3:=h2.xw (w':=w') (fun g hg=>by simp at hg;rw [hg];exact .inl h.cX.size) JG vG vH (Nat.le_of_lt dB) (fun b Lj _=>hb b Lj)
 have Vv:∀b,aO S0 w φ [] b->aO S0 w (erase φ id) [] b:=by
  intro b ⟨h1,h2,h3,h4⟩
  refine ⟨h1,h2,fun i hi=>?_,h4⟩
  unfold erase at hi
  split at hi
  ·cases hi
  ·exact h3 i hi
 have hF:∀b,aO S0 w (erase φ id) [] b->aO S0 w' (erase φ id) [w.heap.size] b∧w'.heap[b]?=w.heap[b]?:=by
  intro b ⟨h1,h2,h3⟩
  exact ⟨⟨ag,by simp;omega,h3⟩,hb b h1⟩
 refine h3.yn ⟨.inl hid,.inl h.cX.size⟩ dB (by simp) (dr id) ⟨cur,te,fr,hg,gZ,hl,nn,fun j u x hu hx=>?_⟩
 obtain ⟨hp,hi⟩:=hc j u x hu hx
 unfold bg
 cases qP:r.pure with
 | true=>exact ((hp qP).mono fun b hb=>⟨Vv b hb,rfl⟩).mono hF
 | false =>
  obtain ⟨y,rfl,hy⟩:=hi qP
  have hk:=(vx id (n9 id) Vv).all hy
  exact hk.mono (fun _ _ h=>h) hF (fun i e m g hi=>by
   obtain ⟨q,-,-,-,hg⟩:=aT hi
   unfold aY;rw [hb g (h1.cW i g hg).2])
theorem fD (id:Nat) (r:Row) (g:Nat):az (install s id r).H (fU (erase φ id) id g) id=some (r.e,r.cells.length,some g):=by
 rw [br (r:=r) (by unfold install;rw [aD,if_pos rfl])]
 unfold fU;rw [if_pos rfl]
end
def sJ (P:Program) (t:TypeId):Nat:=match P.underlying t with|some (.array _ el)=>(match eH P el with|some k=>k|none=>1)|_=>1
theorem iC {α:Type} (f:Nat->α):(Array.range 0).map f= #[]:=Array.eq_empty_of_size_eq_zero (by simp)
def oS (P:Program) (n:Nat) (s:AS) (d t:Nat) (h:Hint):Option (AS×List Prop) :=
 match (P.info? t).bind (·.zero) with
 | some z=>(match h.av with
  | some (.arr row)=>(match gF n (install s d ⟨sJ P t,true,true,row⟩) (some d) (.addr d 0) with|some s'=>some (s',[z.cells.toList.map bB=row])|none=>none)
  | _=>(match gF n (install s d ⟨sJ P t,false,true,z.cells.toList.map bB⟩) (some d) (.addr d 0) with|some s'=>some (s',[])|none=>none))
 | none=>none
theorem dR (w:World) (o:Obj):({w with heap:=w.heap.push o}:World).heap[w.heap.size]?=some o:=by simp
theorem cG (w:World) (o:Obj) (b:Nat) (h:b<w.heap.size):({w with heap:=w.heap.push o}:World).heap[b]?=w.heap[b]?:=by
 show (w.heap.push o)[b]?=_
 rw [Array.getElem?_push,if_neg ag]
section
variable {P:Program} {n:Nat} {s:AS} {o:Oper} {h:Hint} {q:AS×List Prop}
theorem DH (id:Nat) (v:Value):aH id (bB v)=bB v:=by
 unfold bB
 split<;>rfl
theorem wx {t d:Nat} (ho:o.op= .alloc t) (hd:o.dst=some d) (hr:oS P n s d t h=some q):mF P n s o q.1 q.2:=by
 intro hC S0 w0 a w Q ⟨φ,hs⟩
 unfold oS at hr
 split at hr
 ·rename_i z hz
  have bZ:(execOp a.eval o).run P w= .ok (.value (.pointer (some ⟨w.heap.size,0,none⟩))) {w with heap:=w.heap.push (.cells z.cells t (0,0))}:=by
   unfold execOp
   simp [ho,Instr.alloc,i5 hz,newVar,newRow]
  refine cS bZ ?_
  rw [hd]
  split at hr
  ·rename_i row _
   split at hr
   ·rename_i s' bT
    injection hr with hr;subst hr
    have e:=hC.1
    have h1:=hs.fresh (w':={w with heap:=w.heap.push (.cells z.cells t (0,0))}) d ⟨sJ P t,true,true,row⟩ (ja bT) rfl rfl rfl (by simp) (cG w _) (dR w _) (by simp) (by simp [←e]) (by simp [←e]) (fun j u x hu hx=>⟨fun _=>by
     simp only [←e,List.getElem?_map] at hx
     have:z.cells.toList[j]?=some u:=by simpa using hu
     rw [this] at hx;injection hx with hx;subst hx;exact gk u,fun h=>by cases h⟩)
    exact ⟨_,d_ h1 (.addr d 0 _ _ _ (fD d _ _)) bT⟩
   ·cases hr
  ·split at hr
   ·rename_i s' bT
    injection hr with hr;subst hr
    have h1:=hs.fresh (w':={w with heap:=w.heap.push (.cells z.cells t (0,0))}) d ⟨sJ P t,false,true,z.cells.toList.map bB⟩ (ja bT) rfl rfl rfl (by simp) (cG w _) (dR w _) (by simp) (by simp) (by simp) (fun j u x hu hx=>⟨fun h=>(by cases h),fun _=>by
     simp only [List.getElem?_map] at hx
     have:z.cells.toList[j]?=some u:=by simpa using hu
     rw [this] at hx;injection hx with hx;subst hx
     exact ⟨bB u,(DH d u).symm,.rep (gk u)⟩⟩)
    exact ⟨_,d_ h1 (.addr d 0 _ _ _ (fD d _ _)) bT⟩
   ·cases hr
 ·cases hr
def Kz (P:Program) (n:Nat) (s:AS) (d t:Nat) (x:AV):Option (AS×List Prop) :=
 match x with
 | .arr row=>(match gF n (install s d ⟨sJ P t,true,true,row⟩) (some d) (.addr d 0) with|some s'=>some (s',[])|none=>none)
 | x=>(match lK x with
  | some l=>(match gF n (install s d ⟨sJ P t,false,true,l.map (aH d)⟩) (some d) (.addr d 0) with|some s'=>some (s',[])|none=>none)
  | none=>none)
theorem Ky {t d:Nat} {x:Operand} (ho:o.op= .box t x) (hd:o.dst=some d) (hr:Kz P n s d t (bq s x)=some q):mF P n s o q.1 q.2:=by
 intro hC S0 w0 a w Q ⟨φ,hs⟩
 have hx:=hs.bq x
 have bZ:(execOp a.eval o).run P w= .ok (.value (.pointer (some ⟨w.heap.size,0,none⟩))) {w with heap:=w.heap.push (.cells (a.eval x).cells t (0,0))}:=by
  unfold execOp
  simp [ho,Instr.box,newVar,newRow]
 refine cS bZ ?_
 rw [hd]
 unfold Kz at hr
 split at hr
 ·rename_i row he
  split at hr
  ·rename_i s' bT
   injection hr with hr;subst hr
   rw [he] at hx
   obtain ⟨vs,hv,hl,bV⟩:=q_ hx
   have dS:(a.eval x).cells=vs.toArray:=by rw [hv];rfl
   rw [dS]
   have h1:=hs.fresh (w':={w with heap:=w.heap.push (.cells vs.toArray t (0,0))}) d ⟨sJ P t,true,true,row⟩ (ja bT) rfl rfl rfl (by simp) (cG w _) (dR w _) (by simp) (by simp [hl]) (by simp [hl]) (fun j u x hu hx=>⟨fun _=>bV j u x (by simpa using hu) hx,fun h=>by cases h⟩)
   exact ⟨_,d_ h1 (.addr d 0 _ _ _ (fD d _ _)) bT⟩
  ·cases hr
 ·split at hr
  ·rename_i l hl
   split at hr
   ·rename_i s' bT
    injection hr with hr;subst hr
    obtain ⟨vs,dS,hlen,dX⟩:=mC hx hl
    rw [dS]
    have h1:=hs.fresh (w':={w with heap:=w.heap.push (.cells vs.toArray t (0,0))}) d ⟨sJ P t,false,true,l.map (aH d)⟩ (ja bT) rfl rfl rfl (by simp) (cG w _) (dR w _) (by simp) (by simp [hlen]) (by simp [hlen]) (fun j u x hu hx=>⟨fun h=>(by cases h),fun _=>by
     simp only [List.getElem?_map] at hx
     cases hj:l[j]? with
     | none=>rw [hj] at hx;cases hx
     | some y=>rw [hj] at hx;injection hx with hx;subst hx;exact ⟨y,rfl,dX j u y (by simpa using hu) hj⟩⟩)
    exact ⟨_,d_ h1 (.addr d 0 _ _ _ (fD d _ _)) bT⟩
   ·cases hr
  ·cases hr
def QM:AV->List Nat
 | .ref i=>[i]
 | .pre i _=>[i]
 | .jE i _ _=>[i]
 | .addr i _=>[i]
 | _=>[]
def o8:AV->List Nat
 | .agg cs=>cs.flatMap QM
 | x=>QM x
def gi:AS->List Nat->Option AS
 | s,[]=>some s
 | s,i::l=>match look s.H i with
  | some r=>(match r.pure with|true=>gi (gM i r s) l|false=>none)
  | none=>gi s l
theorem gh {S0:bo} {w0 w:World} {a:Act}:∀(l:List Nat) (s s':AS) (φ:Nat->Option Nat),gi s l=some s'->aJ S0 w0 n [] s a w φ-> ∃ cy,aJ S0 w0 n [] s' a w cy
 | [],s,s',φ,h,hs=>by cases h;exact ⟨φ,hs⟩
 | i::l,s,s',φ,h,hs=>by
  simp only [gi] at h
  split at h
  ·rename_i r hr
   split at h
   ·rename_i hp
    exact gh l _ s' _ h (hs.Nb hr hp)
   ·cases h
  ·exact gh l s s' φ h hs
def iA:AV->Bool
 | .val u=>u.oneCell'
 | .nil=>true
 | .sl _ _=>true
 | .ptr _ _=>true
 | .lu _ _=>true
 | _=>false
def er:List AV->Bool
 | []=>true
 | x::l=>match iA x with|true=>er l|false=>false
theorem e_ {I:Info} {S:Nat->Prop} {w:World} {v:Value} {x:AV} (hd:Den I S w v x) (hp:iA x=true):cz S w v x∧v.oneCell'=true:=by
 cases hd with
 | rep h=>refine ⟨h,?_⟩;cases h<;>first|exact hp|rfl|cases hp
 | _=>cases hp
theorem iO:∀ {l:List AV} {j:Nat} {x:AV},er l=true->l[j]?=some x->iA x=true
 | [],j,x,_,h=>by simp at h
 | y::l,j,x,hp,h=>by
  simp only [er] at hp
  split at hp
  ·rename_i hy
   cases j with
   | zero=>simp at h;subst h;exact hy
   | succ j=>exact iO hp (by simpa using h)
  ·cases hp
def gu (s:AS) (z:Nat):Nat->List (Nat×Operand)->Option (List AV)
 | _,[]=>some []
 | i,(j,x)::l=>match Nat.beq i j,lK (bq s x),gu s z (i+1) l with
  | true,some c,some m=>(match Nat.beq c.length z with|true=>some (c++m)|false=>none)
  | _,_,_=>none
def wj (P:Program) (n:Nat) (s:AS) (d t len:Nat) (parts:List (Nat×Operand)) (h:Hint):Option (AS×List Prop) :=
 match P.underlying t with
 | some (.slice el)=>(match eH P el,(P.info? el).bind (·.zero),gi s (parts.flatMap fun p=>o8 (bq s p.2)) with
  | some (z+1),some zero,some s1=>(match gu s1 (z+1) 0 parts,Nat.beq parts.length len,Nat.ble (len*(z+1)) 16777216 with
   | some cells,true,true=>(match Nat.beq zero.cells.size (z+1) with
    | true=>(match h.av with
     | some (.arr row)=>(match er cells,gF n (install s1 d ⟨z+1,true,true,row⟩) (some d) (.ref d) with|true,some s'=>some (s',[cells=row])|_,_=>none)
     | _=>(match er cells,gF n (install s1 d ⟨z+1,true,true,cells⟩) (some d) (.ref d) with|true,some s'=>some (s',[])|_,_=>none))
    | false=>none)
   | _,_,_=>none)
  | _,_,_=>none)
 | _=>none
theorem DG {S0:bo} {w0 w:World} {a:Act} {φ:Nat->Option Nat} (hs:aJ S0 w0 n [] s a w φ) (z:Nat):∀(parts:List (Nat×Operand)) (i:Nat) (cells:List AV) (cur:Array Value),gu s z i parts=some cells->er cells=true->i*z+parts.length*z=cur.size ->
  cells.length=parts.length*z∧ ∃us:Array Value,Instr.fill (fun i=>some (i*z,z)) cur (parts.map fun p=>(p.1,a.eval p.2))=some us∧us.size=cur.size∧(∀j,j<i*z->us[j]?=cur[j]?)∧ ∀(j:Nat) u x,us[i*z+j]?=some u->cells[j]?=some x->cz (aO S0 w φ []) w u x
 | [],i,cells,cur,hc,hp,dB=>by cases hc;exact ⟨by simp,cur,rfl,rfl,fun _ _=>rfl,fun j u x _ hx=>by simp at hx⟩
 | (j,x)::l,i,cells,cur,hc,hp,dB=>by
  simp only [gu] at hc
  split at hc
  ·rename_i c m G_ Mr hm
   split at hc
   ·rename_i Mq
    cases hc
    have G_:=Nat.eq_of_beq_eq_true G_
    have Mq:=Nat.eq_of_beq_eq_true Mq
    subst G_
    obtain ⟨vs,hv,hlen,dX⟩:=mC (hs.bq x) Mr
    have Tp:er m=true:=by
     have key:∀(c m:List AV),er (c++m)=true->er m=true:=by
      intro c
      induction c with
      | nil=>intro m h;exact h
      | cons y c ih =>
       intro m h
       simp only [List.cons_append,er] at h
       split at h
       ·exact ih m h
       ·cases h
     exact key c m hp
    simp only [List.length_cons] at dB
    have Mc:(l.length+1)*z=l.length*z+z:=by rw [Nat.add_mul,Nat.one_mul]
    have dc:(i+1)*z=i*z+z:=by rw [Nat.add_mul,Nat.one_mul]
    have JX:((a.eval x).cells.zipIdx.foldl (fun cs (cj:Value×Nat)=>cs.setIfInBounds (i*z+cj.2) cj.1) cur)=(vs.zipIdx.foldl (fun cs (cj:Value×Nat)=>cs.setIfInBounds (i*z+cj.2) cj.1) cur):=by rw [hv];simp
    obtain ⟨FT,us,G4,Jx,Jw,OE⟩:=DG hs z l (i+1) m (vs.zipIdx.foldl (fun cs (cj:Value×Nat)=>cs.setIfInBounds (i*z+cj.2) cj.1) cur) hm Tp (by rw [jy];omega)
    rw [jy] at Jx
    refine ⟨by rw [List.length_append,List.length_cons,FT,Mq];omega,us,?_,Jx,fun j hj=>?_,fun j u y hu hy=>?_⟩
    ·rw [List.map_cons]
     unfold Instr.fill
     simp only
     have QS:(a.eval x).cells.size=z:=by rw [hv];simp;omega
     rw [if_neg (by rw [QS];simp;omega),JX]
     exact G4
    ·rw [Jw j ag,kI,if_neg ag]
    ·by_cases hj:j<z
     ·rw [Jw _ ag,kI,if_pos ag] at hu
      rw [List.getElem?_append_left ag] at hy
      have Tg:vs[j]?=some u:=by rw [←hu];congr 1;omega
      exact (e_ (dX j u y Tg hy) (iO (l:=c++m) (j:=j) hp (by rw [List.getElem?_append_left ag];exact hy))).1
     ·rw [List.getElem?_append_right ag] at hy
      refine OE (j-z) u y ?_ (by rw [←hy,Mq])
      rw [←hu];congr 1;omega
   ·cases hc
  ·cases hc
theorem Cy {t d len:Nat} {parts:Array (Nat×Operand)} (ho:o.op= .buildSlice t len parts) (hd:o.dst=some d) (hr:wj P n s d t len parts.toList h=some q):mF P n s o q.1 q.2:=by
 intro hC S0 w0 a w Q ⟨SI,l9⟩
 unfold wj at hr
 split at hr
 ·rename_i el hu
  split at hr
  ·rename_i z zero s1 hz hzero QX
   obtain ⟨φ,hs⟩:=gh _ _ _ _ QX l9
   split at hr
   ·rename_i cells dS hlen B8
    split at hr
    ·rename_i vD
     have vD:=Nat.eq_of_beq_eq_true vD
     have hlen:=Nat.eq_of_beq_eq_true hlen
     have B8:len*(z+1)≤16777216:=Nat.le_of_ble_eq_true B8
     have bZ:er cells=true-> ∃us:Array Value,(execOp a.eval o).run P w= .ok (.value (.slice (some ⟨w.heap.size,0,none⟩) len len)) {w with heap:=w.heap.push (.cells us el (0,0))}∧us.size=cells.length∧cells.length=(z+1)*len∧ ∀(j:Nat) u x,us[j]?=some u->cells[j]?=some x->cz (aO S0 w φ []) w u x:=by
      intro hp
      obtain ⟨h1,us,h2,h3,-,h4⟩:=DG hs (z+1) parts.toList 0 cells ((Array.range (len*(z+1))).map (zero.cells[· %zero.cells.size]!)) dS hp (by simp [←hlen])
      refine ⟨us,?_,by rw [h3,h1,hlen];simp,by rw [h1,hlen,Nat.mul_comm],fun j u x hu hx=>h4 j u x (by simpa using hu) hx⟩
      have BS:(sizeOf el).run P w= .ok (z+1) w:=run_sizeOf hz
      have pv:(parts.map fun p=>(p.1,a.eval p.2)).toList=parts.toList.map fun p=>(p.1,a.eval p.2):=by simp
      unfold execOp
      simp only [ho,Instr.buildSlice,Sem.run_bind,run_underlying hu,Result.andThen_ok,BS,Sem.run_ite]
      rw [if_neg ag]
      by_cases h0:len*(z+1)=0
      ·rw [if_pos h0]
       simp only [Sem.run_pure,Result.andThen_ok]
       have:(Array.range (len*(z+1))).map (fun x=>(#[]:Array Value)[x%(#[]:Array Value).size]!)=(Array.range (len*(z+1))).map (fun x=>zero.cells[x%zero.cells.size]!):=by rw [h0,iC,iC]
       rw [this,pv,h2]
       rfl
      ·rw [if_neg h0]
       simp only [i5 hzero,Result.andThen_ok,Sem.run_pure]
       rw [pv,h2]
       rfl
     have hm:len≤maxLen:=by
      have:len≤len*(z+1):=Nat.le_mul_of_pos_right _ ag
      unfold maxLen;omega
     split at hr
     ·rename_i row _
      split at hr
      ·rename_i s' hp bT
       injection hr with hr;subst hr
       obtain ⟨us,bZ,h1,h2,h3⟩:=bZ hp
       have e:=hC.1
       subst e
       refine cS bZ ?_
       rw [hd]
       have hf:=hs.fresh (w':={w with heap:=w.heap.push (.cells us el (0,0))}) d ⟨z+1,true,true,cells⟩ (ja bT) rfl rfl rfl (by simp) (cG w _) (dR w _) (by simp) (by simp [h1]) (by simp [h1]) (fun j u x hu hx=>⟨fun _=>h3 j u x hu hx,fun h=>by cases h⟩)
       exact ⟨_,d_ hf (.ref d _ _ _ len len (fD d _ _) h2 (Nat.le_refl _) hm (by unfold aY;rw [dR];show us.size=_;rw [h1,h2])) bT⟩
      ·cases hr
     ·split at hr
      ·rename_i s' hp bT
       injection hr with hr;subst hr
       obtain ⟨us,bZ,h1,h2,h3⟩:=bZ hp
       refine cS bZ ?_
       rw [hd]
       have hf:=hs.fresh (w':={w with heap:=w.heap.push (.cells us el (0,0))}) d ⟨z+1,true,true,cells⟩ (ja bT) rfl rfl rfl (by simp) (cG w _) (dR w _) (by simp) (by simp [h1]) (by simp [h1]) (fun j u x hu hx=>⟨fun _=>h3 j u x hu hx,fun h=>by cases h⟩)
       exact ⟨_,d_ hf (.ref d _ _ _ len len (fD d _ _) h2 (Nat.le_refl _) hm (by unfold aY;rw [dR];show us.size=_;rw [h1,h2])) bT⟩
      ·cases hr
    ·cases hr
   ·cases hr
  ·cases hr
 ·cases hr
def uw (zs:List AV) (k:Nat):List AV:=match zs with| [x]=>List.replicate k x|zs=>(List.replicate k zs).flatten
theorem F8 (zs:List AV) (e:Nat) (he:zs.length=e) (h0:0<e):∀(k j:Nat) (x:AV),((List.replicate k zs).flatten)[j]?=some x->zs[j%e]?=some x
 | 0,j,x,h=>by simp at h
 | k+1,j,x,h=>by
  rw [List.replicate_succ,List.flatten_cons] at h
  by_cases hj:j<e
  ·rw [List.getElem?_append_left ag] at h
   rw [Nat.mod_eq_of_lt hj];exact h
  ·rw [List.getElem?_append_right ag] at h
   have:=F8 zs e he h0 k _ x h
   rw [he] at this
   rw [show j%e=(j-e)%e from ?_]
   ·exact this
   ·rw [Nat.mod_eq_sub_mod ag]
theorem yt (zs:List AV) (e:Nat) (he:zs.length=e) (h0:0<e) (k j:Nat) (x:AV) (h:(uw zs k)[j]?=some x):zs[j%e]?=some x:=by
 unfold uw at h
 split at h
 ·simp at he
  subst he
  rw [List.getElem?_replicate] at h
  split at h
  ·injection h with h;subst h;simp [Nat.mod_one]
  ·cases h
 ·exact F8 zs e he h0 k j x h
theorem uv (zs:List AV) (e:Nat) (he:zs.length=e) (k:Nat):(uw zs k).length=e*k:=by
 unfold uw
 split
 ·simp at he;subst he;simp
 ·rw [List.length_flatten];simp [he,Nat.mul_comm]
def Eb (P:Program) (n:Nat) (s:AS) (d t:Nat) (L C:Int) (h:Hint):Option (AS×List Prop) :=
 match P.underlying t with
 | some (.slice el)=>(match P.info? el with
  | some i=>(match i.zero,i.size with
   | some zero,z+1=>(match Nat.beq zero.cells.size (z+1) with
    | true=>(match gF n (install s d ⟨z+1,true,false,(named h (uw (zero.cells.toList.map bB) h.k)).1⟩) (some d) (.ref d) with
     | some s'=>some (s',(named h (uw (zero.cells.toList.map bB) h.k)).2++ [L=(h.k:Int),C=(h.m:Int),h.k≤h.m,i.bytes*h.m≤281474976710656,h.m≤maxLen])|none=>none)
    | false=>none)
   | _,_=>none)
  | none=>none)
 | _=>none
theorem run_make {P:Program} {o:Oper} {ev:Operand->Value} {t:Nat} {l c:Operand} {kl kc:IntKind} {L C:Int} {el:TypeId} {i:TypeInfo} {zero:Value} {z k m:Nat} (ho:o.op= .makeSlice t l c) (ND:ev l= .int kl L) (ec:ev c= .int kc C) (hu:P.underlying t=some (.slice el)) (hi:P.info? el=some i) (hz:i.zero=some zero) (dB:i.size=z+1) (hb:zero.cells.size=z+1)
  (h1:L=(k:Int)) (h2:C=(m:Int)) (h3:k≤m) (h4:i.bytes*m≤281474976710656) (h5:m≤maxLen) (w:World) :
  ∃cur:Array Value,(execOp ev o).run P w= .ok (.value (.slice (some ⟨w.heap.size,0,none⟩) k m)) {w with heap:=w.heap.push (.cells cur el (0,0))}∧cur.size=(z+1)*m∧ ∀(j:Nat) u,cur[j]?=some u->zero.cells[j%(z+1)]?=some u:=by
 have XL:m≤9223372036854775807:=by have:=h5;unfold maxLen at this;omega
 have wl:IntKind.i64.wrap L=(k:Int):=by rw [h1,IntKind.wrap_i64];omega
 have wc:IntKind.i64.wrap C=(m:Int):=by rw [h2,IntKind.wrap_i64];omega
 have WS:((i.bytes:Int)*(m:Int))≤281474976710656:=by
  have Sy:((i.bytes*m:Nat):Int)≤281474976710656:=ag
  rw [Int.natCast_mul] at Sy;exact Sy
 have VV:(zeroValue el).run P w= .ok zero w:=i5 (by rw [hi];exact hz)
 have U3:(sizeOf el).run P w= .ok (z+1) w:=by simp [sizeOf,typeInfo,hi,dB]
 have U0:(typeInfo el).run P w= .ok i w:=by simp [typeInfo,hi]
 have t1:¬((m:Int)<0):=ag
 have t2:¬(281474976710656<(i.bytes:Int)*(m:Int)):=ag
 have t3:¬((k:Int)<0):=ag
 have t4:¬((m:Int)<(k:Int)):=ag
 by_cases h0:m*(z+1)=0
 ·refine ⟨#[],?_,by rw [Nat.mul_comm];simp [h0],fun j u hu=>by simp at hu⟩
  unfold execOp
  simp [ho,ND,ec,Instr.makeSlice,run_underlying hu,U0,U3,asInt,asIntOf,wl,wc,t1,t2,t3,t4,newRow]
  have:m=0:=by
   rcases Nat.eq_zero_or_pos m with h6|h6
   ·exact h6
   ·have:=Nat.mul_pos h6 (ag:0<z+1);omega
  simp [this,iC]
 ·refine ⟨(Array.range (m*(z+1))).map (zero.cells[· %zero.cells.size]!),?_,by simp [Nat.mul_comm],fun j u hu=>?_⟩
  ·unfold execOp
   simp [ho,ND,ec,Instr.makeSlice,run_underlying hu,U0,U3,asInt,asIntOf,wl,wc,t1,t2,t3,t4,newRow,VV]
   exact fun e=>absurd e h0
  ·simp only [Array.getElem?_map] at hu
   cases hj:(Array.range (m*(z+1)))[j]? with
   | none=>rw [hj] at hu;cases hu
   | some k =>
    have hk:k=j:=by
     have:=Array.getElem?_eq_some_iff.1 hj
     obtain ⟨cZ,he⟩:=this
     rw [←he];simp
    subst hk
    rw [hj] at hu
    injection hu with hu
    rw [hb] at hu
    have cZ:k%(z+1)<zero.cells.size:=by rw [hb];exact Nat.mod_lt _ ag
    simp [getElem!_pos,cZ] at hu
    simp [cZ,hu]
theorem Hs {t d:Nat} {l c:Operand} {kl kc:IntKind} {L C:Int} (ho:o.op= .makeSlice t l c) (hl:bq s l= .val (.int kl L)) (hc:bq s c= .val (.int kc C)) (hd:o.dst=some d) (hr:Eb P n s d t L C h=some q):mF P n s o q.1 q.2:=by
 intro hC S0 w0 a w Q ⟨φ,hs⟩
 have ND:a.eval l= .int kl L:=bF (hl ▸ hs.bq l)
 have ec:a.eval c= .int kc C:=bF (hc ▸ hs.bq c)
 unfold Eb at hr
 split at hr
 ·rename_i el hu
  split at hr
  ·rename_i i hi
   split at hr
   ·rename_i zero z hz dB
    split at hr
    ·rename_i hb
     have hb:=Nat.eq_of_beq_eq_true hb
     split at hr
     ·rename_i s' bT
      injection hr with hr;subst hr
      obtain ⟨Mg,hC⟩:=ir hC
      rw [Mg] at bT
      obtain ⟨h1,h2,h3,h4,h5,-⟩:=hC
      have bZ:=run_make ho ND ec hu hi hz dB hb h1 h2 h3 h4 h5 w
      obtain ⟨cur,bZ,x8,bt⟩:=bZ
      refine cS bZ ?_
      rw [hd]
      have HT:(zero.cells.toList.map bB).length=z+1:=by simp [hb]
      have HX:=uv (zero.cells.toList.map bB) (z+1) HT h.k
      have hle:(z+1)*h.k≤(z+1)*h.m:=Nat.mul_le_mul_left _ h3
      have hf:=hs.fresh (w':={w with heap:=w.heap.push (.cells cur el (0,0))}) d ⟨z+1,true,false,uw (zero.cells.toList.map bB) h.k⟩ (ja bT) rfl rfl rfl (by simp) (cG w _) (dR w _) (by simp) (by simp only [HX,x8];exact hle) (fun h=>by cases h) (fun j u x hu hx=>⟨fun _=>by
       have h6:=yt _ (z+1) HT ag _ _ _ hx
       have h7:=bt j u hu
       rw [List.getElem?_map] at h6
       have h8:zero.cells.toList[j%(z+1)]?=some u:=by simpa using h7
       rw [h8] at h6;injection h6 with h6;subst h6;exact gk u,fun h=>by cases h⟩)
      exact ⟨_,d_ hf (.ref d _ _ _ h.k h.m (fD d _ _) HX h3 h5 (by unfold aY;rw [dR];exact x8)) bT⟩
     ·cases hr
    ·cases hr
   ·cases hr
  ·cases hr
 ·cases hr
def Am (P:Program) (n:Nat) (s:AS) (d src dst:Nat) (b:ByteArray):Option (AS×List Prop) :=
 match P.underlying src,P.underlying dst with
 | some .string,some (.slice el)=>(match P.underlying el with
  | some (.int .u8)=>(match gF n (install s d ⟨1,true,false,ah b.data.toList⟩) (some d) (.ref d) with|some s'=>some (s',[b.size≤maxLen])|none=>none)
  | _=>none)
 | _,_=>none
theorem Er {src dst d:Nat} {x:Operand} {b:ByteArray} (ho:o.op= .convert src dst x) (hx:bq s x= .val (.string b)) (hd:o.dst=some d) (hr:Am P n s d src dst b=some q):mF P n s o q.1 q.2:=by
 intro hC S0 w0 a w Q ⟨φ,hs⟩
 have ex:a.eval x= .string b:=bF (hx ▸ hs.bq x)
 unfold Am at hr
 split at hr
 ·rename_i el h1 h2
  split at hr
  ·rename_i h3
   split at hr
   ·rename_i s' bT
    injection hr with hr;subst hr
    have dB:=hC.1
    have BX:=xk.of_string w b el dB
    have bZ:(execOp a.eval o).run P w= .ok (.value (.slice (some ⟨w.heap.size,0,none⟩) b.size (grownCap w b.size 0 el))) (w.drew.alloc (.cells (bytesRow b (grownCap w b.size 0 el)) el ((bytesRow b (grownCap w b.size 0 el)).size,(bytesRow b (grownCap w b.size 0 el)).size+1))):=by
     unfold execOp
     simp [ho,ex,run_bytes_of_string w src dst el b h1 h2 h3]
    refine cS bZ ?_
    rw [hd]
    have vM:=grownCap_ge w b.size 0 el
    have ue:grownCap w b.size 0 el≤maxLen:=grownCap_le_maxLen w _ 0 el dB
    have RC:(bytesRow b (grownCap w b.size 0 el)).size=grownCap w b.size 0 el:=by
     unfold bytesRow;simp only [Array.size_append,Array.size_map,Array.size_replicate]
     show b.size+_=_
     omega
    have nG:(ah b.data.toList).length=b.size:=by rw [aB];rfl
    have mo:(w.drew.alloc (.cells (bytesRow b (grownCap w b.size 0 el)) el ((bytesRow b (grownCap w b.size 0 el)).size,(bytesRow b (grownCap w b.size 0 el)).size+1))).heap[w.heap.size]?=some (.cells (bytesRow b (grownCap w b.size 0 el)) el ((bytesRow b (grownCap w b.size 0 el)).size,(bytesRow b (grownCap w b.size 0 el)).size+1)):=heap_alloc_new w.drew _
    have hf:=hs.fresh (w':=w.drew.alloc (.cells (bytesRow b (grownCap w b.size 0 el)) el ((bytesRow b (grownCap w b.size 0 el)).size,(bytesRow b (grownCap w b.size 0 el)).size+1))) d ⟨1,true,false,ah b.data.toList⟩ (ja bT) rfl rfl rfl (by simp) (fun k hk=>Below.heap_alloc w.drew _ k hk) mo (fun j hj=>by simp only;omega) (by simp only [nG,RC];exact vM) (fun h=>by cases h) (fun j u x hu hx=>⟨fun _=>by
     have hj:j<b.size:=by have:=(List.getElem?_eq_some_iff.1 hx).1;rw [nG] at this;exact this
     have XQ:j<b.data.toList.length:=hj
     have CX:j<b.data.size:=hj
     have e1:(bytesRow b (grownCap w b.size 0 el))[j]?=some (.int .u8 (b.data.toList[j].toNat)):=by
      unfold bytesRow
      rw [Array.getElem?_append_left (by simpa using hj)]
      simp
      exact ⟨_,Array.getElem?_eq_getElem CX,rfl⟩
     rw [e1] at hu;injection hu with hu;subst hu
     have e2:(ah b.data.toList)[j]?=some (.val (.int .u8 (bv b.data.toList[j]))):=by
      simp [ah]
      exact ⟨_,Array.getElem?_eq_getElem CX,rfl⟩
     rw [e2] at hx;injection hx with hx;subst hx
     exact .val _,fun h=>by cases h⟩)
    exact ⟨_,d_ hf (.ref d 1 _ _ b.size (grownCap w b.size 0 el) (fD d _ _) (by rw [Nat.one_mul];exact nG) vM ue (by unfold aY;rw [mo];simp only [RC,Nat.one_mul])) bT⟩
   ·cases hr
  ·cases hr
 ·cases hr
end
section
variable {S0:bo} {w0 w w':World} {n:Nat} {s:AS} {a:Act} {φ:Nat->Option Nat}
theorem aJ.stored (h:aJ S0 w0 n [] s a w φ) {id:Nat} {r r':Row} {g:Nat} (hr:look s.H id=some r) (bY:φ id=some g) (he:r'.e=r.e) (hlen:r'.cells.length=r.cells.length) (JW:r'.full=r.full)
  {cur cur':Array Value} {te:TypeId} {fr:Nat×Nat} (hg:w.heap[g]?=some (.cells cur te fr)) (jm:w'.heap[g]?=some (.cells cur' te fr)) (dB:cur'.size=cur.size)
  (JG:w'.os=w.os) (vG:w'.tape=w.tape) (vH:w'.output=w.output) (Tb:w'.heap.size=w.heap.size) (hb:∀b,b≠g->w'.heap[b]?=w.heap[b]?)
  (hc:∀(j:Nat) u x,cur'[j]?=some u->r'.cells[j]?=some x->bg (az s.H φ) (aO S0 w φ []) w r'.pure u x):aJ S0 w0 n [] ⟨s.F,(id,r')::cP s.H id⟩ a w' φ:=by
 have hI:∀i x,az s.H φ i=some x->az ((id,r')::cP s.H id) φ i=some x:=by
  intro i x hi
  obtain ⟨e,m,b⟩:=x
  obtain ⟨q,hl,h1,h2,h3⟩:=aT hi
  by_cases cU:id=i
  ·subst cU
   rw [hr] at hl;injection hl with hl;subst hl
   rw [br (r:=r') (by rw [aD,if_pos rfl]),he,hlen,h1,h2,h3]
  ·rw [br (r:=q) (by rw [aD,if_neg cU,bD,if_neg cU,hl]),h1,h2,h3]
 have hF:∀b,aO S0 w φ [] b->aO S0 w' φ [] b∧w'.heap[b]?=w.heap[b]?:=fun b k9=>⟨⟨by rw [Tb];exact k9.1,k9.2⟩,hb b fun e=>k9.2.2.1 id (by rw [bY,e])⟩
 have hL:∀i e m g',az s.H φ i=some (e,m,some g')->aY w' g'=aY w g':=by
  intro i e m g' _
  unfold aY
  by_cases e:g'=g
  ·subst e;rw [hg,jm];exact dB
  ·rw [hb g' e]
 have aS:=h.rows id r hr
 unfold bK at aS
 rw [bY] at aS
 obtain ⟨Xp,XD,XZ,B3,gZ,hle,nn,-⟩:=aS
 rw [hg] at B3
 injection B3 with B3
 injection B3 with e1 e2 e3
 subst e1;subst e2;subst e3
 refine ⟨h.j7,h.j_,⟨JG.trans h.cX.os,vG.trans h.cX.tape,vH.trans h.cX.output,by rw [Tb];exact h.cX.size,fun k hk hx=>?_,h.cX.g0,h.cX.gx⟩,fun i av hi=>(h.cA i av hi).mono hI hF hL,fun i q hq=>?_,fun i hi=>?_,h.inj,fun i g' jm=>by rw [Tb];exact h.cW i g' jm,h.apart,h.new⟩
 ·rw [hb k (fun e=>by rcases (h.cW id g bY).1.2 with h|h;omega;rw [e] at hx;exact hx h)]
  exact h.cX.block k hk hx
 ·rw [aD] at hq
  by_cases cU:id=i
  ·rw [if_pos cU] at hq;injection hq with hq;subst hq;subst cU
   rw [bY]
   refine ⟨cur',te,fr,jm,fun j hj=>gZ j ag,by rw [hlen,dB];exact hle,fun hf=>by rw [hlen,dB];exact nn (by rw [←JW];exact hf),fun j u x hu hx=>?_⟩
   have:=hc j u x hu hx
   unfold bg at this ⊢
   cases hp:r'.pure with
   | true=>rw [hp] at this;exact this.mono hF
   | false=>rw [hp] at this;exact this.mono hI hF hL
  ·rw [if_neg cU,bD,if_neg cU] at hq
   have hY:=h.rows i q hq
   unfold bK at hY ⊢
   cases DL:φ i with
   | none=>rw [DL] at hY;exact hY
   | some g2 =>
    rw [DL] at hY
    obtain ⟨EK,VH,Xl,Rq,HZ,B0,TM,Qc⟩:=hY
    have Tu:g2≠g:=fun e=>cU (h.inj id i g bY (by rw [DL,e]))
    refine ⟨EK,VH,Xl,(hb g2 Tu).trans Rq,HZ,B0,TM,fun j u x hu hx=>?_⟩
    have:=Qc j u x hu hx
    unfold bg at this ⊢
    cases hp:q.pure with
    | true=>rw [hp] at this;exact this.mono hF
    | false=>rw [hp] at this;exact this.mono hI hF hL
 ·rw [aD] at hi
  by_cases cU:id=i
  ·rw [if_pos cU] at hi;cases hi
  ·rw [if_neg cU,bD,if_neg cU] at hi
   exact h.only i hi
end
def ER:AV->Bool
 | .val u=>u.oneCell'
 | .nil=>true
 | .sl _ _=>true
 | .ptr _ _=>true
 | .ref _=>true
 | .pre _ _=>true
 | .jE _ _ _=>true
 | .addr _ _=>true
 | _=>false
def rh:List AV->Bool
 | []=>true
 | x::l=>match ER x with|true=>rh l|false=>false
theorem EP {I:Info} {S:Nat->Prop} {w:World} {v:Value} {x:AV} (hd:Den I S w v x) (hp:ER x=true):v.oneCell'=true:=by
 cases hd with
 | rep h=>cases h<;>first|exact hp|rfl|cases hp
 | agg=>cases hp
 | b_=>cases hp
 | dead=>cases hp
 | _=>rfl
theorem wK:∀ {l:List AV} {j:Nat} {x:AV},rh l=true->l[j]?=some x->ER x=true
 | [],j,x,_,h=>by simp at h
 | y::l,j,x,hp,h=>by
  simp only [rh] at hp
  split at hp
  ·rename_i hy
   cases j with
   | zero=>simp at h;subst h;exact hy
   | succ j=>exact wK hp (by simpa using h)
  ·cases hp
def setCells (cells:List AV) (off:Nat) (l:List AV):List AV:=match l with| [x]=>cells.set off x|l=>cells.take off++l++cells.drop (off+l.length)
theorem nN (cells:List AV) (off:Nat) (l:List AV) (h:off+l.length≤cells.length):setCells cells off l=cells.take off++l++cells.drop (off+l.length):=by
 unfold setCells
 split
 ·rename_i x
  simp only [List.length_cons,List.length_nil] at h ⊢
  rw [List.set_eq_take_append_cons_drop,if_pos ag]
  simp
 ·rfl
theorem xE {α:Type} (l m:List α) (off j:Nat) (h:off+m.length≤l.length):(l.take off++m++l.drop (off+m.length))[j]?=if off≤j∧j<off+m.length then m[j-off]? else l[j]?:=by
 by_cases h1:j<off
 ·rw [List.getElem?_append_left (by simp only [List.length_append,List.length_take];omega),List.getElem?_append_left (by simp only [List.length_take];omega),List.getElem?_take,if_pos h1,if_neg ag]
 ·by_cases h2:j<off+m.length
  ·rw [List.getElem?_append_left (by simp only [List.length_append,List.length_take];omega),List.getElem?_append_right (by simp only [List.length_take];omega),if_pos ag]
   congr 1;simp only [List.length_take];omega
  ·rw [List.getElem?_append_right (by simp only [List.length_append,List.length_take];omega),List.getElem?_drop,if_neg ag]
   congr 1;simp only [List.length_append,List.length_take];omega
theorem pC {α:Type} (l m:List α) (off:Nat) (h:off+m.length≤l.length):(l.take off++m++l.drop (off+m.length)).length=l.length:=by
 simp only [List.length_append,List.length_take,List.length_drop];omega
def Gx (s:AS) (id:Nat) (r:Row):AS:=⟨s.F,(id,r)::cP s.H id⟩
def wh (P:Program) (s:AS) (t:TypeId) (x:Operand) (cs:List AV) (h:Hint):Option (AS×List Prop) :=
 match bq s x with
 | .addr id off=>(match look s.H id,eH P t with
  | some r,some z=>(match r.pure with
   | true=>some (Gx s id ⟨r.e,true,r.full,(named h (r.cells.take off++cs++r.cells.drop (off+cs.length))).1⟩,(named h (r.cells.take off++cs++r.cells.drop (off+cs.length))).2++ [cs.length=z,∀x∈cs,iA x=true,off+cs.length≤r.cells.length])
   | false=>none)
  | _,_=>none)
 | _=>none
def lf (P:Program) (s:AS) (t:TypeId) (x:Operand) (y:Operand) (h:Hint):Option (AS×List Prop) :=
 match bq s x with
 | .addr id off=>(match look s.H id,eH P t with
  | some r,some z=>(match r.pure with
   | true=>(match gi s (o8 (bq s y)) with
    | some s1=>(match look s1.H id,lK (bq s1 y),bq s1 x with
     | some r1,some l,.addr pU DA=>(match Nat.beq id pU,Nat.beq l.length z,er l,r1.pure with
      | true,true,true,true=>some (Gx s1 id ⟨r1.e,true,r1.full,(named h (setCells r1.cells DA l)).1⟩,(named h (setCells r1.cells DA l)).2++ [DA+l.length≤r1.cells.length])
      | _,_,_,_=>none)
     | _,_,_=>none)
    | none=>none)
   | false=>(match lK (bq s y) with
    | some l=>(match Nat.beq l.length z,rh l with
     | true,true=>some (Gx s id ⟨r.e,false,r.full,(named h (setCells r.cells off l)).1⟩,(named h (setCells r.cells off l)).2++ [off+l.length≤r.cells.length])
     | _,_=>none)
    | none=>none))
  | _,_=>none)
 | _=>none
def z8 (P:Program) (s:AS) (t:TypeId) (x:Operand) (y:Operand) (h:Hint):Option (AS×List Prop) :=
 match bq s y,h.k with
 | .arr cs,1=>wh P s t x cs h
 | _,_=>lf P s t x y h
section
variable {P:Program} {n:Nat} {s:AS} {o:Oper} {h:Hint} {q:AS×List Prop}
theorem tE {w:World} {t:TypeId} {g off z:Nat} {v:Value} {vs:List Value} {cur:Array Value} {te:TypeId} {fr:Nat×Nat} (hz:eH P t=some z) (hv:v.cells=vs.toArray) (hl:vs.length=z) (hg:w.heap[g]?=some (.cells cur te fr)) (hf:∀j,j<cur.size-> ¬(fr.1≤j∧j<fr.2)) (m5:off+vs.length≤cur.size) (h1:∀u∈vs,u.oneCell'=true) :
  (storeVar t ⟨g,off,none⟩ v).run P w= .ok () (w.setRow g (cur.toList.take off++vs++cur.toList.drop (off+vs.length)).toArray):=by
 have dC:=cY P g te fr cur.size hf off vs 0 cur w hg ag rfl h1
 simp only [Nat.add_zero] at dC
 unfold storeVar
 have BS:(sizeOf t).run P w= .ok z w:=run_sizeOf hz
 simp only [Sem.run_bind,BS,Result.andThen_ok,Sem.run_ite,hv]
 rw [if_neg (by simp [hl])]
 simp [dC]
theorem qp {w:World} {g:Nat} {cur cur':Array Value} {te:TypeId} {fr:Nat×Nat} (hg:w.heap[g]?=some (.cells cur te fr)):(w.setRow g cur').heap[g]?=some (.cells cur' te fr)∧(w.setRow g cur').heap.size=w.heap.size∧ ∀b,b≠g->(w.setRow g cur').heap[b]?=w.heap[b]? :=
 ⟨setRow_heap w g cur cur' te fr hg,by simp,fun b hb=>setRow_other w g b _ hb⟩
theorem aJ.written {S0:bo} {w0 w:World} {a:Act} {φ:Nat->Option Nat} (hs:aJ S0 w0 n [] s a w φ) {id off g:Nat} {r:Row} {l cells:List AV} {vs:List Value} {cur:Array Value} {te:TypeId} {fr:Nat×Nat} (hr:look s.H id=some r) (bY:φ id=some g) (hg:w.heap[g]?=some (.cells cur te fr)) (hle:r.cells.length≤cur.size)
  (hold:∀(j:Nat) u x,cur[j]?=some u->r.cells[j]?=some x->bg (az s.H φ) (aO S0 w φ []) w r.pure u x) (hlen:vs.length=l.length) (m5:off+l.length≤r.cells.length) (dS:cells=setCells r.cells off l)
  (mo:∀(j:Nat) u x,vs[j]?=some u->l[j]?=some x->bg (az s.H φ) (aO S0 w φ []) w r.pure u x) :
  aJ S0 w0 n [] (Gx s id ⟨r.e,r.pure,r.full,cells⟩) a (w.setRow g (cur.toList.take off++vs++cur.toList.drop (off+vs.length)).toArray) φ:=by
 obtain ⟨f1,f2,f3⟩:=qp (cur':=(cur.toList.take off++vs++cur.toList.drop (off+vs.length)).toArray) hg
 have gC:cur.toList.length=cur.size:=rfl
 rw [nN _ _ _ m5] at dS
 refine hs.stored (r':=⟨r.e,r.pure,r.full,cells⟩) hr bY rfl (by rw [dS,pC _ _ _ m5]) rfl hg f1 (by simp only [List.size_toArray];rw [pC _ _ _ ag];rfl) rfl rfl rfl f2 f3 fun j u x hu hx=>?_
 simp only [List.getElem?_toArray] at hu
 rw [xE _ _ _ _ ag] at hu
 simp only [dS] at hx
 rw [xE _ _ _ _ m5] at hx
 by_cases hj:off≤j∧j<off+l.length
 ·rw [if_pos hj] at hx
  rw [if_pos ag] at hu
  exact mo _ u x hu hx
 ·rw [if_neg hj] at hx
  rw [if_neg ag] at hu
  exact hold j u x (by simpa using hu) hx
theorem Dl {S0:bo} {w0 w:World} {a:Act} {φ:Nat->Option Nat} (hs:aJ S0 w0 n [] s a w φ) {id g:Nat} {r:Row} (hr:look s.H id=some r) (bY:φ id=some g):∃cur te fr,w.heap[g]?=some (.cells cur te fr)∧(∀j,j<cur.size-> ¬(fr.1≤j∧j<fr.2))∧r.cells.length≤cur.size∧ ∀(j:Nat) u x,cur[j]?=some u->r.cells[j]?=some x->bg (az s.H φ) (aO S0 w φ []) w r.pure u x:=by
 have aS:=hs.rows id r hr
 unfold bK at aS
 rw [bY] at aS
 obtain ⟨cur,te,fr,hg,hf,hl,-,hc⟩:=aS
 exact ⟨cur,te,fr,hg,hf,hl,hc⟩
theorem uN {S0:bo} {w0 w:World} {a:Act} {φ:Nat->Option Nat} {Q:Exit->Act->World->Prop} (hs:aJ S0 w0 n [] s a w φ) {t:TypeId} {x y:Operand} (ho:o.op= .store t x y) (hd:o.dst=none) {id off z:Nat} {r:Row} {l cells:List AV} (hx:bq s x= .addr id off) (hr:look s.H id=some r) (hz:eH P t=some z) (hl:lK (bq s y)=some l) (XM:l.length=z) (m5:off+l.length≤r.cells.length) (dS:cells=setCells r.cells off l)
  (hp:(r.pure=true∧ ∀x∈l,iA x=true)∨(r.pure=false∧rh l=true)):o.wp P a w (fun a' w'=>iI S0 w0 n (Gx s id ⟨r.e,r.pure,r.full,cells⟩) a' w') Q:=by
 have UW:=hs.bq x
 rw [hx] at UW
 obtain ⟨e,m,g,hi,hv⟩:=j6 UW
 obtain ⟨r',iE,-,-,bY⟩:=aT hi
 obtain ⟨cur,te,fr,hg,hf,hle,hold⟩:=Dl hs hr bY
 obtain ⟨vs,V5,xW,dX⟩:=mC (hs.bq y) hl
 have vI:∀u∈vs,u.oneCell'=true:=by
  intro u hu
  obtain ⟨j,hj⟩:=List.getElem?_of_mem hu
  have OO:j<l.length:=by have:=(List.getElem?_eq_some_iff.1 hj).1;omega
  have TA:l[j]?=some l[j]:=List.getElem?_eq_getElem OO
  rcases hp with ⟨-,hp⟩|⟨-,hp⟩
  ·exact (e_ (dX j u _ hj TA) (hp _ (List.getElem_mem OO))).2
  ·exact EP (dX j u _ hj TA) (wK hp TA)
 have bZ:=tE (P:=P) (w:=w) (t:=t) (g:=g) (off:=off) hz V5 ag hg hf ag vI
 unfold Oper.wp
 have:(execOp a.eval o).run P w= .ok .skip (w.setRow g (cur.toList.take off++vs++cur.toList.drop (off+vs.length)).toArray):=by
  unfold execOp
  simp [ho,Instr.storeAt,Instr.sureAddr,hv,bZ]
 rw [this]
 show iI S0 w0 n _ (a.put o.dst undef) _
 rw [hd]
 refine ⟨φ,hs.written hr bY hg hle hold xW m5 dS fun j u x hu hx=>?_⟩
 unfold bg
 rcases hp with ⟨Nq,hp⟩|⟨Nq,hp⟩<;>rw [Nq]
 ·exact (e_ (dX j u x hu hx) (hp x (List.mem_of_getElem? hx))).1
 ·exact dX j u x hu hx
theorem Cu {t:TypeId} {x y:Operand} {cs:List AV} (ho:o.op= .store t x y) (hd:o.dst=none) (hy:bq s y= .arr cs) (hr:wh P s t x cs h=some q):mF P n s o q.1 q.2:=by
 intro hC S0 w0 a w Q ⟨φ,hs⟩
 unfold wh at hr
 split at hr
 ·rename_i id off hx
  split at hr
  ·rename_i r z aS hz
   split at hr
   ·rename_i qP
    injection hr with hr;subst hr
    obtain ⟨hn,hlen,hp,m5,-⟩:=ir hC
    have:=uN (Q:=Q) hs ho hd hx aS hz (l:=cs) (by rw [hy];rfl) hlen m5 (hn.trans (nN _ _ _ m5).symm) (.inl ⟨qP,hp⟩)
    rw [qP] at this
    exact this
   ·cases hr
  ·cases hr
 ·cases hr
theorem tp {t:TypeId} {x y:Operand} (ho:o.op= .store t x y) (hd:o.dst=none) (hr:lf P s t x y h=some q):mF P n s o q.1 q.2:=by
 intro hC S0 w0 a w Q ⟨SI,l9⟩
 unfold lf at hr
 split at hr
 ·rename_i id off hx
  split at hr
  ·rename_i r z aS hz
   split at hr
   ·rename_i qP
    split at hr
    ·rename_i s1 Jz
     obtain ⟨φ,hs⟩:=gh _ _ _ _ Jz l9
     split at hr
     ·rename_i r1 l pU DA Q8 hl Ta
      split at hr
      ·rename_i h1 h2 h3 h4
       injection hr with hr;subst hr
       have h1:=Nat.eq_of_beq_eq_true h1
       have h2:=Nat.eq_of_beq_eq_true h2
       subst h1
       obtain ⟨hn,m5,-⟩:=ir hC
       have:=uN (Q:=Q) hs ho hd Ta Q8 hz hl h2 m5 hn (.inl ⟨h4,fun x hx=>by obtain ⟨j,hj⟩:=List.getElem?_of_mem hx;exact iO h3 hj⟩)
       rw [h4] at this
       exact this
      ·cases hr
     ·cases hr
    ·cases hr
   ·rename_i qP
    split at hr
    ·rename_i l hl
     split at hr
     ·rename_i h2 h3
      injection hr with hr;subst hr
      have h2:=Nat.eq_of_beq_eq_true h2
      obtain ⟨hn,m5,-⟩:=ir hC
      have:=uN (Q:=Q) l9 ho hd hx aS hz hl h2 m5 hn (.inr ⟨qP,h3⟩)
      rw [qP] at this
      exact this
     ·cases hr
    ·cases hr
  ·cases hr
 ·cases hr
theorem D8 {t:TypeId} {x y:Operand} (ho:o.op= .store t x y) (hd:o.dst=none) (hr:z8 P s t x y h=some q):mF P n s o q.1 q.2:=by
 unfold z8 at hr
 split at hr
 ·rename_i cs hy _;exact Cu ho hd hy hr
 ·exact tp ho hd hr
def uQ (s:AS):AV->Option (Nat×List AV)
 | .nil=>some (0,[])
 | .sl e row=>some (e,row)
 | .ref id=>(match look s.H id with|some ⟨e,true,_,cells⟩=>some (e,cells)|_=>none)
 | .pre id l=>(match look s.H id with|some ⟨e,true,_,cells⟩=>some (e,cells.take l)|_=>none)
 | .jE id o l=>(match look s.H id with|some ⟨e,true,_,cells⟩=>some (e,(cells.drop o).take l)|_=>none)
 | _=>none
theorem N_ {S0:bo} {w0 w:World} {a:Act} {φ:Nat->Option Nat} (hs:aJ S0 w0 n [] s a w φ) {v:Value} {x:AV} (hx:Den (az s.H φ) (aO S0 w φ []) w v x) {e:Nat} {row:List AV} (he:uQ s x=some (e,row)) :
  ∃(A:Option Addr) (m c:Nat) (us:List Value),v= .slice A m c∧row.length=e*m∧us.length=row.length∧(0<row.length-> ∃ad,A=some ad∧ ∀(j:Nat) u,us[j]?=some u->w.cell? (ad.add j)=some u)∧(∀(j:Nat) u x,us[j]?=some u->row[j]?=some x->cz (aO S0 w φ []) w u x)∧m≤maxLen:=by
 have MW:∀(id g:Nat) (r:Row),look s.H id=some r->r.pure=true->φ id=some g-> ∃us:List Value,r.cells.length≤us.length∧(∀(j:Nat) u,us[j]?=some u->w.cell? ⟨g,j,none⟩=some u)∧ ∀(j:Nat) u x,us[j]?=some u->r.cells[j]?=some x->cz (aO S0 w φ []) w u x:=by
  intro id g r hr hp hg
  obtain ⟨cur,te,fr,jm,hf,hl,hc⟩:=kS hs hr hp hg
  exact ⟨cur.toList,hl,fun j u hu=>by rw [cell_of_row w g _ cur te fr jm];simpa using hu,fun j u x hu hx=>hc j u x (by simpa using hu) hx⟩
 cases hx with
 | rep h =>
  cases h with
  | nil=>injection he with he;injection he with h1 h2;subst h1;subst h2;exact ⟨none,0,0,[],rfl,rfl,rfl,fun h=>(by simp at h),fun j u x hu=>(by simp at hu),by simp⟩
  | sl A n c e' us GC hl hn hc hm ha h =>
   injection he with he;injection he with h1 h2;subst h1;subst h2
   exact ⟨A,n,c,us,rfl,hn,hl,fun h0=>by obtain ⟨ad,e1,_,e2⟩:=ha h0;exact ⟨ad,e1,e2⟩,h,ag⟩
  | _=>cases he
 | agg=>cases he
 | b_=>cases he
 | dead=>cases he
 | addr=>cases he
 | ref id e' m g l c hi hm hc hx bT =>
  obtain ⟨r,hr,h1,h2,bY⟩:=aT hi
  obtain ⟨re,rp,rf,rc⟩:=r
  simp only [uQ,hr] at he
  split at he
  ·rename_i heq
   injection heq with heq;cases heq
   injection he with he;injection he with h3 h4;subst h3;subst h4
   obtain ⟨us,QW,Jy,Nn⟩:=MW id g _ hr rfl bY
   simp only at h1 h2 QW Nn
   exact ⟨_,l,c,us.take rc.length,rfl,by rw [h2,hm,h1],by rw [List.length_take];omega,fun _=>⟨_,rfl,fun j u hu=>by rw [fy];exact Jy j u (bS _ _ _ _ hu)⟩,fun j u x hu hx=>Nn j u x (bS _ _ _ _ hu) hx,ag⟩
  ·cases he
 | cB id e' hi =>
  obtain ⟨r,hr,h1,h2,bY⟩:=aT hi
  obtain ⟨re,rp,rf,rc⟩:=r
  simp only [uQ,hr] at he
  split at he
  ·rename_i heq
   injection heq with heq;cases heq
   injection he with he;injection he with h3 h4;subst h3;subst h4
   simp only at h2
   have:rc= []:=List.length_eq_zero_iff.1 h2
   subst this
   exact ⟨none,0,0,[],rfl,rfl,rfl,fun h=>(by simp at h),fun j u x hu=>(by simp at hu),by simp⟩
  ·cases he
 | pre id k e' m g l c hi hn hm hc hx bT =>
  obtain ⟨r,hr,h1,h2,bY⟩:=aT hi
  obtain ⟨re,rp,rf,rc⟩:=r
  simp only [uQ,hr] at he
  split at he
  ·rename_i heq
   injection heq with heq;cases heq
   injection he with he;injection he with h3 h4;subst h3;subst h4
   obtain ⟨us,QW,Jy,Nn⟩:=MW id g _ hr rfl bY
   simp only at h1 h2 QW Nn
   have lX:(rc.take k).length=k:=by rw [List.length_take];omega
   exact ⟨_,l,c,us.take k,rfl,by rw [lX,hn,h1],by rw [lX,List.length_take];omega,fun _=>⟨_,rfl,fun j u hu=>by rw [fy];exact Jy j u (bS _ _ _ _ hu)⟩,fun j u x hu hx=>Nn j u x (bS _ _ _ _ hu) (bS _ _ _ _ hx),ag⟩
  ·cases he
 | dH id e' hi =>
  obtain ⟨r,hr,h1,h2,bY⟩:=aT hi
  obtain ⟨re,rp,rf,rc⟩:=r
  simp only [uQ,hr] at he
  split at he
  ·rename_i heq
   injection heq with heq;cases heq
   injection he with he;injection he with h3 h4;subst h3;subst h4
   simp only [List.take_zero]
   exact ⟨none,0,0,[],rfl,rfl,rfl,fun h=>(by simp at h),fun j u x hu=>(by simp at hu),by simp⟩
  ·cases he
 | jE id off k e' m l c g A hi hn hm hc hx ha =>
  obtain ⟨r,hr,h1,h2,bY⟩:=aT hi
  obtain ⟨re,rp,rf,rc⟩:=r
  simp only [uQ,hr] at he
  split at he
  ·rename_i heq
   injection heq with heq;cases heq
   injection he with he;injection he with h3 h4;subst h3;subst h4
   simp only at h1 h2
   have lX:((rc.drop off).take k).length=k:=by rw [List.length_take,List.length_drop];omega
   by_cases hk:0<k
   ·obtain ⟨b,hb,hA⟩:=ha hk
    rw [hb] at bY
    obtain ⟨us,QW,Jy,Nn⟩:=MW id b _ hr rfl bY
    simp only at QW Nn
    exact ⟨A,l,c,(us.drop off).take k,rfl,by rw [lX,hn,h1],by rw [lX,List.length_take,List.length_drop];omega,fun _=>⟨_,hA,fun j u hu=>by rw [mE];exact Jy _ u (bP _ _ _ _ _ hu)⟩,fun j u x hu hx=>Nn _ u x (bP _ _ _ _ _ hu) (bP _ _ _ _ _ hx),ag⟩
   ·have:(rc.drop off).take k= []:=List.length_eq_zero_iff.1 ag
    rw [this]
    exact ⟨A,l,c,[],rfl,by rw [h1];simp;omega,rfl,fun h=>(by simp at h),fun j u x hu=>(by simp at hu),ag⟩
  ·cases he
end
section
variable {P:Program} {w:World}
structure oB (P:Program) (w:World) (xt:TypeId) (e:Nat) (xv:Value) (m:Nat) (news:List Value):Prop where
 ty:(∃e2,P.underlying xt=some (.slice e2))∨P.underlying xt=some .string
 len:∀w',(Builtin.lenOf xv).run P w'= .ok m w'
 part:∀(w':World) (k:Nat),w'.heap=w.heap->k≤m->(Builtin.firstCells e k xv).run P w'= .ok (news.take (k*e)).toArray w'
 hl:news.length=m*e
 one:∀u∈news,u.oneCell'=true
theorem oB.cells {xt:TypeId} {e m:Nat} {xv:Value} {news:List Value} (h:oB P w xt e xv m news) (w':World) (hw:w'.heap=w.heap):(Builtin.firstCells e m xv).run P w'= .ok news.toArray w':=by
 have:=h.part w' m hw (Nat.le_refl _)
 rw [List.take_of_length_le (by rw [h.hl];exact Nat.le_refl _)] at this
 exact this
theorem qn {xt e2:TypeId} (ht:P.underlying xt=some (.slice e2)) {A:Option Addr} {m c e:Nat} {news:List Value} (hl:news.length=m*e) (hc:0<news.length-> ∃ad,A=some ad∧ ∀(j:Nat) u,news[j]?=some u->w.cell? (ad.add j)=some u) (h1:∀u∈news,u.oneCell'=true) :
  oB P w xt e (.slice A m c) m news:=by
 refine ⟨.inl ⟨e2,ht⟩,fun w'=>rfl,fun w' k hw hk=>?_,hl,h1⟩
 have bt:∀p:Addr,w'.cell? p=w.cell? p:=fun p=>kK (by rw [hw])
 have gV:(news.take (k*e)).length=k*e:=by
  have:=Nat.mul_le_mul_right e hk
  rw [List.length_take];omega
 by_cases h0:0<news.length
 ·obtain ⟨ad,rfl,dS⟩:=hc h0
  exact run_firstCells_some w' e k ad m c _ gV (fun j u hu=>(bt _).trans (dS j u (bS _ _ _ _ hu)))
 ·have hn:news= []:=List.length_eq_zero_iff.1 ag
  subst hn
  cases A with
  | none=>rw [run_firstCells_none];simp
  | some ad=>exact run_firstCells_some w' e k ad m c _ gV (fun j u hu=>by simp at hu)
theorem wZ {xt:TypeId} (ht:P.underlying xt=some .string) (b:ByteArray):oB P w xt 1 (.string b) b.size (tB b.data.toList):=by
 refine ⟨.inr ht,fun w'=>rfl,fun w' k _ hk=>?_,by rw [gE,Nat.mul_one];rfl,Ge _⟩
 simp only [Builtin.firstCells,Sem.run_pure,Nat.mul_one]
 congr 1
 apply Array.ext'
 simp [tB,bv,←List.map_take]
structure Ld (w w':World) (v':Value) (g0:Option Nat) (e N:Nat) (cells:List Value) (g':Nat):Prop where
 slice:∃c',v'= .slice (some ⟨g',0,none⟩) N c'∧N≤c'∧c'≤maxLen∧aY w' g'=e*c'
 MW:∃cur te fr,w'.heap[g']?=some (.cells cur te fr)∧(∀j,j<cur.size-> ¬(fr.1≤j∧j<fr.2))∧cells.length≤cur.size∧cur.toList.take cells.length=cells
 len:cells.length=e*N
 os:w'.os=w.os
 tape:w'.tape=w.tape
 output:w'.output=w.output
 size:w.heap.size≤w'.heap.size
 other:∀b,b<w.heap.size->some b≠g0->w'.heap[b]?=w.heap[b]?
 place:(g0=some g'∧g'<w.heap.size)∨(g'=w.heap.size∧w.heap.size<w'.heap.size)
theorem uy (z:Value) (e k:Nat) (hz:z.cells.size=e):(Builtin.zeroCells z.cells k).size=k*e:=by unfold Builtin.zeroCells;simp [hz]
theorem sM {el:TypeId} {z:Value} {e l m old:Nat} {olds news:List Value} (g0:Option Nat) (hz:z.cells.size=e) (Vd:olds.length=l*e) (Mj:news.length=m*e) (hm:l+m≤maxLen) :
  Ld w (w.drew.alloc (.cells (olds.toArray++news.toArray++Builtin.zeroCells z.cells (grownCap w (l+m) old el-(l+m))) el)) (.slice (some ⟨w.heap.size,0,none⟩) (l+m) (grownCap w (l+m) old el)) g0 e (l+m) (olds++news) w.heap.size:=by
 have vM:=grownCap_ge w (l+m) old el
 have ue:grownCap w (l+m) old el≤maxLen:=grownCap_le_maxLen w _ old el hm
 have mo:(w.drew.alloc (.cells (olds.toArray++news.toArray++Builtin.zeroCells z.cells (grownCap w (l+m) old el-(l+m))) el)).heap[w.heap.size]?=some (.cells (olds.toArray++news.toArray++Builtin.zeroCells z.cells (grownCap w (l+m) old el-(l+m))) el (0,0)):=heap_alloc_new w.drew _
 have dB:(olds.toArray++news.toArray++Builtin.zeroCells z.cells (grownCap w (l+m) old el-(l+m))).size=e*grownCap w (l+m) old el:=by
  simp only [Array.size_append,List.size_toArray,uy z e _ hz,Vd,Mj]
  rw [←Nat.add_mul,←Nat.add_mul,Nat.mul_comm]
  congr 1;omega
 have hlen:(olds++news).length=e*(l+m):=by rw [List.length_append,Vd,Mj,←Nat.add_mul,Nat.mul_comm]
 refine ⟨⟨_,rfl,vM,ue,by unfold aY;rw [mo];exact dB⟩,⟨_,_,_,mo,by simp,by rw [dB,hlen];exact Nat.mul_le_mul_left _ vM,?_⟩,hlen,rfl,rfl,rfl,by simp,fun b hb _=>Below.heap_alloc w.drew _ b hb,.inr ⟨rfl,by simp⟩⟩
 simp only [Array.toList_append,List.append_assoc]
 rw [←List.append_assoc]
 exact List.take_left
theorem CN (A B:List Value) (C:Array Value):A.toArray++(B.toArray++C)=(A++B).toArray++C:=by
 apply Array.ext'
 simp
theorem zh {e l m bytes q:Nat} (he:0<e) (hq:q=e*(l+m)) (hb:q*bytes≤e*140737488355328):(l+m)*bytes≤140737488355328:=by
 rw [hq,Nat.mul_assoc] at hb
 exact Nat.le_of_mul_le_mul_left hb he
theorem vj {l m bytes:Nat} (x_:0<bytes) (hb:(l+m)*bytes≤140737488355328):l+m≤maxLen∧((l+m:Nat):Int)≤9223372036854775807:=by
 have:l+m≤(l+m)*bytes:=Nat.le_mul_of_pos_right _ x_
 unfold maxLen;omega
theorem IA {t xt ty el:TypeId} {i:TypeInfo} {z xv:Value} {m:Nat} {news:List Value} (ht:P.underlying t=some (.slice el)) (hi:P.info? el=some i) (hz:i.zero=some z) (vD:z.cells.size=i.size) (x_:0<i.bytes)
  (gP:oB P w xt i.size xv m news) (hb:m*i.bytes≤140737488355328) :
  (m=0∧(Builtin.append_ #[t,xt] ty #[.slice none 0 0,xv]).run P w= .ok (.slice none 0 0) w)∨ ∃v' w',(Builtin.append_ #[t,xt] ty #[.slice none 0 0,xv]).run P w= .ok v' w'∧Ld w w' v' none i.size m news w.heap.size:=by
 have hf:=gP.cells w.drew rfl
 by_cases h0:m=0
 ·left
  refine ⟨h0,?_⟩
  have Nx:=gP.cells w rfl
  have hn:news= []:=List.length_eq_zero_iff.1 (by rw [gP.hl,h0];simp)
  subst h0;subst hn
  rcases gP.ty with ⟨e2,hu⟩|hu<;>simp [Builtin.append_,run_underlying ht,run_underlying hu,sizeOf,typeInfo,hi,gP.len,Nx]
 ·right
  obtain ⟨FQ,JN⟩:=vj (l:=0) x_ (by rw [Nat.zero_add];exact hb)
  rw [Nat.zero_add] at FQ
  have RK:¬(281474976710656<Builtin.nextslicecap m 0*i.bytes):=by rw [nextslicecap_zero ag];omega
  have RJ:¬(9223372036854775807<(m:Int)):=by simp at JN;omega
  have hA:=sM (w:=w) (el:=el) (old:=0) (olds:=[]) (news:=news) (l:=0) none vD (by simp) gP.hl (by rw [Nat.zero_add];exact FQ)
  simp only [Nat.zero_add,List.nil_append] at hA
  refine ⟨_,_,?_,hA⟩
  rcases gP.ty with ⟨e2,hu⟩|hu<;>simp [Builtin.append_,run_underlying ht,run_underlying hu,sizeOf,typeInfo,zeroValue,hi,hz,gP.len,hf,h0,RK,RJ,Question.forced,run_firstCells_none,newRow,grownCap]
theorem Iz {t xt ty el:TypeId} {i:TypeInfo} {z xv:Value} {m:Nat} {news:List Value} (ht:P.underlying t=some (.slice el)) (hi:P.info? el=some i) (hz:i.zero=some z) (vD:z.cells.size=i.size) (x_:0<i.bytes)
  (gP:oB P w xt i.size xv m news) {g l c:Nat} {cur:Array Value} {te:TypeId} {fr:Nat×Nat} (hg:w.heap[g]?=some (.cells cur te fr)) (gZ:∀j,j<cur.size-> ¬(fr.1≤j∧j<fr.2)) (dB:cur.size=i.size*c) (G8:l≤c) (ue:c≤maxLen) (hb:(l+m)*i.bytes≤140737488355328) :
  ∃v' w' g',(Builtin.append_ #[t,xt] ty #[.slice (some ⟨g,0,none⟩) l c,xv]).run P w= .ok v' w'∧Ld w w' v' (some g) i.size (l+m) (cur.toList.take (l*i.size)++news) g':=by
 have OS:g<w.heap.size:=(Array.getElem?_eq_some_iff.1 hg).1
 have gC:cur.toList.length=cur.size:=rfl
 have hle:l*i.size≤cur.size:=by rw [dB,Nat.mul_comm];exact Nat.mul_le_mul_left _ G8
 have JJ:(cur.toList.take (l*i.size)).length=l*i.size:=by rw [List.length_take];omega
 by_cases nm:l+m≤c
 ·have Nx:=gP.cells w rfl
  have m5:l*i.size+news.length≤cur.size:=by rw [gP.hl,←Nat.add_mul,dB,Nat.mul_comm];exact Nat.mul_le_mul_left _ nm
  have dC:=cY P g te fr cur.size gZ (l*i.size) news 0 cur w hg ag rfl gP.one
  simp only [Nat.add_zero] at dC
  obtain ⟨f1,f2,f3⟩:=qp (cur':=(cur.toList.take (l*i.size)++news++cur.toList.drop (l*i.size+news.length)).toArray) hg
  have G5:(cur.toList.take (l*i.size)++news++cur.toList.drop (l*i.size+news.length)).toArray.size=cur.size:=by
   simp only [List.size_toArray];rw [pC _ _ _ ag];rfl
  have hlen:(cur.toList.take (l*i.size)++news).length=i.size*(l+m):=by rw [List.length_append,JJ,gP.hl,←Nat.add_mul,Nat.mul_comm]
  refine ⟨.slice (some ⟨g,0,none⟩) (l+m) c,_,g,?_,⟨c,rfl,nm,ue,by unfold aY;rw [f1];simp only;rw [G5,dB]⟩,⟨_,te,fr,f1,fun j hj=>gZ j ag,by rw [G5,hlen,dB];exact Nat.mul_le_mul_left _ nm,by simp only;exact List.take_left⟩,hlen,rfl,rfl,rfl,by rw [f2];exact Nat.le_refl _,fun b hb cU=>f3 b fun e=>cU (by rw [e]),.inl ⟨rfl,OS⟩⟩
  rcases gP.ty with ⟨e2,hu⟩|hu<;>simp [Builtin.append_,run_underlying ht,run_underlying hu,sizeOf,typeInfo,hi,gP.len,nm,Nx,fy,dC]
 ·obtain ⟨FQ,JN⟩:=vj x_ hb
  have RK:¬(281474976710656<Builtin.nextslicecap (l+m) c*i.bytes):=by have:=growslice_fits (need:=l+m) (old:=c) ag hb;omega
  have RJ:¬(9223372036854775807<((l:Int)+(m:Int))):=ag
  have hA:=sM (w:=w) (el:=el) (old:=c) (some g) vD JJ gP.hl FQ
  have hf:=gP.cells w.drew rfl
  have JY:=run_firstCells_some (P:=P) w.drew i.size l ⟨g,0,none⟩ l c (cur.toList.take (l*i.size)) JJ (fun j u hu=>by
   rw [fy]
   have:w.drew.cell? ⟨g,j,none⟩=w.cell? ⟨g,j,none⟩:=kK rfl
   rw [this,cell_of_row w g _ cur te fr hg]
   have:=bS _ _ _ _ hu
   simpa using this)
  refine ⟨_,_,w.heap.size,?_,hA⟩
  rcases gP.ty with ⟨e2,hu⟩|hu<;>simp [Builtin.append_,run_underlying ht,run_underlying hu,sizeOf,typeInfo,zeroValue,hi,hz,gP.len,nm,hf,JY,RK,RJ,Question.forced,newRow,grownCap]<;>rw [CN]
theorem IB {t xt ty el:TypeId} {i:TypeInfo} {z xv:Value} {m:Nat} {news:List Value} (ht:P.underlying t=some (.slice el)) (hi:P.info? el=some i) (hz:i.zero=some z) (vD:z.cells.size=i.size) (x_:0<i.bytes)
  (gP:oB P w xt i.size xv m news) {A:Option Addr} {l:Nat} {us:List Value} (AJ:us.length=l*i.size) (hc:0<us.length-> ∃ad,A=some ad∧ ∀(j:Nat) u,us[j]?=some u->w.cell? (ad.add j)=some u) (Mi:0<m) (hb:(l+m)*i.bytes≤140737488355328) :
  ∃v' w',(Builtin.append_ #[t,xt] ty #[.slice A l l,xv]).run P w= .ok v' w'∧Ld w w' v' none i.size (l+m) (us++news) w.heap.size:=by
 have nm:¬(l+m≤l):=ag
 obtain ⟨FQ,JN⟩:=vj x_ hb
 have RK:¬(281474976710656<Builtin.nextslicecap (l+m) l*i.bytes):=by have:=growslice_fits (need:=l+m) (old:=l) ag hb;omega
 have RJ:¬(9223372036854775807<((l:Int)+(m:Int))):=ag
 have hA:=sM (w:=w) (el:=el) (old:=l) none vD AJ gP.hl FQ
 have hf:=gP.cells w.drew rfl
 have JY:(Builtin.firstCells i.size l (.slice A l l)).run P w.drew= .ok us.toArray w.drew:=by
  by_cases h0:0<us.length
  ·obtain ⟨ad,rfl,dS⟩:=hc h0
   exact run_firstCells_some w.drew i.size l ad l l us AJ (fun j u hu=>(kK (w:=w) (w':=w.drew) rfl).trans (dS j u hu))
  ·have hn:us= []:=List.length_eq_zero_iff.1 ag
   subst hn
   cases A with
   | none=>rw [run_firstCells_none]
   | some ad=>exact run_firstCells_some w.drew i.size l ad l l _ AJ (fun j u hu=>by simp at hu)
 refine ⟨_,_,?_,hA⟩
 rcases gP.ty with ⟨e2,hu⟩|hu<;>simp [Builtin.append_,run_underlying ht,run_underlying hu,sizeOf,typeInfo,zeroValue,hi,hz,gP.len,nm,hf,JY,RK,RJ,Question.forced,newRow,grownCap]<;>rw [CN]
end
section
variable {S0:bo} {w0 w w':World} {n:Nat} {s:AS} {a:Act} {φ:Nat->Option Nat}
theorem qJ (id d:Nat) (h:look s.H d=none):look (bX id s).H d=none:=by
 unfold bX
 rw [cp,bD]
 split
 ·rfl
 ·rw [h];rfl
theorem aJ.wQ {O:List Nat} {g0:Option Nat} (h:aJ S0 w0 n O s a w φ) (hO:O=match g0 with|some g=>[g]|none=>[]) (T9:∀g∈O,w0.heap.size≤g∨S0.X g) (Pa:∀g∈O,g<w.heap.size) {d e N g':Nat} {v':Value} {cells:List Value} (Rx:d<1000000000000) (hd:look s.H d=none) (hA:Ld w w' v' g0 e N cells g') {row:List AV} (hl:row.length=cells.length)
  (hc:∀(j:Nat) u x,cells[j]?=some u->row[j]?=some x->cz (aO S0 w φ O) w u x) :
  ∃ cy,aJ S0 w0 n [] ⟨s.F,(d,⟨e,true,false,row⟩)::s.H⟩ a w' cy∧Den (az ((d,⟨e,true,false,row⟩)::s.H) cy) (aO S0 w' cy []) w' v' (.ref d):=by
 obtain ⟨c',hv,hN,ue,gC⟩:=hA.slice
 obtain ⟨cur,te,fr,hg,hf,hle,Np⟩:=hA.MW
 have hb:∀b,b<w.heap.size->b ∉ O->w'.heap[b]?=w.heap[b]?:=fun b hb hn=>hA.other b hb fun e=>hn (by rw [hO,←e];simp)
 have hF:∀b,aO S0 w φ O b->w'.heap[b]?=w.heap[b]?:=fun b h=>hb b h.1 h.2.1
 have rd:∀(S:Nat->Prop),(∀b,aO S0 w φ O b->S b)-> ∀(j:Nat) u x,cur[j]?=some u->row[j]?=some x->cz S w' u x:=by
  intro S hS j u x hu hx
  have hj:j<cells.length:=by have:=(List.getElem?_eq_some_iff.1 hx).1;omega
  have:cells[j]?=some u:=by
   rw [←Np,List.getElem?_take,if_pos hj];simpa using hu
  exact (hc j u x this hx).mono fun b hb=>⟨hS b hb,hF b hb⟩
 have fin:∀ cy,cy d=some g'->Den (az ((d,⟨e,true,false,row⟩)::s.H) cy) (aO S0 w' cy []) w' v' (.ref d):=by
  intro cy bY
  rw [hv]
  exact .ref d e row.length g' N c' (by rw [br (r:=⟨e,true,false,row⟩) (by rw [aD,if_pos rfl]),bY]) (by rw [hl];exact hA.len) hN ue gC
 rcases hA.place with ⟨B3,cZ⟩|⟨rfl,cZ⟩
 ·rw [B3] at hO
  subst hO
  have h2:=h.xw T9 hA.os hA.tape hA.output hA.size hb
  have h3:=h2.yn (id:=d) (r:=⟨e,true,false,row⟩) ⟨.inl Rx,T9 g' (by simp)⟩ (by have:=hA.size;omega) (by simp) hd ⟨cur,te,fr,hg,hf,by simp only [hl];exact hle,fun h=>(by cases h),fun j u x hu hx=>by
   show cz _ _ _ _
   exact rd _ (fun b hb=>⟨by have:=hb.1;have:=hA.size;omega,hb.2⟩) j u x hu hx⟩
  exact ⟨_,h3,fin _ (by unfold fU;rw [if_pos rfl])⟩
 ·have h1:=h.await w.heap.size (Nat.le_refl _)
  have h2:=h1.xw (fun g hg=>by rcases List.mem_cons.1 hg with rfl|hg;exact .inl h.cX.size;exact T9 g hg) hA.os hA.tape hA.output hA.size (fun b Lj hn=>hb b Lj fun hm=>hn (by simp [hm]))
  have V2:w.heap.size ∉ O:=fun hm=>Nat.lt_irrefl _ (Pa _ hm)
  have h3:=h2.yn (id:=d) (r:=⟨e,true,false,row⟩) ⟨.inl Rx,.inl h.cX.size⟩ cZ V2 hd ⟨cur,te,fr,hg,hf,by simp only [hl];exact hle,fun h=>(by cases h),fun j u x hu hx=>by
   show cz _ _ _ _
   exact rd _ (fun b hb=>⟨by have:=hb.1;omega,by simp only [List.mem_cons,not_or];exact ⟨by have:=hb.1;omega,hb.2.1⟩,hb.2.2⟩) j u x hu hx⟩
  cases B3:g0 with
  | none =>
   rw [B3] at hO;subst hO
   exact ⟨_,h3,fin _ (by unfold fU;rw [if_pos rfl])⟩
  | some g =>
   rw [B3] at hO;subst hO
   exact ⟨_,h3.vY,fin _ (by unfold fU;rw [if_pos rfl])⟩
end
def cC (row:List AV):Prop:=∀x∈row,iA x=true
theorem gl (l:List UInt8):cC (ah l):=by
 intro x hx;simp only [ah,List.mem_map] at hx;obtain ⟨c,_,rfl⟩:=hx;rfl
theorem qC (l:List UInt64):cC (aj l):=by
 intro x hx;simp only [aj,List.mem_map] at hx;obtain ⟨c,_,rfl⟩:=hx;rfl
theorem BC (l:List Int):cC (ax l):=by
 intro x hx;simp only [ax,List.mem_map] at hx;obtain ⟨c,_,rfl⟩:=hx;rfl
theorem dQ:∀ {l:List AV},er l=true->cC l
 | [],_=>by intro x hx;simp at hx
 | y::l,h=>by
  simp only [er] at h
  split at h
  ·rename_i hy
   intro x hx
   rcases List.mem_cons.1 hx with rfl|hx
   ·exact hy
   ·exact dQ h x hx
  ·cases h
def zd (h:Hint) (row:List AV):Option (List Prop):=match h.b with|true=>(match er row with|true=>some []|false=>none)|false=>some [cC row]
theorem xN {h:Hint} {row:List AV} {C D:List Prop} (hp:zd h row=some C) (hC:bw (C++D)):cC row∧bw D:=by
 unfold zd at hp
 split at hp
 ·split at hp
  ·rename_i h1;cases hp;exact ⟨dQ h1,hC⟩
  ·cases hp
 ·cases hp;exact hC
def rK (P:Program) (s:AS) (xt:TypeId) (z:Nat) (x:AV):Option (List AV) :=
 match P.underlying xt with
 | some (.slice _)=>(match uQ s x with|some (e,row)=>(match Nat.beq e z with|true=>some row|false=>(match x with| .nil=>some []|_=>none))|none=>none)
 | some .string=>(match x,z with| .val (.string b),1=>some (ah b.data.toList)|_,_=>none)
 | _=>none
def q7 (s:AS) (e:Nat):AV->Option (List AV×AS)
 | .nil=>some ([],s)
 | .ref id=>(match look s.H id with|some ⟨e',true,_,cells⟩=>(match Nat.beq e e' with|true=>some (cells,bX id s)|false=>none)|_=>none)
 | .pre id l=>(match look s.H id with|some ⟨e',true,_,cells⟩=>(match Nat.beq e e' with|true=>some (cells.take l,bX id s)|false=>none)|_=>none)
 | .sm e' row=>(match Nat.beq e e' with|true=>some (row,s)|false=>none)
 | _=>none
def Um (x:AV) (row:List AV):List Prop:=match x with| .sm _ _=>[0<row.length]|_=>[]
def lj (P:Program) (n:Nat) (s:AS) (d t xt:Nat) (x y:AV) (h:Hint):Option (AS×List Prop) :=
 match P.underlying t with
 | some (.slice el)=>(match P.info? el with
  | some i=>(match i.zero,i.size,i.bytes with
   | some zero,z+1,b+1=>(match Nat.beq zero.cells.size (z+1),q7 s (z+1) x,rK P s xt (z+1) y with
    | true,some (cells,s1),some row=>(match zd h row,gF n ⟨(bX d s1).F,(d,⟨z+1,true,false,(named h (cells++row)).1⟩)::(bX d s1).H⟩ (some d) (.ref d) with
     | some C,some s'=>some (s',(named h (cells++row)).2++(C++(((cells.length+row.length)*(b+1)≤(z+1)*140737488355328)::Um x row)))
     | _,_=>none)
    | _,_,_=>none)
   | _,_,_=>none)
  | none=>none)
 | _=>none
section
variable {P:Program} {n:Nat} {s:AS} {o:Oper} {h:Hint} {q:AS×List Prop}
theorem Fp {S:Nat->Prop} {w:World} {v:Value} {x:AV} (h:cz S w v x) (hp:iA x=true):v.oneCell'=true:=(e_ (I:=fun _=>none) (.rep h) hp).2
theorem xD {S0:bo} {w0 w:World} {a:Act} {φ:Nat->Option Nat} (hs:aJ S0 w0 n [] s a w φ) {xt:TypeId} {v:Value} {x:AV} (hx:Den (az s.H φ) (aO S0 w φ []) w v x) {z:Nat} {row:List AV} (he:rK P s xt z x=some row) (vI:cC row) :
  ∃m us,oB P w xt z v m us∧us.length=row.length∧ ∀(j:Nat) u x,us[j]?=some u->row[j]?=some x->cz (aO S0 w φ []) w u x:=by
 unfold rK at he
 split at he
 ·rename_i e2 hu
  split at he
  ·rename_i e GC gP
   split at he
   ·rename_i hb
    have hb:=Nat.eq_of_beq_eq_true hb
    cases he
    subst hb
    obtain ⟨A,m,c,us,rfl,h1,h2,h3,h4,h5⟩:=N_ hs hx gP
    have ho:∀u∈us,u.oneCell'=true:=by
     intro u hu
     obtain ⟨j,hj⟩:=List.getElem?_of_mem hu
     have OO:j<row.length:=by have:=(List.getElem?_eq_some_iff.1 hj).1;omega
     exact Fp (h4 j u _ hj (List.getElem?_eq_getElem OO)) (vI _ (List.getElem_mem OO))
    exact ⟨m,us,qn hu (by rw [h2,h1,Nat.mul_comm]) (fun h0=>h3 ag) ho,h2,h4⟩
   ·split at he
    ·cases he
     cases hx with|rep hx=>cases hx with|nil=>exact ⟨0,[],qn hu (by simp) (fun h=>by simp at h) (by simp),rfl,fun j u x hu=>by simp at hu⟩
    ·cases he
  ·cases he
 ·rename_i hu
  split at he
  ·rename_i b
   cases he
   have hv:=bF hx
   subst hv
   refine ⟨b.size,tB b.data.toList,wZ hu b,by rw [gE,aB],fun j u x hu hx=>?_⟩
   have hj:j<b.data.toList.length:=by have:=(List.getElem?_eq_some_iff.1 hu).1;rw [gE] at this;exact this
   rw [PA _ _ hj] at hu
   injection hu with hu;subst hu
   have e2:(ah b.data.toList)[j]?=some (.val (.int .u8 (bv (b.data.toList.getD j 0)))):=by
    simp only [ah,List.getElem?_map,List.getElem?_eq_getElem hj,Option.map_some,List.getD_eq_getElem?_getD,Option.getD_some]
   rw [e2] at hx
   injection hx with hx;subst hx
   exact .val _
  ·cases he
 ·cases he
theorem KG {S0:bo} {w0 w:World} {a:Act} {φ:Nat->Option Nat} (hs:aJ S0 w0 n [] s a w φ) {v:Value} {x:AV} (hx:Den (az s.H φ) (aO S0 w φ []) w v x) {e:Nat} {cells:List AV} {s1:AS} (he:q7 s e x=some (cells,s1)) :
  (v= .slice none 0 0∧cells= []∧ ∃ iW,aJ S0 w0 n [] s1 a w iW∧ ∀b,aO S0 w φ [] b->aO S0 w iW [] b) ∨
  (∃(g l c:Nat) (iW:Nat->Option Nat),v= .slice (some ⟨g,0,none⟩) l c∧aJ S0 w0 n [g] s1 a w iW∧(∀b,aO S0 w φ [] b->aO S0 w iW [g] b)∧l≤c∧c≤maxLen∧cells.length=e*l∧(w0.heap.size≤g∨S0.X g)∧g<w.heap.size ∧
   ∃cur te fr,w.heap[g]?=some (.cells cur te fr)∧(∀j,j<cur.size-> ¬(fr.1≤j∧j<fr.2))∧cur.size=e*c∧ ∀(j:Nat) u x,cur[j]?=some u->cells[j]?=some x->cz (aO S0 w φ []) w u x) ∨
  ∃(A:Option Addr) (l:Nat) (us:List Value),(∃e',x= .sm e' cells)∧v= .slice A l l∧s1=s∧us.length=cells.length∧cells.length=e*l∧(0<us.length-> ∃ad,A=some ad∧ ∀(j:Nat) u,us[j]?=some u->w.cell? (ad.add j)=some u) ∧
   ∀(j:Nat) u x,us[j]?=some u->cells[j]?=some x->cz (aO S0 w φ []) w u x:=by
 have own:∀(id g l c m:Nat) (e':Nat) (fu:Bool) (rc:List AV),look s.H id=some ⟨e',true,fu,rc⟩->az s.H φ id=some (e',m,some g)->e=e'->l≤c->c≤maxLen->aY w g=e'*c->cells.length=e*l->(∀(j:Nat) x,cells[j]?=some x->rc[j]?=some x)->s1=bX id s->v= .slice (some ⟨g,0,none⟩) l c ->
   ∃(g l c:Nat) (iW:Nat->Option Nat),v= .slice (some ⟨g,0,none⟩) l c∧aJ S0 w0 n [g] s1 a w iW∧(∀b,aO S0 w φ [] b->aO S0 w iW [g] b)∧l≤c∧c≤maxLen∧cells.length=e*l∧(w0.heap.size≤g∨S0.X g)∧g<w.heap.size ∧
   ∃cur te fr,w.heap[g]?=some (.cells cur te fr)∧(∀j,j<cur.size-> ¬(fr.1≤j∧j<fr.2))∧cur.size=e*c∧ ∀(j:Nat) u x,cur[j]?=some u->cells[j]?=some x->cz (aO S0 w φ []) w u x:=by
  intro id g l c m e' fu rc hr hi TR G8 ue gC hlen DN ij hv
  subst ij;subst TR
  obtain ⟨r',iE,-,-,bY⟩:=aT hi
  obtain ⟨cur,te,fr,hg,hf,hle,hc⟩:=kS hs hr rfl bY
  refine ⟨g,l,c,erase φ id,hv,hs.jJ id [g] (by rw [bY]),fun b hb=>⟨hb.1,by simp;exact fun e=>hb.2.2.1 id (by rw [bY,e]),fun i hi=>?_,hb.2.2.2⟩,G8,ue,hlen,(hs.cW id g bY).1.2,(hs.cW id g bY).2,cur,te,fr,hg,hf,?_,fun j u x hu hx=>hc j u x hu (DN j x hx)⟩
  ·unfold erase at hi
   split at hi
   ·cases hi
   ·exact hb.2.2.1 i hi
  ·unfold aY at gC;rw [hg] at gC;exact gC
 have none_:∀id,φ id=none->s1=bX id s->v= .slice none 0 0->cells= []->v= .slice none 0 0∧cells= []∧ ∃ iW,aJ S0 w0 n [] s1 a w iW∧ ∀b,aO S0 w φ [] b->aO S0 w iW [] b:=by
  intro id bY ij hv hc
  subst ij
  refine ⟨hv,hc,erase φ id,hs.jJ id [] (by rw [bY]),fun b hb=>⟨hb.1,by simp,fun i hi=>?_,hb.2.2.2⟩⟩
  unfold erase at hi
  split at hi
  ·cases hi
  ·exact hb.2.2.1 i hi
 cases hx with
 | rep hx =>
  cases hx with
  | nil=>cases he;exact .inl ⟨rfl,rfl,φ,hs,fun _ h=>h⟩
  | sm A k e' us row hl hn hm ha h =>
   simp only [q7] at he
   split at he
   ·rename_i hb
    have hb:=Nat.eq_of_beq_eq_true hb
    cases he
    exact .inr (.inr ⟨A,k,us,⟨e',rfl⟩,rfl,rfl,hl,by rw [hn,hb],fun h0=>by
     obtain ⟨ad,h1,-,h2⟩:=ha ag
     exact ⟨ad,h1,h2⟩,h⟩)
   ·cases he
  | _=>cases he
 | agg=>cases he
 | b_=>cases he
 | dead=>cases he
 | addr=>cases he
 | jE=>cases he
 | ref id e' m g l c hi hm hc hx bT =>
  obtain ⟨r,hr,h1,h2,bY⟩:=aT hi
  obtain ⟨re,rp,rf,rc⟩:=r
  simp only [q7,hr] at he
  split at he
  ·rename_i heq
   injection heq with heq;cases heq
   split at he
   ·rename_i hb
    have hb:=Nat.eq_of_beq_eq_true hb
    cases he
    simp only at h1 h2
    subst h1
    exact .inr (.inl (own id g l c m _ _ _ hr hi hb hc hx bT (by rw [h2,hm,hb]) (fun _ _ h=>h) rfl rfl))
   ·cases he
  ·cases he
 | cB id e' hi =>
  obtain ⟨r,hr,h1,h2,bY⟩:=aT hi
  obtain ⟨re,rp,rf,rc⟩:=r
  simp only [q7,hr] at he
  split at he
  ·rename_i heq
   injection heq with heq;cases heq
   split at he
   ·cases he
    simp only at h2
    exact .inl (none_ id bY rfl rfl (List.length_eq_zero_iff.1 h2))
   ·cases he
  ·cases he
 | pre id k e' m g l c hi hn hm hc hx bT =>
  obtain ⟨r,hr,h1,h2,bY⟩:=aT hi
  obtain ⟨re,rp,rf,rc⟩:=r
  simp only [q7,hr] at he
  split at he
  ·rename_i heq
   injection heq with heq;cases heq
   split at he
   ·rename_i hb
    have hb:=Nat.eq_of_beq_eq_true hb
    cases he
    simp only at h1 h2
    subst h1
    exact .inr (.inl (own id g l c m _ _ _ hr hi hb hc hx bT (by rw [List.length_take,h2,hb,←hn];omega) (fun j x h=>bS _ _ _ _ h) rfl rfl))
   ·cases he
  ·cases he
 | dH id e' hi =>
  obtain ⟨r,hr,h1,h2,bY⟩:=aT hi
  obtain ⟨re,rp,rf,rc⟩:=r
  simp only [q7,hr] at he
  split at he
  ·rename_i heq
   injection heq with heq;cases heq
   split at he
   ·cases he
    exact .inl (none_ id bY rfl rfl (by simp))
   ·cases he
  ·cases he
theorem tt {t xt d:Nat} {x y:Operand} (ho:o.op= .call ⟨.builtin .append,⟨[x,y]⟩,⟨[t,xt]⟩⟩) (hd:o.dst=some d) (hr:lj P n s d t xt (bq s x) (bq s y) h=some q):mF P n s o q.1 q.2:=by
 intro hC S0 w0 a w Q ⟨φ,hs⟩
 unfold lj at hr
 split at hr
 ·rename_i el hu
  split at hr
  ·rename_i i hi
   split at hr
   ·rename_i zero z b hz dB x_
    split at hr
    ·rename_i cells s1 row vD lY gP
     split at hr
     ·rename_i C s' pv eF
      injection hr with hr;subst hr
      obtain ⟨hn,F6⟩:=ir hC
      obtain ⟨P2,lH,nn⟩:=xN pv F6
      have vD:=Nat.eq_of_beq_eq_true vD
      replace dB:i.size=z+1:=dB
      replace x_:i.bytes=b+1:=x_
      obtain ⟨m,us,G6,AJ,bV⟩:=xD (P:=P) hs (hs.bq y) gP P2
      have aS:row.length=(z+1)*m:=by rw [←AJ,G6.hl,Nat.mul_comm]
      rw [hn] at eF
      have wp:∀v' w',(Builtin.append_ #[t,xt] o.type #[a.eval x,a.eval y]).run P w= .ok v' w'->iI S0 w0 n s' (a.put o.dst v') w'->o.wp P a w (fun a' w'=>iI S0 w0 n s' a' w') Q:=by
       intro v' w' bZ gB
       refine cS (v:=v') (w':=w') ?_ gB
       unfold execOp
       simp [ho,resolve,invoke,builtin,bZ]
      have Bh:∀s1:AS,look (bX d s1).H d=none:=fun s1=>dr d
      rcases KG hs (hs.bq x) lY with ⟨hv,WO,iW,ij,hF⟩|⟨g,l,c,iW,hv,ij,hF,G8,ue,gC,B3,Ha,cur,te,fr,hg,hf,x8,hold⟩|⟨A,l,ol,⟨e',VY⟩,hv,Sj,CW,gC,Xd,hold⟩
      ·subst WO
       simp only [List.nil_append,List.length_nil,Nat.zero_add] at eF lH
       have xZ:m*i.bytes≤140737488355328:=by
        have:=zh (l:=0) (m:=m) ag (by rw [Nat.zero_add];exact aS) lH
        rw [Nat.zero_add] at this;rw [x_];exact this
       have ns:=ij.mL d
       rcases IA (ty:=o.type) hu hi hz (by rw [vD,dB]) ag (by rw [dB];exact G6) xZ with ⟨hm,bZ⟩|⟨v',w',bZ,hA⟩
       ·have We:row= []:=List.length_eq_zero_iff.1 (by rw [aS,hm];simp)
        subst We
        refine wp (.slice none 0 0) w (by rw [hv];exact bZ) ⟨erase iW d,?_⟩
        rw [hd]
        exact d_ (ns.sO (id:=d) (r:=⟨z+1,true,false,[]⟩) (Bh s1) rfl) (.cB d (z+1) (by rw [br (r:=⟨z+1,true,false,[]⟩) (by rw [aD,if_pos rfl]),ns.only d (Bh s1)];rfl)) eF
       ·rw [dB] at hA
        obtain ⟨ko,h3,h4⟩:=ns.wQ (g0:=none) rfl (by simp) (by simp) (ja eF) (Bh s1) hA (row:=row) AJ.symm (fun j u x hu hx=>(bV j u x hu hx).mono fun b hb=>⟨⟨hb.1,by simp,fun i hi=>by
         unfold erase at hi
         split at hi
         ·cases hi
         ·exact (hF b hb).2.2.1 i hi,hb.2.2.2⟩,rfl⟩)
        refine wp _ _ (by rw [hv];exact bZ) ⟨ko,?_⟩
        rw [hd]
        exact d_ h3 h4 eF
      ·have Np:(cur.toList.take (l*(z+1))).length=cells.length:=by
        have Ms:cur.toList.length=cur.size:=rfl
        rw [List.length_take,gC,Ms,x8,Nat.mul_comm]
        exact Nat.min_eq_left (Nat.mul_le_mul_left _ G8)
       have xZ:(l+m)*i.bytes≤140737488355328:=by
        rw [x_];exact zh ag (by rw [gC,aS,←Nat.mul_add]) lH
       have ns:aJ S0 w0 n [g] (bX d s1) a w (erase iW d):=by
        cases QN:iW d with
        | none=>exact ij.jJ d [g] (by rw [QN])
        | some gd=>exact (ij.jJ d [gd,g] (by rw [QN])).vY
       obtain ⟨v',w',g',bZ,hA⟩:=Iz (ty:=o.type) hu hi hz (by rw [vD,dB]) ag (by rw [dB];exact G6) hg hf (by rw [dB];exact x8) G8 ue xZ
       rw [dB] at hA
       have Uc:∀b,aO S0 w φ [] b->aO S0 w (erase iW d) [g] b:=fun b hb=>⟨hb.1,(hF b hb).2.1,fun i hi=>by
        unfold erase at hi
        split at hi
        ·cases hi
        ·exact (hF b hb).2.2.1 i hi,hb.2.2.2⟩
       obtain ⟨ko,h3,h4⟩:=ns.wQ (g0:=some g) rfl (by simpa using B3) (by simpa using Ha) (ja eF) (Bh s1) hA (row:=cells++row) (by rw [List.length_append,List.length_append,Np,AJ]) (fun j u x hu hx=>by
        refine cz.mono (fun b hb=>⟨Uc b hb,rfl⟩) (?_:cz (aO S0 w φ []) w u x)
        by_cases hj:j<cells.length
        ·rw [List.getElem?_append_left ag] at hu
         rw [List.getElem?_append_left hj] at hx
         have:=bS _ _ _ _ hu
         exact hold j u x (by simpa using this) hx
        ·rw [List.getElem?_append_right ag] at hu
         rw [List.getElem?_append_right ag] at hx
         rw [Np] at hu
         exact bV _ u x hu hx)
       refine wp _ _ (by rw [hv];exact bZ) ⟨ko,?_⟩
       rw [hd]
       exact d_ h3 h4 eF
      ·subst Sj
       rw [VY] at nn
       have Mi:0<m:=by
        have h0:0<row.length:=nn.1
        rw [aS] at h0
        exact Nat.pos_of_mul_pos_left h0
       have xZ:(l+m)*i.bytes≤140737488355328:=by
        rw [x_];exact zh ag (by rw [gC,aS,←Nat.mul_add]) lH
       have ns:=hs.mL d
       obtain ⟨v',w',bZ,hA⟩:=IB (ty:=o.type) hu hi hz (by rw [vD,dB]) ag (by rw [dB];exact G6) (by rw [CW,gC,dB,Nat.mul_comm]) Xd Mi xZ
       rw [dB] at hA
       have Uc:∀b,aO S0 w φ [] b->aO S0 w (erase φ d) [] b:=fun b hb=>⟨hb.1,by simp,fun i hi=>by
        unfold erase at hi
        split at hi
        ·cases hi
        ·exact hb.2.2.1 i hi,hb.2.2.2⟩
       obtain ⟨ko,h3,h4⟩:=ns.wQ (g0:=none) rfl (by simp) (by simp) (ja eF) (Bh _) hA (row:=cells++row) (by rw [List.length_append,List.length_append,CW,AJ]) (fun j u x hu hx=>by
        refine cz.mono (fun b hb=>⟨Uc b hb,rfl⟩) (?_:cz (aO S0 w φ []) w u x)
        by_cases hj:j<cells.length
        ·rw [List.getElem?_append_left ag] at hu
         rw [List.getElem?_append_left hj] at hx
         exact hold j u x hu hx
        ·rw [List.getElem?_append_right ag] at hu
         rw [List.getElem?_append_right ag] at hx
         rw [CW] at hu
         exact bV _ u x hu hx)
       refine wp _ _ (by rw [hv];exact bZ) ⟨ko,?_⟩
       rw [hd]
       exact d_ h3 h4 eF
     ·cases hr
    ·cases hr
   ·cases hr
  ·cases hr
 ·cases hr
def KQ (s:AS):AV->Option (Nat×Nat×Nat)
 | .ref id=>(match look s.H id with|some r=>some (id,0,r.cells.length)|none=>none)
 | .pre id l=>some (id,0,l)
 | .jE id o l=>some (id,o,l)
 | _=>none
def En (P:Program) (n:Nat) (s:AS) (d:Option Nat) (t xt:Nat) (x y:AV) (h:Hint):Option (AS×List Prop) :=
 match P.underlying t with
 | some (.slice el)=>(match eH P el,KQ s x with
  | some (z+1),some (id,off,l)=>(match look s.H id,rK P s xt (z+1) y with
   | some ⟨e,true,fu,cells⟩,some row=>(match Nat.beq e (z+1),zd h row,gF n (Gx s id ⟨e,true,fu,(named h (setCells cells off (row.take (cV h.k (z+1))))).1⟩) d (.val (.int .i64 h.k)) with
    | true,some C,some s'=>some (s',(named h (setCells cells off (row.take (cV h.k (z+1))))).2++(C++ [min row.length l=cV h.k (z+1),0<l]))
    | _,_,_=>none)
   | _,_=>none)
  | _,_=>none)
 | _=>none
theorem Hx {t xt:Nat} {x y:Operand} (ho:o.op= .call ⟨.builtin .copy,⟨[x,y]⟩,⟨[t,xt]⟩⟩) (hr:En P n s o.dst t xt (bq s x) (bq s y) h=some q):mF P n s o q.1 q.2:=by
 intro hC S0 w0 a w Q ⟨φ,hs⟩
 unfold En at hr
 split at hr
 ·rename_i el hu
  split at hr
  ·rename_i z id off l dB Lg
   split at hr
   ·rename_i e fu cells row aS gP
    split at hr
    ·rename_i C s' he pv eF
     injection hr with hr;subst hr
     have he:=Nat.eq_of_beq_eq_true he
     obtain ⟨hn,F6⟩:=ir hC
     obtain ⟨P2,DR,xc,-⟩:=xN pv F6
     obtain ⟨m,us,G6,AJ,bV⟩:=xD (P:=P) hs (hs.bq y) gP P2
     rw [bu] at DR
     have HX:row.length=(z+1)*m:=by rw [←AJ,G6.hl,Nat.mul_comm]
     have hI:=br (φ:=φ) aS
     have hx:=hs.bq x
     have lY:∃(g dl c:Nat),a.eval x= .slice (some ⟨g,off,none⟩) dl c∧φ id=some g∧l=(z+1)*dl∧off+l≤cells.length:=by
      generalize a.eval x=V at hx
      unfold KQ at Lg
      split at Lg
      ·rename_i pU PV
       rw [PV] at hx
       split at Lg
       ·rename_i r' iE
        cases Lg
        rw [aS] at iE;injection iE with iE;subst iE
        cases hx with
        | rep h=>cases h
        | ref _ e' m' g l' c hi hm hc hx bT =>
         rw [hI] at hi;injection hi with hi;injection hi with h1 hi;injection hi with h2 h3
         simp only at h1 h2 ⊢
         exact ⟨g,l',c,rfl,h3,by rw [h2,hm,←h1,he],ag⟩
        | cB _ e' hi =>
         rw [hI] at hi;injection hi with hi;injection hi with h1 hi;injection hi with h2 h3
         simp only at h2 xc;omega
       ·cases Lg
      ·rename_i pU l' PV
       rw [PV] at hx
       cases Lg
       cases hx with
       | rep h=>cases h
       | pre _ _ e' m' g l' c hi tJ hm hc hx bT =>
        rw [hI] at hi;injection hi with hi;injection hi with h1 hi;injection hi with h2 h3
        simp only at h1 h2 ⊢
        exact ⟨g,l',c,rfl,h3,by rw [tJ,←h1,he],ag⟩
       | dH _ e' hi=>omega
      ·rename_i pU o' l' PV
       rw [PV] at hx
       cases Lg
       cases hx with
       | rep h=>cases h
       | jE _ _ _ e' m' l' c g A hi tJ hm hc hx ha =>
        rw [hI] at hi;injection hi with hi;injection hi with h1 hi;injection hi with h2 h3
        obtain ⟨b,hb,rfl⟩:=ha xc
        simp only at h1 h2 ⊢
        exact ⟨b,l',c,rfl,by rw [h3,hb],by rw [tJ,←h1,he],ag⟩
      ·cases Lg
     obtain ⟨g,dl,c,hv,bY,hl,m5⟩:=lY
     obtain ⟨cur,te,fr,hg,hf,hle,hold⟩:=Dl hs aS bY
     have Wt:cells.length≤cur.size:=hle
     have Sp:min m dl=h.k:=by
      rw [HX,hl,Nat.mul_comm h.k,Nat.mul_min_mul_left] at DR
      exact Nat.eq_of_mul_eq_mul_left ag DR
     have gV:h.k*(z+1)≤l:=ag
     have XO:h.k*(z+1)≤row.length:=ag
     have BU:(row.take (cV h.k (z+1))).length=h.k*(z+1):=by rw [bu,List.length_take];omega
     have UZ:(us.take (h.k*(z+1))).length=h.k*(z+1):=by rw [List.length_take];omega
     have dS:(Builtin.firstCells (z+1) h.k (a.eval y)).run P w= .ok (us.take (h.k*(z+1))).toArray w:=G6.part w h.k rfl ag
     have vI:∀u∈us.take (h.k*(z+1)),u.oneCell'=true:=fun u hu=>G6.one u (List.mem_of_mem_take hu)
     have dC:=cY P g te fr cur.size hf off (us.take (h.k*(z+1))) 0 cur w hg (by rw [UZ];omega) rfl vI
     simp only [Nat.add_zero] at dC
     have gB:=hs.written (off:=off) (l:=row.take (cV h.k (z+1))) (vs:=us.take (h.k*(z+1))) aS bY hg hle hold (by rw [BU,UZ]) (by rw [BU];simp only;omega) hn (fun j u x hu hx=>by
      show cz _ _ _ _
      exact bV j u x (bS _ _ _ _ hu) (bS _ _ _ _ hx))
     have Ti:(sizeOf el).run P w= .ok (z+1) w:=run_sizeOf dB
     refine cS (v:=.int .i64 h.k) (w':=w.setRow g (cur.toList.take off++us.take (h.k*(z+1))++cur.toList.drop (off+(us.take (h.k*(z+1))).length)).toArray) ?_ ⟨φ,d_ gB (.rep (.val _)) eF⟩
     have Mg:Nat.min m dl=h.k:=Sp
     unfold execOp
     simp [ho,resolve,invoke,builtin,Builtin.copy_,run_underlying hu,hv,G6.len,Mg,Ti,dS,dC,goInt]
    ·cases hr
   ·cases hr
  ·cases hr
 ·cases hr
end
inductive iu (S:Nat->Prop) (w:World):Value->AV->List Nat->Prop
 | rep {v:Value} {x:AV} (h:cz S w v x):iu S w v x []
 | nil (e:Nat):iu S w (.slice none 0 0) (.own e []) []
 | own (g l c e:Nat) (row:List AV) (cur:Array Value) (te:TypeId) (fr:Nat×Nat) (hg:w.heap[g]?=some (.cells cur te fr)) (hf:∀j,j<cur.size-> ¬(fr.1≤j∧j<fr.2)) (hl:row.length=e*l) (hc:l≤c) (hm:c≤maxLen) (hs:cur.size=e*c)
   (h:∀(j:Nat) u x,cur[j]?=some u->row[j]?=some x->cz S w u x):iu S w (.slice (some ⟨g,0,none⟩) l c) (.own e row) [g]
 | box (g:Nat) (row:List AV) (cur:Array Value) (te:TypeId) (fr:Nat×Nat) (hg:w.heap[g]?=some (.cells cur te fr)) (hf:∀j,j<cur.size-> ¬(fr.1≤j∧j<fr.2)) (hs:cur.size=row.length)
   (h:∀(j:Nat) u x,cur[j]?=some u->row[j]?=some x->cz S w u x):iu S w (.pointer (some ⟨g,0,none⟩)) (.box row) [g]
inductive lr (R:Value->AV->List Nat->Prop):List Value->List AV->List Nat->Prop
 | nil:lr R [] [] []
 | cons {v:Value} {x:AV} {vs:List Value} {xs:List AV} {O1 O2:List Nat} (h:R v x O1) (t:lr R vs xs O2):lr R (v::vs) (x::xs) (O1++O2)
def oC (S:Nat->Prop) (w:World) (v:Value) (x:AV) (O:List Nat):Prop:=iu S w v x O∨ ∃vs cs,v= .agg (List.toArray vs)∧x= .agg cs∧lr (iu S w) vs cs O
def tU (S:Nat->Prop) (w:World) (v:Value) (x:AV) (O:List Nat):Prop:=oC S w v x O∨ ∃vs cs,v= .tuple (List.toArray vs)∧x= .b_ cs∧lr (oC S w) vs cs O
theorem lr.imp {R R':Value->AV->List Nat->Prop} (hR:∀v x O,R v x O->R' v x O) {vs:List Value} {xs:List AV} {O:List Nat} (h:lr R vs xs O):lr R' vs xs O:=by
 induction h with
 | nil=>exact .nil
 | cons h _ ih=>exact .cons (hR _ _ _ h) ih
section
variable {S S':Nat->Prop} {w:World}
theorem iu.mono (hS:∀b,S b->S' b) {v:Value} {x:AV} {O:List Nat} (h:iu S w v x O):iu S' w v x O:=by
 cases h with
 | rep h=>exact .rep (h.mono fun b hb=>⟨hS b hb,rfl⟩)
 | nil e=>exact .nil e
 | own g l c e row cur te fr hg hf hl hc hm hs h=>exact .own g l c e row cur te fr hg hf hl hc hm hs fun j u x hu hx=>(h j u x hu hx).mono fun b hb=>⟨hS b hb,rfl⟩
 | box g row cur te fr hg hf hs h=>exact .box g row cur te fr hg hf hs fun j u x hu hx=>(h j u x hu hx).mono fun b hb=>⟨hS b hb,rfl⟩
theorem oC.mono (hS:∀b,S b->S' b) {v:Value} {x:AV} {O:List Nat} (h:oC S w v x O):oC S' w v x O:=by
 rcases h with h|⟨vs,cs,h1,h2,h3⟩
 ·exact .inl (h.mono hS)
 ·exact .inr ⟨vs,cs,h1,h2,h3.imp fun _ _ _ h=>h.mono hS⟩
theorem tU.mono (hS:∀b,S b->S' b) {v:Value} {x:AV} {O:List Nat} (h:tU S w v x O):tU S' w v x O:=by
 rcases h with h|⟨vs,cs,h1,h2,h3⟩
 ·exact .inl (h.mono hS)
 ·exact .inr ⟨vs,cs,h1,h2,h3.imp fun _ _ _ h=>h.mono hS⟩
end
def bA (P:Program) (f:FuncId) (args:List AV) (r:AV):Prop :=
 ∀(w:World) (S:Nat->Prop) (vs:List Value),Good w->(∀b,S b->b<w.heap.size)->vs.length=args.length->(∀(j:Nat) v x,vs[j]?=some v->args[j]?=some x->cz S w v x) ->
  Calls P f vs.toArray w fun e w'=>∃v O,e= .returned v∧Below w.heap.size w w'∧O.Nodup∧(∀g∈O,w.heap.size≤g∧g<w'.heap.size)∧tU (fun b=>S b∨(w.heap.size≤b∧b<w'.heap.size∧b ∉ O)) w' v r O
def lM (row:List AV):Prop:=∀x∈row,∃v,x= .val v
theorem aQ (l:List UInt8):lM (ah l):=by
 intro x hx;simp only [ah,List.mem_map] at hx;obtain ⟨c,_,rfl⟩:=hx;exact ⟨_,rfl⟩
theorem gK (l:List UInt64):lM (aj l):=by
 intro x hx;simp only [aj,List.mem_map] at hx;obtain ⟨c,_,rfl⟩:=hx;exact ⟨_,rfl⟩
theorem xr (l:List Int):lM (ax l):=by
 intro x hx;simp only [ax,List.mem_map] at hx;obtain ⟨c,_,rfl⟩:=hx;exact ⟨_,rfl⟩
def yf:AV->Option (List Prop)
 | .val _=>some []
 | .nil=>some []
 | .own _ row=>some [lM row]
 | .box row=>some [lM row]
 | _=>none
def qU (f:AV->Option (List Prop)):List AV->Option (List Prop)
 | []=>some []
 | x::l=>match f x,qU f l with|some a,some b=>some (a++b)|_,_=>none
def v8:AV->Option (List Prop)
 | .agg cs=>qU yf cs
 | x=>yf x
def flat:AV->Option (List Prop)
 | .b_ cs=>qU v8 cs
 | x=>v8 x
theorem bN {C D:List Prop}:bw (C++D)↔bw C∧bw D:=by
 induction C with
 | nil=>simp [bw]
 | cons p C ih=>simp only [List.cons_append,bw,ih,and_assoc]
section
variable {S S':Nat->Prop} {w:World}
theorem v_ {v:Value} {x:AV} {O:List Nat} {C:List Prop} (hf:yf x=some C) (hC:bw C) (h:iu S w v x O):iu S' w v x O:=by
 cases h with
 | rep h=>cases h with
  | val v=>exact .rep (.val v)
  | nil=>exact .rep .nil
  | _=>cases hf
 | nil e=>exact .nil e
 | own g l c e row cur te fr hg gZ hl hc hm hs h =>
  refine .own g l c e row cur te fr hg gZ hl hc hm hs fun j u x hu hx=>?_
  have hv:lM row:=by injection hf with hf;subst hf;exact hC.1
  obtain ⟨v',rfl⟩:=hv x (List.mem_of_getElem? hx)
  have:=h j u _ hu hx
  cases this
  exact .val _
 | box g row cur te fr hg gZ hs h =>
  refine .box g row cur te fr hg gZ hs fun j u x hu hx=>?_
  have hv:lM row:=by injection hf with hf;subst hf;exact hC.1
  obtain ⟨v',rfl⟩:=hv x (List.mem_of_getElem? hx)
  have:=h j u _ hu hx
  cases this
  exact .val _
theorem Cs {R R':Value->AV->List Nat->Prop} {f:AV->Option (List Prop)} (hR:∀v x O C,f x=some C->bw C->R v x O->R' v x O) {vs:List Value} {xs:List AV} {O:List Nat} (h:lr R vs xs O):∀C,qU f xs=some C->bw C->lr R' vs xs O:=by
 induction h with
 | nil=>intro _ _ _;exact .nil
 | cons h _ ih =>
  intro C hf hC
  simp only [qU] at hf
  split at hf
  ·rename_i a b ha hb
   cases hf
   obtain ⟨h1,h2⟩:=bN.1 hC
   exact .cons (hR _ _ _ _ ha h1 h) (ih b hb h2)
  ·cases hf
theorem vZ {v:Value} {x:AV} {O:List Nat} {C:List Prop} (hf:v8 x=some C) (hC:bw C) (h:oC S w v x O):oC S' w v x O:=by
 rcases h with h|⟨vs,cs,h1,rfl,h3⟩
 ·by_cases hx:∃cs,x= .agg cs
  ·obtain ⟨cs,rfl⟩:=hx
   cases h with
   | rep h=>cases h with
    | agg vs _ hl h =>
     right
     refine ⟨vs,cs,rfl,rfl,?_⟩
     have key:∀(vs:List Value) (cs:List AV) (C:List Prop),vs.length=cs.length->(∀(j:Nat) v c,vs[j]?=some v->cs[j]?=some c->cz S w v c)->qU yf cs=some C->bw C->lr (iu S' w) vs cs []:=by
      intro vs cs
      induction cs generalizing vs with
      | nil=>intro C hl _ _ _;cases vs with|nil=>exact .nil|cons=>simp at hl
      | cons c cs ih =>
       intro C hl hr hf hC
       cases vs with
       | nil=>simp at hl
       | cons v vs =>
        simp only [qU] at hf
        split at hf
        ·rename_i a b ha hb
         cases hf
         obtain ⟨h1,h2⟩:=bN.1 hC
         exact lr.cons (O1:=[]) (O2:=[]) (v_ ha h1 (.rep (hr 0 v c rfl rfl))) (ih vs b (by simpa using hl) (fun j v c hv hc=>hr (j+1) v c (by simpa using hv) (by simpa using hc)) hb h2)
        ·cases hf
     exact key vs cs C hl h hf hC
  ·have:v8 x=yf x:=by
    cases x with
    | agg cs=>exact absurd ⟨cs,rfl⟩ hx
    | _=>rfl
   rw [this] at hf
   exact .inl (v_ hf hC h)
 ·exact .inr ⟨vs,cs,h1,rfl,Cs (f:=yf) (R':=iu S' w) (fun _ _ _ _ a b c=>v_ a b c) h3 C hf hC⟩
theorem uh {v:Value} {x:AV} {O:List Nat} {C:List Prop} (hf:flat x=some C) (hC:bw C) (h:tU S w v x O):tU S' w v x O:=by
 rcases h with h|⟨vs,cs,h1,rfl,h3⟩
 ·by_cases hx:∃cs,x= .b_ cs
  ·obtain ⟨cs,rfl⟩:=hx
   rcases h with h|⟨vs,Ln,h1,h2,h3⟩
   ·cases h with
    | rep h=>cases h with
     | b_ vs _ hl h =>
      right
      refine ⟨vs,cs,rfl,rfl,?_⟩
      have key:∀(vs:List Value) (cs:List AV) (C:List Prop),vs.length=cs.length->(∀(j:Nat) v c,vs[j]?=some v->cs[j]?=some c->cz S w v c)->qU v8 cs=some C->bw C->lr (oC S' w) vs cs []:=by
       intro vs cs
       induction cs generalizing vs with
       | nil=>intro C hl _ _ _;cases vs with|nil=>exact .nil|cons=>simp at hl
       | cons c cs ih =>
        intro C hl hr hf hC
        cases vs with
        | nil=>simp at hl
        | cons v vs =>
         simp only [qU] at hf
         split at hf
         ·rename_i a b ha hb
          cases hf
          obtain ⟨h1,h2⟩:=bN.1 hC
          exact lr.cons (O1:=[]) (O2:=[]) (vZ ha h1 (.inl (.rep (hr 0 v c rfl rfl)))) (ih vs b (by simpa using hl) (fun j v c hv hc=>hr (j+1) v c (by simpa using hv) (by simpa using hc)) hb h2)
         ·cases hf
      exact key vs cs C hl h hf hC
   ·cases h2
  ·have:flat x=v8 x:=by
    cases x with
    | b_ cs=>exact absurd ⟨cs,rfl⟩ hx
    | _=>rfl
   rw [this] at hf
   exact .inl (vZ hf hC h)
 ·exact .inr ⟨vs,cs,h1,rfl,Cs (f:=v8) (R':=oC S' w) (fun _ _ _ _ a b c=>vZ a b c) h3 C hf hC⟩
end
def jD (id:Nat):AV->AV×List (Nat×Row)
 | .own e row=>(.ref id,[(id,⟨e,true,false,row⟩)])
 | .box row=>(.addr id 0,[(id,⟨1,false,true,row⟩)])
 | x=>(x,[])
def ig (f:Nat->AV->AV×List (Nat×Row)) (step:Nat):Nat->List AV->List AV×List (Nat×Row)
 | _,[]=>([],[])
 | id,x::l=>((f id x).1::(ig f step (id+step) l).1,(ig f step (id+step) l).2++(f id x).2)
def yp (id:Nat):AV->AV×List (Nat×Row)
 | .agg cs=>(.agg (ig jD 100000 (id+100000) cs).1,(ig jD 100000 (id+100000) cs).2)
 | x=>jD id x
def bH (d:Nat):AV->AV×List (Nat×Row)
 | .b_ cs=>(.b_ (ig yp 1000 (d+1000) cs).1,(ig yp 1000 (d+1000) cs).2)
 | x=>yp d x
section
variable {S0:bo} {w0 w:World} {n:Nat} {a:Act}
def Ext (S0:bo) (w:World) (s s':AS) (φ cy:Nat->Option Nat) (O O':List Nat):Prop :=
 (∀i y,az s.H φ i=some y->az s'.H cy i=some y)∧(∀b,aO S0 w φ O b->aO S0 w cy O' b)
theorem Ext.den {s s':AS} {φ cy:Nat->Option Nat} {O O':List Nat} (h:Ext S0 w s s' φ cy O O') {v:Value} {x:AV} (hd:Den (az s.H φ) (aO S0 w φ O) w v x):Den (az s'.H cy) (aO S0 w cy O') w v x :=
 hd.mono h.1 (fun b hb=>⟨h.2 b hb,rfl⟩) (fun _ _ _ _ _=>rfl)
theorem Ext.trans {s s1 s2:AS} {φ iW ko:Nat->Option Nat} {O O1 O2:List Nat} (h:Ext S0 w s s1 φ iW O O1) (k:Ext S0 w s1 s2 iW ko O1 O2):Ext S0 w s s2 φ ko O O2 :=
 ⟨fun i y hi=>k.1 i y (h.1 i y hi),fun b hb=>k.2 b (h.2 b hb)⟩
def Gj (S0:bo) (w0 w:World) (n:Nat) (a:Act) (R:(Nat->Prop)->Value->AV->List Nat->Prop) (f:Nat->AV->AV×List (Nat×Row)):Prop :=
 ∀(s:AS) (φ:Nat->Option Nat) (O1 O:List Nat) (v:Value) (x:AV) (id:Nat),aJ S0 w0 n (O1++O) s a w φ->R (aO S0 w φ (O1++O)) v x O1->(O1++O).Nodup->(∀g∈O1,(w0.heap.size≤g∨S0.X g)∧g<w.heap.size)->(∀i∈(f id x).2.map (·.1),look s.H i=none∧i<1000000000000)->((f id x).2.map (·.1)).Nodup ->
  ∃ cy,aJ S0 w0 n O ⟨s.F,(f id x).2++s.H⟩ a w cy∧Den (az ((f id x).2++s.H) cy) (aO S0 w cy O) w v (f id x).1∧Ext S0 w s ⟨s.F,(f id x).2++s.H⟩ φ cy (O1++O) O
theorem mK:Gj S0 w0 w n a (fun S=>iu S w) jD:=by
 intro s φ O1 O v x id h hg iF mZ gZ _
 cases hg with
 | rep bV =>
  have hx:jD id x=(x,[]):=by
   cases bV<;>rfl
  rw [hx]
  exact ⟨φ,h,.rep bV,fun _ _ h=>h,fun _ h=>h⟩
 | nil e =>
  have hid:look s.H id=none:=(gZ id (by simp [jD])).1
  have h1:=h.sO (id:=id) (r:=⟨e,true,false,[]⟩) hid rfl
  refine ⟨φ,h1,.cB id e ?_,fun i y hi=>?_,fun _ h=>h⟩
  ·show az ((id,⟨e,true,false,[]⟩)::s.H) φ id=_
   rw [br (r:=⟨e,true,false,[]⟩) (by rw [aD,if_pos rfl]),h.only id hid];rfl
  ·obtain ⟨e',m,b⟩:=y
   obtain ⟨q,hl,h1,h2,h3⟩:=aT hi
   show az ((id,_)::s.H) φ i=_
   have cU:id≠i:=fun e=>by subst e;rw [hid] at hl;cases hl
   rw [br (r:=q) (by rw [aD,if_neg cU,hl]),h1,h2,h3]
 | own g l c e row cur te fr hg hf hl hc hm hs bV =>
  have hid:look s.H id=none:=(gZ id (by simp [jD])).1
  have Rp:g ∉ O:=by
   have:=iF
   simp only [List.cons_append,List.nil_append,List.nodup_cons] at this
   exact this.1
  have h1:=aJ.yn (g:=g) (id:=id) (r:=⟨e,true,false,row⟩) h ⟨.inl (gZ id (by simp [jD])).2,(mZ g (by simp)).1⟩ (mZ g (by simp)).2 Rp hid ⟨cur,te,fr,hg,hf,by simp only [hl,hs];exact Nat.mul_le_mul_left _ hc,fun h=>(by cases h),fun j u x hu hx=>by show cz _ _ _ _;exact bV j u x hu hx⟩
  refine ⟨_,h1,.ref id e row.length g l c ?_ hl hc hm (by unfold aY;rw [hg];exact hs),fun i y hi=>?_,fun b hb=>(sn (h.only id hid) b).1 hb⟩
  ·show az ((id,⟨e,true,false,row⟩)::s.H) _ id=_
   rw [br (r:=⟨e,true,false,row⟩) (by rw [aD,if_pos rfl])]
   unfold fU;rw [if_pos rfl]
  ·obtain ⟨e',m,b⟩:=y
   obtain ⟨q,hl,h1,h2,h3⟩:=aT hi
   show az ((id,_)::s.H) _ i=_
   have cU:id≠i:=fun e=>by subst e;rw [hid] at hl;cases hl
   rw [br (r:=q) (by rw [aD,if_neg cU,hl]),h1,h2]
   unfold fU;rw [if_neg (Ne.symm cU),h3]
 | box g row cur te fr hg hf hs bV =>
  have hid:look s.H id=none:=(gZ id (by simp [jD])).1
  have Rp:g ∉ O:=by
   have:=iF
   simp only [List.cons_append,List.nil_append,List.nodup_cons] at this
   exact this.1
  have h1:=aJ.yn (g:=g) (id:=id) (r:=⟨1,false,true,row⟩) h ⟨.inl (gZ id (by simp [jD])).2,(mZ g (by simp)).1⟩ (mZ g (by simp)).2 Rp hid ⟨cur,te,fr,hg,hf,by simp only [hs];exact Nat.le_refl _,fun _=>hs,fun j u x hu hx=>by show Den _ _ _ _ _;exact .rep (bV j u x hu hx)⟩
  refine ⟨_,h1,.addr id 0 1 row.length g ?_,fun i y hi=>?_,fun b hb=>(sn (h.only id hid) b).1 hb⟩
  ·show az ((id,⟨1,false,true,row⟩)::s.H) _ id=_
   rw [br (r:=⟨1,false,true,row⟩) (by rw [aD,if_pos rfl])]
   unfold fU;rw [if_pos rfl]
  ·obtain ⟨e',m,b⟩:=y
   obtain ⟨q,hl,h1,h2,h3⟩:=aT hi
   show az ((id,_)::s.H) _ i=_
   have cU:id≠i:=fun e=>by subst e;rw [hid] at hl;cases hl
   rw [br (r:=q) (by rw [aD,if_neg cU,hl]),h1,h2]
   unfold fU;rw [if_neg (Ne.symm cU),h3]
theorem kO {R:(Nat->Prop)->Value->AV->List Nat->Prop} (Vr:∀S S' v x O,(∀b,S b->S' b)->R S v x O->R S' v x O) {f:Nat->AV->AV×List (Nat×Row)} (hf:Gj S0 w0 w n a R f) (step:Nat):∀(xs:List AV) (vs:List Value) (s:AS) (φ:Nat->Option Nat) (O1 O:List Nat) (id:Nat),aJ S0 w0 n (O1++O) s a w φ->lr (R (aO S0 w φ (O1++O))) vs xs O1->(O1++O).Nodup->(∀g∈O1,(w0.heap.size≤g∨S0.X g)∧g<w.heap.size)->(∀i∈(ig f step id xs).2.map (·.1),look s.H i=none∧i<1000000000000)->((ig f step id xs).2.map (·.1)).Nodup ->
  ∃ cy,aJ S0 w0 n O ⟨s.F,(ig f step id xs).2++s.H⟩ a w cy∧vs.length=(ig f step id xs).1.length∧(∀(j:Nat) v c,vs[j]?=some v->(ig f step id xs).1[j]?=some c->Den (az ((ig f step id xs).2++s.H) cy) (aO S0 w cy O) w v c)∧Ext S0 w s ⟨s.F,(ig f step id xs).2++s.H⟩ φ cy (O1++O) O
 | [],vs,s,φ,O1,O,id,h,hg,iF,mZ,gZ,hn=>by
  cases hg
  exact ⟨φ,h,rfl,fun j v c hv=>by simp at hv,fun _ _ h=>h,fun _ h=>h⟩
 | x::xs,vs,s,φ,O1,O,id,h,hg,iF,mZ,gZ,hn=>by
  cases hg with
  | cons hx ht =>
   rename_i v vs Oa Ob
   rw [List.append_assoc] at h iF hx ht
   simp only [ig,List.map_append] at gZ hn ⊢
   obtain ⟨iW,h1,H0,Ny⟩:=hf s φ Oa (Ob++O) v x id h hx iF (fun g hg=>mZ g (by simp [hg])) (fun i hi=>gZ i (by simp [hi])) (List.nodup_append.1 hn).2.1
   have Tv:(Ob++O).Nodup:=(List.nodup_append.1 iF).2.1
   obtain ⟨ko,h2,B0,AK,Mp⟩:=kO Vr hf step xs vs ⟨s.F,(f id x).2++s.H⟩ iW Ob O (id+step) h1 (ht.imp fun v x O hR=>Vr _ _ v x O (fun b hb=>Ny.2 b hb) hR) Tv (fun g hg=>mZ g (by simp [hg])) (fun i hi=>⟨by
    rw [bJ]
    have h3:look (f id x).2 i=none:=by
     have fO:i ∉ (f id x).2.map (·.1):=fun hm=>(List.nodup_append.1 hn).2.2 i hi i hm rfl
     have key:∀(l:List (Nat×Row)),i ∉ l.map (·.1)->look l i=none:=by
      intro l
      induction l with
      | nil=>intro _;rfl
      | cons p l ih =>
       intro hm
       obtain ⟨k,r⟩:=p
       simp only [List.map_cons,List.mem_cons,not_or] at hm
       rw [aD,if_neg (Ne.symm hm.1),ih hm.2]
     exact key _ fO
    rw [h3,(gZ i (by simp [hi])).1];rfl,(gZ i (by simp [hi])).2⟩) (List.nodup_append.1 hn).1
   have e1:(ig f step (id+step) xs).2++((f id x).2++s.H)=((ig f step (id+step) xs).2++(f id x).2)++s.H:=by rw [List.append_assoc]
   rw [e1] at h2 AK Mp
   rw [List.append_assoc Oa Ob O]
   refine ⟨ko,h2,by simp [B0],fun j v' c hv hc=>?_,Ny.trans Mp⟩
   cases j with
   | zero=>simp at hv hc;subst hv;subst hc;exact Mp.den H0
   | succ j=>exact AK j v' c (by simpa using hv) (by simpa using hc)
theorem rG:Gj S0 w0 w n a (fun S=>oC S w) yp:=by
 intro s φ O1 O v x id h hg iF mZ gZ hn
 rcases hg with hg|⟨vs,cs,rfl,rfl,hL⟩
 ·by_cases hx:∃cs,x= .agg cs
  ·obtain ⟨cs,rfl⟩:=hx
   cases hg with
   | rep bV=>cases bV with
    | agg vs _ hl bV =>
     have hL:lr (iu (aO S0 w φ ([]++O)) w) vs cs []:=by
      have key:∀(vs:List Value) (cs:List AV),vs.length=cs.length->(∀(j:Nat) v c,vs[j]?=some v->cs[j]?=some c->cz (aO S0 w φ ([]++O)) w v c)->lr (iu (aO S0 w φ ([]++O)) w) vs cs []:=by
       intro vs cs
       induction cs generalizing vs with
       | nil=>intro hl _;cases vs with|nil=>exact .nil|cons=>simp at hl
       | cons c cs ih =>
        intro hl hr
        cases vs with
        | nil=>simp at hl
        | cons v vs=>exact lr.cons (O1:=[]) (O2:=[]) (.rep (hr 0 v c rfl rfl)) (ih vs (by simpa using hl) fun j v c hv hc=>hr (j+1) v c (by simpa using hv) (by simpa using hc))
      exact key vs cs hl bV
     obtain ⟨cy,h1,h2,h3,h4⟩:=kO (R:=fun S=>iu S w) (fun S S' v x O hS h=>h.mono hS) mK 100000 cs vs s φ [] O (id+100000) h hL iF mZ gZ hn
     exact ⟨cy,h1,.agg vs _ h2 h3,h4⟩
  ·have:yp id x=jD id x:=by
    cases x with
    | agg cs=>exact absurd ⟨cs,rfl⟩ hx
    | _=>rfl
   rw [this] at gZ hn ⊢
   exact mK s φ O1 O v x id h hg iF mZ gZ hn
 ·obtain ⟨cy,h1,h2,h3,h4⟩:=kO (R:=fun S=>iu S w) (fun S S' v x O hS h=>h.mono hS) mK 100000 cs vs s φ O1 O (id+100000) h hL iF mZ gZ hn
  exact ⟨cy,h1,.agg vs _ h2 h3,h4⟩
theorem xy:Gj S0 w0 w n a (fun S=>tU S w) bH:=by
 intro s φ O1 O v x id h hg iF mZ gZ hn
 rcases hg with hg|⟨vs,cs,rfl,rfl,hL⟩
 ·by_cases hx:∃cs,x= .b_ cs
  ·obtain ⟨cs,rfl⟩:=hx
   rcases hg with hg|⟨vs,Ln,h1,h2,h3⟩
   ·cases hg with
    | rep bV=>cases bV with
     | b_ vs _ hl bV =>
      have hL:lr (oC (aO S0 w φ ([]++O)) w) vs cs []:=by
       have key:∀(vs:List Value) (cs:List AV),vs.length=cs.length->(∀(j:Nat) v c,vs[j]?=some v->cs[j]?=some c->cz (aO S0 w φ ([]++O)) w v c)->lr (oC (aO S0 w φ ([]++O)) w) vs cs []:=by
        intro vs cs
        induction cs generalizing vs with
        | nil=>intro hl _;cases vs with|nil=>exact .nil|cons=>simp at hl
        | cons c cs ih =>
         intro hl hr
         cases vs with
         | nil=>simp at hl
         | cons v vs=>exact lr.cons (O1:=[]) (O2:=[]) (.inl (.rep (hr 0 v c rfl rfl))) (ih vs (by simpa using hl) fun j v c hv hc=>hr (j+1) v c (by simpa using hv) (by simpa using hc))
       exact key vs cs hl bV
      obtain ⟨cy,h1,h2,h3,h4⟩:=kO (R:=fun S=>oC S w) (fun S S' v x O hS h=>h.mono hS) rG 1000 cs vs s φ [] O (id+1000) h hL iF mZ gZ hn
      exact ⟨cy,h1,.b_ vs _ h2 h3,h4⟩
   ·cases h2
  ·have:bH id x=yp id x:=by
    cases x with
    | b_ cs=>exact absurd ⟨cs,rfl⟩ hx
    | _=>rfl
   rw [this] at gZ hn ⊢
   exact rG s φ O1 O v x id h hg iF mZ gZ hn
 ·obtain ⟨cy,h1,h2,h3,h4⟩:=kO (R:=fun S=>oC S w) (fun S S' v x O hS h=>h.mono hS) rG 1000 cs vs s φ O1 O (id+1000) h hL iF mZ gZ hn
  exact ⟨cy,h1,.b_ vs _ h2 h3,h4⟩
def aV:AS->List Nat->AS
 | s,[]=>s
 | s,i::l=>aV (bX i s) l
theorem ks:∀(l:List Nat) (s:AS) (φ:Nat->Option Nat) (O:List Nat),aJ S0 w0 n O s a w φ-> ∃ cy,aJ S0 w0 n O (aV s l) a w cy∧(∀b,aO S0 w φ O b->aO S0 w cy O b)∧(∀i,look s.H i=none∨i∈l->look (aV s l).H i=none)
 | [],s,φ,O,h=>⟨φ,h,fun _ h=>h,fun i hi=>hi.resolve_right (by simp)⟩
 | i::l,s,φ,O,h=>by
  have h1:aJ S0 w0 n O (bX i s) a w (erase φ i):=by
   cases bY:φ i with
   | none=>exact h.jJ i O (by rw [bY])
   | some g=>exact (h.jJ i (g::O) (by rw [bY])).vY
  obtain ⟨cy,h2,h3,h4⟩:=ks l _ _ _ h1
  refine ⟨cy,h2,fun b hb=>h3 b ⟨hb.1,hb.2.1,fun j hj=>?_,hb.2.2.2⟩,fun j hj=>h4 j ?_⟩
  ·unfold erase at hj
   split at hj
   ·cases hj
   ·exact hb.2.2.1 j hj
  ·by_cases e:j=i
   ·subst e;exact .inl (dr j)
   ·rcases hj with hj|hj
    ·exact .inl (qJ i j hj)
    ·rcases List.mem_cons.1 hj with h|h
     ·exact absurd h e
     ·exact .inr h
theorem oy:∀(O' O:List Nat) (s:AS) (φ:Nat->Option Nat),aJ S0 w0 n O s a w φ->(∀g∈O',w.heap.size≤g)->aJ S0 w0 n (O'++O) s a w φ
 | [],O,s,φ,h,_=>h
 | g::O',O,s,φ,h,hg=>(oy O' O s φ h fun g hm=>hg g (by simp [hm])).await g (hg g (by simp))
end
def nodupB:List Nat->Bool
 | []=>true
 | i::l=>match l.any (Nat.beq i),Nat.ble i 999999999999 with|false,true=>nodupB l|_,_=>false
theorem iQ:∀ {l:List Nat},nodupB l=true->l.Nodup
 | [],_=>List.nodup_nil
 | i::l,h=>by
  simp only [nodupB] at h
  split at h
  ·rename_i hn _
   rw [List.nodup_cons]
   refine ⟨fun hm=>?_,iQ h⟩
   have:l.any (Nat.beq i)=true:=List.any_eq_true.2 ⟨i,hm,Nat.beq_refl i⟩
   rw [hn] at this;cases this
  ·cases h
theorem rX:∀ {l:List Nat},nodupB l=true-> ∀i∈l,i<1000000000000
 | [],_,i,h=>by cases h
 | j::l,h,i,hi=>by
  simp only [nodupB] at h
  split at h
  ·rename_i _ hb
   rcases List.mem_cons.1 hi with rfl|hi
   ·have:=Nat.le_of_ble_eq_true hb;omega
   ·exact rX h i hi
  ·cases h
def j8 (s:AS):List AV->Option (List AV)
 | []=>some []
 | x::l=>match view s x,j8 s l with|some y,some m=>some (y::m)|_,_=>none
def za:AV->Bool
 | .agg cs=>er cs
 | .arr _=>true
 | x=>iA x
def lU:List AV->Bool
 | []=>true
 | x::l=>match za x with|true=>lU l|false=>false
def iy (P : Program) (f : FuncId) : Bool := match P.funcs[f]? with | some fn => fn.body.isSome && !(fn.name == "runtime.NumGoroutine") | none => false
theorem pT {P:Program} {f:FuncId} (h:iy P f=true) (args:Array Value) (w:World):(callFunc f args).run P w= .ok (.enter f args) w:=by
 unfold iy at h
 split at h
 ·rename_i fn hf
  simp only [Bool.and_eq_true,Bool.not_eq_true',Option.isSome_iff_exists] at h
  obtain ⟨⟨c,hc⟩,hn⟩:=h
  have tJ : ¬ fn.name = "runtime.NumGoroutine" := by simpa using hn
  simp [callFunc,hf,hc,tJ]
 ·cases h
def callee (s:AS):Callee->Option FuncId
 | .value (.func f)=>some f
 | .value x=>(match bq s x with| .val (.func (.func f) ⟨[]⟩ ⟨[]⟩)=>some f|_=>none)
 | _=>none
def sD (P:Program) (n:Nat) (s:AS) (d:Option Nat) (c:Callee) (args:List Operand) (h:Hint):Option (AS×List Prop) :=
 match callee s c,h.av with
 | some f,some r=>(match iy P f with
  | true=>(match h.b with
   | true=>(match j8 s (args.map (bq s)),flat r,d with
    | some vs,some C,some d=>(match nodupB ((bH d r).2.map (·.1)),gF n ⟨(aV s ((bH d r).2.map (·.1))).F,(bH d r).2++(aV s ((bH d r).2.map (·.1))).H⟩ (some d) (bH d r).1 with
     | true,some s'=>some (s',bA P f vs r::C)
     | _,_=>none)
    | some vs,some C,none=>some (s,bA P f vs r::C)
    | _,_,_=>none)
   | false=>(match gi s ((args.map (bq s)).flatMap o8) with
    | some s1=>(match lU (args.map (bq s1)),d with
     | true,some d=>(match nodupB ((bH d r).2.map (·.1)),gF n ⟨(aV s1 ((bH d r).2.map (·.1))).F,(bH d r).2++(aV s1 ((bH d r).2.map (·.1))).H⟩ (some d) (bH d r).1 with
      | true,some s'=>some (s',[bA P f (args.map (bq s1)) r])
      | _,_=>none)
     | true,none=>some (s1,[bA P f (args.map (bq s1)) r])
     | _,_=>none)
    | none=>none))
  | false=>none)
 | _,_=>none
section
variable {P:Program} {n:Nat} {s:AS} {o:Oper} {h:Hint} {q:AS×List Prop}
theorem ma {S0:bo} {w0 w:World} {O:List Nat} {a:Act} {φ:Nat->Option Nat} (hs:aJ S0 w0 n O s a w φ):∀(xs:List Operand) (ys:List AV),j8 s (xs.map (bq s))=some ys->ys.length=xs.length∧ ∀(j:Nat) v y,(xs.map a.eval)[j]?=some v->ys[j]?=some y->cz (fun b=>b<w.heap.size) w v y
 | [],ys,h=>by cases h;exact ⟨rfl,fun j v y hv=>by simp at hv⟩
 | x::xs,ys,h=>by
  simp only [List.map_cons,j8] at h
  split at h
  ·rename_i y m hy hm
   cases h
   obtain ⟨h1,h2⟩:=ma hs xs m hm
   refine ⟨by simp [h1],fun j v y' hv S_=>?_⟩
   cases j with
   | zero=>simp at hv S_;subst hv;subst S_;exact yz hs (hs.bq x) hy
   | succ j=>exact h2 j v y' (by simpa using hv) (by simpa using S_)
  ·cases h
theorem oF {I:Info} {S:Nat->Prop} {w:World} {v:Value} {x:AV} (hd:Den I S w v x) (hr:za x=true):cz S w v x:=by
 by_cases hc:∃cs,x= .agg cs
 ·obtain ⟨cs,rfl⟩:=hc
  obtain ⟨vs,rfl,hl,hd⟩:=kA hd
  exact .agg vs cs hl fun j v c hv hc=>(e_ (hd j v c hv hc) (iO hr hc)).1
 ·by_cases ha:∃cs,x= .arr cs
  ·obtain ⟨cs,rfl⟩:=ha
   obtain ⟨vs,rfl,hl,hd⟩:=q_ hd
   exact .arr vs cs hl hd
  ·have:za x=iA x:=by
    cases x with
    | agg cs=>exact absurd ⟨cs,rfl⟩ hc
    | arr cs=>exact absurd ⟨cs,rfl⟩ ha
    | _=>rfl
   rw [this] at hr
   exact (e_ hd hr).1
theorem mg:∀ {l:List AV} {j:Nat} {x:AV},lU l=true->l[j]?=some x->za x=true
 | [],j,x,_,h=>by simp at h
 | y::l,j,x,hp,h=>by
  simp only [lU] at hp
  split at hp
  ·rename_i hy
   cases j with
   | zero=>simp at h;subst h;exact hy
   | succ j=>exact mg hp (by simpa using h)
  ·cases hp
theorem jC {S0:bo} {w0 w:World} {O:List Nat} {a:Act} {φ:Nat->Option Nat} (hs:aJ S0 w0 n O s a w φ) {c:Callee} {f:FuncId} (hc:callee s c=some f) {xs:Array Operand} {ts:Array TypeId} (ho:o.op= .call ⟨c,xs,ts⟩) (hE:iy P f=true) :
  (execOp a.eval o).run P w= .ok (.enter f (xs.map a.eval)) w:=by
 have key:∃x,c= .value x∧a.eval x= .func (.func f) #[] #[]:=by
  unfold callee at hc
  split at hc
  ·cases hc;exact ⟨_,rfl,rfl⟩
  ·rename_i x _
   split at hc
   ·rename_i f' he
    cases hc
    exact ⟨x,rfl,bF (he ▸ hs.bq x)⟩
   ·cases hc
  ·cases hc
 obtain ⟨x,rfl,hx⟩:=key
 unfold execOp
 simp [ho,resolve,hx,Deferred.ofValue,invoke,pT hE]
theorem wL {S0:bo} {w0 w:World} {a:Act} {φ:Nat->Option Nat} {Q:Exit->Act->World->Prop} (hs:aJ S0 w0 n [] s a w φ) {f:FuncId} {us:List Value} (bZ:(execOp a.eval o).run P w= .ok (.enter f us.toArray) w) {S:Nat->Prop} {args:List AV} {r:AV} (oa:bA P f args r) (hS:∀b,S b->b<w.heap.size) (hl:us.length=args.length) (iS:∀(j:Nat) v x,us[j]?=some v->args[j]?=some x->cz S w v x)
  (hG:∀w' v O,Below w.heap.size w w'->(∀g∈O,w.heap.size≤g∧g<w'.heap.size)->tU (fun b=>S b∨(w.heap.size≤b∧b<w'.heap.size∧b ∉ O)) w' v r O->tU (aO S0 w' φ O) w' v r O) {s':AS}
  (hd:(∃d,o.dst=some d∧nodupB ((bH d r).2.map (·.1))=true∧gF n ⟨(aV s ((bH d r).2.map (·.1))).F,(bH d r).2++(aV s ((bH d r).2.map (·.1))).H⟩ (some d) (bH d r).1=some s')∨(o.dst=none∧s'=s)) :
  o.wp P a w (fun a' w'=>iI S0 w0 n s' a' w') Q:=by
 unfold Oper.wp
 rw [bZ]
 have np:=oa w S us hs.cX.m7 hS hl iS
 refine np.mono ?_
 rintro en w' ⟨v,O,rfl,hb,iF,mZ,vL⟩
 show iI S0 w0 n s' (a.put o.dst v) w'
 have vL:=hG w' v O hb mZ vL
 have h1:=oy O [] s φ hs (fun g hg=>(mZ g hg).1)
 rw [List.append_nil] at h1
 have h2:=h1.xw (fun g hg=>.inl (Nat.le_trans hs.cX.size (mZ g hg).1)) hb.os hb.tape hb.output hb.size (fun b Lj _=>hb.block b Lj)
 rcases hd with ⟨d,hd,xZ,eF⟩|⟨hd,rfl⟩
 ·obtain ⟨ko,h3,hF,JL⟩:=ks ((bH d r).2.map (·.1)) s φ O h2
  have Xg:aJ S0 w0 n (O++ []) (aV s ((bH d r).2.map (·.1))) a w' ko:=by rw [List.append_nil];exact h3
  obtain ⟨yr,h4,h5,h6⟩:=xy (aV s ((bH d r).2.map (·.1))) ko O [] v r d Xg (by rw [List.append_nil];exact vL.mono hF) (by rw [List.append_nil];exact iF) (fun g hg=>⟨.inl (Nat.le_trans hs.cX.size (mZ g hg).1),(mZ g hg).2⟩) (fun i hi=>⟨JL i (.inr hi),rX xZ i hi⟩) (iQ xZ)
  rw [hd]
  exact ⟨yr,d_ h4 h5 eF⟩
 ·rw [hd]
  have key:∀(O:List Nat),aJ S0 w0 n O s' a w' φ->aJ S0 w0 n [] s' a w' φ:=by
   intro O
   induction O with
   | nil=>exact fun h=>h
   | cons g O ih=>exact fun h=>ih h.vY
  have h3:=key O h2
  exact ⟨φ,⟨h3.j7,h3.j_,h3.cX,h3.cA,h3.rows,h3.only,h3.inj,h3.cW,h3.apart,h3.new⟩⟩
theorem uq {S0:bo} {w0 w:World} {a:Act} {φ:Nat->Option Nat} {Q:Exit->Act->World->Prop} (hs:aJ S0 w0 n [] s a w φ) {f:FuncId} {xs:Array Operand} (bZ:(execOp a.eval o).run P w= .ok (.enter f (xs.map a.eval)) w) {S:Nat->Prop} {args:List AV} {r:AV} (oa:bA P f args r) (hS:∀b,S b->b<w.heap.size) (hl:args.length=xs.toList.length) (iS:∀(j:Nat) v x,(xs.toList.map a.eval)[j]?=some v->args[j]?=some x->cz S w v x)
  (hG:∀w' v O,Below w.heap.size w w'->(∀g∈O,w.heap.size≤g∧g<w'.heap.size)->tU (fun b=>S b∨(w.heap.size≤b∧b<w'.heap.size∧b ∉ O)) w' v r O->tU (aO S0 w' φ O) w' v r O) {s':AS}
  (hd:(∃d,o.dst=some d∧nodupB ((bH d r).2.map (·.1))=true∧gF n ⟨(aV s ((bH d r).2.map (·.1))).F,(bH d r).2++(aV s ((bH d r).2.map (·.1))).H⟩ (some d) (bH d r).1=some s')∨(o.dst=none∧s'=s)) :
  o.wp P a w (fun a' w'=>iI S0 w0 n s' a' w') Q:=by
 have e:(xs.toList.map a.eval).toArray=xs.map a.eval:=by apply Array.ext';simp
 exact wL hs (us:=xs.toList.map a.eval) (by rw [e];exact bZ) oa hS (by simp [hl]) iS hG hd
theorem yj {c:Callee} {xs:Array Operand} {ts:Array TypeId} (ho:o.op= .call ⟨c,xs,ts⟩) (hr:sD P n s o.dst c xs.toList h=some q):mF P n s o q.1 q.2:=by
 intro hC S0 w0 a w Q ⟨φ,hs⟩
 unfold sD at hr
 split at hr
 ·rename_i f r hc _
  split at hr
  ·rename_i hE
   split at hr
   ·
    split at hr
    ·rename_i vs C d hv vO hd
     split at hr
     ·rename_i s' hn hp
      cases hr
      obtain ⟨oa,hC⟩:=hC
      obtain ⟨hl,bV⟩:=ma hs _ _ hv
      exact uq hs (jC hs hc ho hE) oa (S:=fun b=>b<w.heap.size) (fun _ h=>h) hl bV (fun w' v O _ _ hg=>uh vO hC hg) (.inl ⟨d,hd,hn,hp⟩)
     ·cases hr
    ·rename_i vs C hv vO hd
     cases hr
     obtain ⟨oa,hC⟩:=hC
     obtain ⟨hl,bV⟩:=ma hs _ _ hv
     exact uq hs (jC hs hc ho hE) oa (S:=fun b=>b<w.heap.size) (fun _ h=>h) hl bV (fun w' v O _ _ hg=>uh vO hC hg) (.inr ⟨hd,rfl⟩)
    ·cases hr
   ·split at hr
    ·rename_i s1 Jz
     obtain ⟨iW,ij⟩:=gh _ _ _ _ Jz hs
     have UM:lU (xs.toList.map (bq s1))=true-> ∀(j:Nat) v x,(xs.toList.map a.eval)[j]?=some v->(xs.toList.map (bq s1))[j]?=some x->cz (aO S0 w iW []) w v x:=by
      intro xb j v x hv hx
      have OI:=mg xb hx
      rw [List.getElem?_map] at hv hx
      cases hj:xs.toList[j]? with
      | none=>rw [hj] at hv;cases hv
      | some y =>
       rw [hj] at hv hx
       injection hv with hv;injection hx with hx;subst hv;subst hx
       exact oF (ij.bq y) OI
     have hG:∀w' v O,Below w.heap.size w w'->(∀g∈O,w.heap.size≤g∧g<w'.heap.size)->tU (fun b=>aO S0 w iW [] b∨(w.heap.size≤b∧b<w'.heap.size∧b ∉ O)) w' v r O->tU (aO S0 w' iW O) w' v r O:=by
      intro w' v O hb mZ hg
      refine hg.mono fun b k9=>?_
      rcases k9 with k9|⟨h1,h2,h3⟩
      ·exact ⟨by have:=k9.1;have:=hb.size;omega,fun hm=>by have:=(mZ b hm).1;have:=k9.1;omega,k9.2.2⟩
      ·exact ⟨h2,h3,fun i hi=>by have:=(ij.cW i b hi).2;omega,ij.new b (.inl (by have:=ij.cX.size;omega))⟩
     split at hr
     ·rename_i d xb hd
      split at hr
      ·rename_i s' hn hp
       cases hr
       obtain ⟨oa,-⟩:=hC
       exact uq ij (jC hs hc ho hE) oa (fun b hb=>hb.1) (by simp) (UM xb) hG (.inl ⟨d,hd,hn,hp⟩)
      ·cases hr
     ·rename_i xb hd
      cases hr
      obtain ⟨oa,-⟩:=hC
      exact uq ij (jC hs hc ho hE) oa (fun b hb=>hb.1) (by simp) (UM xb) hG (.inr ⟨hd,rfl⟩)
     ·cases hr
    ·cases hr
  ·cases hr
 ·cases hr
def Dv (s:AS) (id:Nat):AS :=
 match look s.H id with
 | some ⟨e,false,f,cs⟩=>(match er cs with|true=>⟨s.F,(id,⟨e,true,f,cs⟩)::cP s.H id⟩|false=>s)
 | _=>s
theorem GK {S0:bo} {w0 w:World} {O:List Nat} {a:Act} {φ:Nat->Option Nat} (id:Nat) (hs:aJ S0 w0 n O s a w φ):aJ S0 w0 n O (Dv s id) a w φ:=by
 unfold Dv
 split
 ·rename_i e f cs hr
  split
  ·rename_i hp
   have lX:∀i,look ((id,(⟨e,true,f,cs⟩:Row))::cP s.H id) i=if id=i then some ⟨e,true,f,cs⟩ else look s.H i:=by
    intro i
    rw [aD,bD]
    by_cases e:id=i<;>simp [e]
   have hI:az ((id,(⟨e,true,f,cs⟩:Row))::cP s.H id) φ=az s.H φ:=by
    funext i
    unfold az
    rw [lX]
    by_cases e:id=i
    ·subst e;rw [if_pos rfl,hr];rfl
    ·rw [if_neg e]
   refine ⟨hs.j7,hs.j_,hs.cX,fun i av hi=>?_,fun i q hq=>?_,fun i hi=>?_,hs.inj,hs.cW,hs.apart,hs.new⟩
   ·simp only [hI];exact hs.cA i av hi
   ·simp only [hI]
    simp only [lX] at hq
    by_cases e:id=i
    ·subst e
     rw [if_pos rfl] at hq;injection hq with hq;subst hq
     have aS:=hs.rows id _ hr
     unfold bK at aS ⊢
     cases bY:φ id with
     | none=>rw [bY] at aS;exact aS
     | some g =>
      rw [bY] at aS
      obtain ⟨cur,te,fr,hg,hf,hl,nn,hc⟩:=aS
      exact ⟨cur,te,fr,hg,hf,hl,nn,fun j u x hu hx=>(e_ (hc j u x hu hx) (iO hp hx)).1⟩
    ·rw [if_neg e] at hq;exact hs.rows i q hq
   ·simp only [lX] at hi
    by_cases e:id=i
    ·rw [if_pos e] at hi;cases hi
    ·rw [if_neg e] at hi;exact hs.only i hi
  ·exact hs
 ·exact hs
def rS:AS->List Nat->AS
 | s,[]=>s
 | s,i::l=>rS (Dv s i) l
theorem qB {S0:bo} {w0 w:World} {O:List Nat} {a:Act} {φ:Nat->Option Nat}:∀(l:List Nat) (s:AS),aJ S0 w0 n O s a w φ->aJ S0 w0 n O (rS s l) a w φ
 | [],_,h=>h
 | i::l,_,h=>qB l _ (GK i h)
def Ee (n:Nat) (s:AS) (d f:Nat) (xs:List Operand):Option (AS×List Prop) :=
 match gi (rS s ((xs.map (bq s)).flatMap o8)) ((xs.map (bq s)).flatMap o8) with
 | some s1=>(match lU (xs.map (bq s1)),gF n s1 (some d) (.lu f (xs.map (bq s1))) with|true,some s'=>some (s',[])|_,_=>none)
 | none=>none
theorem mO {S0:bo} {w0 w:World} {O:List Nat} {a:Act} {φ:Nat->Option Nat} (hs:aJ S0 w0 n O s a w φ) {xs:List Operand} (h:lU (xs.map (bq s))=true) (j:Nat) (v:Value) (x:AV) (hv:(xs.map a.eval)[j]?=some v) (hx:(xs.map (bq s))[j]?=some x):cz (aO S0 w φ O) w v x:=by
 have OI:=mg h hx
 rw [List.getElem?_map] at hv hx
 cases hj:xs[j]? with
 | none=>rw [hj] at hv;cases hv
 | some y =>
  rw [hj] at hv hx
  injection hv with hv;injection hx with hx;subst hv;subst hx
  exact oF (hs.bq y) OI
theorem Hv {d f:Nat} {xs:List Operand} (ho:o.op= .makeFunc (.func f) ⟨[]⟩ ⟨xs⟩) (hd:o.dst=some d) (hr:Ee n s d f xs=some q):mF P n s o q.1 q.2:=by
 intro hC S0 w0 a w Q ⟨φ,hs⟩
 unfold Ee at hr
 split at hr
 ·rename_i s1 Jz
  obtain ⟨iW,ij⟩:=gh _ _ _ _ Jz (qB _ _ hs)
  split at hr
  ·rename_i s' xb hp
   cases hr
   have bZ:(execOp a.eval o).run P w= .ok (.value (.func (.func f) #[] (xs.map a.eval).toArray)) w:=by
    unfold execOp;simp [ho,Instr.makeFunc]
   refine cS bZ ⟨iW,?_⟩
   rw [hd]
   exact d_ ij (.rep (.lu f _ _ (by simp) (mO ij xb))) hp
  ·cases hr
 ·cases hr
def Al (P:Program) (n:Nat) (s:AS) (d:Option Nat) (c:Callee) (args:List Operand) (h:Hint):Option (AS×List Prop) :=
 match c,h.av,gi s ((args.map (bq s)).flatMap o8) with
 | .value x,some r,some s1=>(match bq s1 x with
  | .lu f l4=>(match iy P f,lU (args.map (bq s1)),d with
   | true,true,some d=>(match nodupB ((bH d r).2.map (·.1)),gF n ⟨(aV s1 ((bH d r).2.map (·.1))).F,(bH d r).2++(aV s1 ((bH d r).2.map (·.1))).H⟩ (some d) (bH d r).1 with
    | true,some s'=>some (s',[bA P f (args.map (bq s1)++l4) r])
    | _,_=>none)
   | true,true,none=>some (s1,[bA P f (args.map (bq s1)++l4) r])
   | _,_,_=>none)
  | _=>none)
 | _,_,_=>none
theorem Fq {S:Nat->Prop} {I:Info} {w:World} {v:Value} {f:Nat} {cs:List AV} (h:Den I S w v (.lu f cs)):∃vs:List Value,v= .func (.func f) #[] vs.toArray∧vs.length=cs.length∧ ∀(j:Nat) v c,vs[j]?=some v->cs[j]?=some c->cz S w v c:=by
 cases h with|rep h=>cases h with|lu f vs cs hl h=>exact ⟨vs,rfl,hl,h⟩
theorem uX {S:Nat->Prop} {w:World} {vs us:List Value} {xs ys:List AV} (hl:vs.length=xs.length) (h1:∀(j:Nat) v x,vs[j]?=some v->xs[j]?=some x->cz S w v x) (h2:∀(j:Nat) v x,us[j]?=some v->ys[j]?=some x->cz S w v x) (j:Nat) (v:Value) (x:AV) (hv:(vs++us)[j]?=some v) (hx:(xs++ys)[j]?=some x):cz S w v x:=by
 rcases Nat.lt_or_ge j vs.length with h|h
 ·rw [List.getElem?_append_left h] at hv
  rw [List.getElem?_append_left ag] at hx
  exact h1 j v x hv hx
 ·rw [List.getElem?_append_right h] at hv
  rw [List.getElem?_append_right ag,←hl] at hx
  exact h2 _ v x hv hx
theorem Ep {c:Callee} {xs:Array Operand} {ts:Array TypeId} (ho:o.op= .call ⟨c,xs,ts⟩) (hr:Al P n s o.dst c xs.toList h=some q):mF P n s o q.1 q.2:=by
 intro hC S0 w0 a w Q ⟨φ,hs⟩
 unfold Al at hr
 split at hr
 ·rename_i x r s1 _ Jz
  obtain ⟨iW,ij⟩:=gh _ _ _ _ Jz hs
  split at hr
  ·rename_i f l4 gC
   have dx:=ij.bq x
   rw [gC] at dx
   obtain ⟨cv,hv,TX,Ms⟩:=Fq dx
   have bZ:iy P f=true->(execOp a.eval o).run P w= .ok (.enter f (xs.toList.map a.eval++cv).toArray) w:=by
    intro hE
    have e:(xs.toList.map a.eval++cv).toArray= #[]++xs.map a.eval++cv.toArray:=by apply Array.ext';simp
    rw [e]
    unfold execOp
    simp [ho,resolve,hv,Deferred.ofValue,invoke,pT hE]
   have hG:∀w' v O,Below w.heap.size w w'->(∀g∈O,w.heap.size≤g∧g<w'.heap.size)->tU (fun b=>aO S0 w iW [] b∨(w.heap.size≤b∧b<w'.heap.size∧b ∉ O)) w' v r O->tU (aO S0 w' iW O) w' v r O:=by
    intro w' v O hb mZ hg
    refine hg.mono fun b k9=>?_
    rcases k9 with k9|⟨h1,h2,h3⟩
    ·exact ⟨by have:=k9.1;have:=hb.size;omega,fun hm=>by have:=(mZ b hm).1;have:=k9.1;omega,k9.2.2⟩
    ·exact ⟨h2,h3,fun i hi=>by have:=(ij.cW i b hi).2;omega,ij.new b (.inl (by have:=ij.cX.size;omega))⟩
   have hlen:(xs.toList.map a.eval++cv).length=(xs.toList.map (bq s1)++l4).length:=by simp [TX]
   split at hr
   ·rename_i d hE xb hd
    split at hr
    ·rename_i s' hn hp
     cases hr
     exact wL ij (bZ hE) hC.1 (fun b hb=>hb.1) hlen (uX (by simp) (mO ij xb) Ms) hG (.inl ⟨d,hd,hn,hp⟩)
    ·cases hr
   ·rename_i hE xb hd
    cases hr
    exact wL ij (bZ hE) hC.1 (fun b hb=>hb.1) hlen (uX (by simp) (mO ij xb) Ms) hG (.inr ⟨hd,rfl⟩)
   ·cases hr
  ·cases hr
 ·cases hr
end
end Go.Proofs.YtjgbhhnghedgdaaGreatDoor
