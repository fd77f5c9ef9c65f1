import Derived.Test.YtjgbhhnghedgdaaGreatDoorZvRA
import Derived.Laws.StructEq
import Derived.ChangeKeysEq
set_option linter.all false
namespace Go.Proofs.YtjgbhhnghedgdaaGreatDoor
open Go.RowKit
def JU (P:Program) (eq:TypeId->List AV->List AV->Option Bool) (cs ds:List AV):List Field->Option Bool
 | []=>some true
 | f :: fs => match f.name == "_", eH P f.type, JU P eq cs ds fs with
  | false,some z,some b=>(match eq f.type ((cs.drop f.offset).take z) ((ds.drop f.offset).take z) with|some a=>some (a && b)|none=>none)
  | _,_,_=>none
def OA (P:Program):Nat->TypeId->List AV->List AV->Option Bool
 | 0,_,_,_=>none
 | d+1,t,cs,ds=>match P.underlying t with
  | some .bool=>(match cs,ds with| [.val (.bool a)],[.val (.bool b)]=>some (a == b)|_,_=>none)
  | some (.int _)=>(match cs,ds with| [.val (.int k a)],[.val (.int k' b)]=>if k=k' then some (a == b) else none|_,_=>none)
  | some .string=>(match cs,ds with| [.val (.string a)],[.val (.string b)]=>some (a.toList == b.toList)|_,_=>none)
  | some (.struct fs)=>(match P.stoodInHeld t with|true=>none|false=>JU P (OA P d) cs ds fs.toList)
  | _=>none
def mn (P:Program) (t:TypeId) (vs:List Value) (x:Value):Prop:=match cD P t with|true=>x= .agg vs.toArray|false=>vs= [x]
theorem mF {I:Info} {S:Nat->Prop} {w:World} {vs:List Value} {u:Value} (hl:vs.length=1) (hd:∀(j:Nat) v c,vs[j]?=some v-> [AV.val u][j]?=some c->Den I S w v c):vs= [u]:=by
 match vs,hl with
 | [v],_=>rw [bF (hd 0 v _ rfl rfl)]
section
variable {P:Program} {I:Info} {S:Nat->Prop} {w:World}
theorem vd {t:TypeId} {z:Nat} {cs:List AV} {vs:List Value} {off:Nat} (hz:eH P t=some z) (hu:∃d,P.underlying t=some d) (hl:vs.length=cs.length) (hs:cD P t=false-> ∃x,(cs.drop off).take z= [x]) :
  ∃v,(part t vs.toArray off).run P w= .ok v w∧mn P t ((vs.drop off).take z) v:=by
 cases ha:cD P t with
 | true =>
  refine ⟨.agg (vs.toArray.extract off (off+z)),?_,?_⟩
  ·simp [part,iO hu,ha,run_sizeOf hz]
  ·unfold mn;rw [ha];simp [List.extract_eq_take_drop]
 | false =>
  obtain ⟨x,hx⟩:=hs ha
  have hlen:=congrArg List.length hx
  rw [List.length_take,List.length_drop] at hlen
  simp at hlen
  have cW:off<vs.length:=ag
  refine ⟨vs[off],?_,?_⟩
  ·simp [part,iO hu,ha,cW]
  ·unfold mn;rw [ha]
   show (vs.drop off).take z= [vs[off]]
   rw [List.drop_eq_getElem_cons cW]
   obtain ⟨z',rfl⟩:∃z',z=z'+1:=⟨z-1,ag⟩
   rw [List.take_succ_cons]
   congr 1
   apply List.eq_nil_of_length_eq_zero
   rw [List.length_take,List.length_drop];omega
theorem Fv {eq:TypeId->List AV->List AV->Option Bool} {D:Nat} (heq:∀t cs ds b vs us x y,eq t cs ds=some b->vs.length=cs.length->us.length=ds.length->(∀(j:Nat) v c,vs[j]?=some v->cs[j]?=some c->Den I S w v c)->(∀(j:Nat) v c,us[j]?=some v->ds[j]?=some c->Den I S w v c)->mn P t vs x->mn P t us y->(Op.equalIn D t x y).run P w= .ok b w)
  (og:∀t cs ds b,eq t cs ds=some b->(∃d,P.underlying t=some d)∧(cD P t=false->(∃x,cs= [x])∧ ∃x,ds= [x])) {cs ds:List AV} {vs us:List Value} (hl:vs.length=cs.length) (r7:us.length=ds.length) (hd:∀(j:Nat) v c,vs[j]?=some v->cs[j]?=some c->Den I S w v c) (Gu:∀(j:Nat) v c,us[j]?=some v->ds[j]?=some c->Den I S w v c) :
  ∀(fs:List Field) (b:Bool),JU P eq cs ds fs=some b->(Op.eqFields D vs.toArray us.toArray fs).run P w= .ok b w
 | [],b,h=>by simp [JU] at h;subst h;simp [Op.eqFields]
 | f::fs,b,h=>by
  rw [JU] at h
  split at h
  ·rename_i z b' hn hz ld
   split at h
   ·rename_i a ha
    injection h with h;subst h
    obtain ⟨hu,ho⟩:=og _ _ _ _ ha
    obtain ⟨x,hx,px⟩:=vd (w:=w) (off:=f.offset) hz hu hl (fun h0=>(ho h0).1)
    obtain ⟨y,hy,py⟩:=vd (w:=w) (off:=f.offset) hz hu r7 (fun h0=>(ho h0).2)
    have he:=heq _ _ _ _ _ _ x y ha (by rw [List.length_take,List.length_drop,List.length_take,List.length_drop,hl]) (by rw [List.length_take,List.length_drop,List.length_take,List.length_drop,r7]) (fun j v c hv hc=>hd (f.offset+j) v c (bR _ _ _ _ _ hv) (bR _ _ _ _ _ hc)) (fun j v c hv hc=>Gu (f.offset+j) v c (bR _ _ _ _ _ hv) (bR _ _ _ _ _ hc)) px py
    have tG : f.name ≠ "_" := by simpa using hn
    simp only [Op.eqFields,if_pos tG,Sem.run_bind,hx,hy,he,Result.andThen_ok]
    cases a with
    | false=>simp
    | true =>
     have:=Fv heq og hl r7 hd Gu fs b' ld
     simpa using this
   ·cases h
  ·cases h
theorem L3:∀(d:Nat) (t:TypeId) (cs ds:List AV) (b:Bool),OA P d t cs ds=some b->(∃d,P.underlying t=some d)∧(cD P t=false->(∃x,cs= [x])∧ ∃x,ds= [x]):=by
 intro d t cs ds b h
 cases d with
 | zero=>cases h
 | succ d =>
  unfold OA at h
  split at h
  ·rename_i hu;refine ⟨⟨_,hu⟩,fun _=>?_⟩
   split at h
   ·exact ⟨⟨_,rfl⟩,_,rfl⟩
   ·cases h
  ·rename_i hu;refine ⟨⟨_,hu⟩,fun _=>?_⟩
   split at h
   ·exact ⟨⟨_,rfl⟩,_,rfl⟩
   ·cases h
  ·rename_i hu;refine ⟨⟨_,hu⟩,fun _=>?_⟩
   split at h
   ·exact ⟨⟨_,rfl⟩,_,rfl⟩
   ·cases h
  ·rename_i hu;refine ⟨⟨_,hu⟩,fun ha=>?_⟩
   unfold cD at ha;rw [hu] at ha;cases ha
  ·cases h
theorem Oz (D:Nat):∀(d:Nat) (t:TypeId) (cs ds:List AV) (b:Bool) (vs us:List Value) (x y:Value),OA P d t cs ds=some b->vs.length=cs.length->us.length=ds.length->(∀(j:Nat) v c,vs[j]?=some v->cs[j]?=some c->Den I S w v c)->(∀(j:Nat) v c,us[j]?=some v->ds[j]?=some c->Den I S w v c)->mn P t vs x->mn P t us y->(Op.equalIn (D+d) t x y).run P w= .ok b w:=by
 intro d
 induction d with
 | zero=>intro t cs ds b vs us x y h;cases h
 | succ d ih =>
  intro t cs ds b vs us x y h hl r7 hd Gu px py
  unfold OA at h
  split at h
  ·rename_i hu
   have ha:cD P t=false:=by unfold cD;rw [hu]
   unfold mn at px py;rw [ha] at px py
   split at h
   ·have h1:=mF hl hd
    have h2:=mF r7 Gu
    rw [h1] at px;rw [h2] at py
    injection px with px;injection py with py
    injection h with h
    subst px py h
    exact run_equalIn_bool' w (D+d) t _ _ hu
   ·cases h
  ·rename_i hu
   have ha:cD P t=false:=by unfold cD;rw [hu]
   unfold mn at px py;rw [ha] at px py
   split at h
   ·have h1:=mF hl hd
    have h2:=mF r7 Gu
    rw [h1] at px;rw [h2] at py
    injection px with px;injection py with py
    split at h
    ·rename_i hk
     injection h with h
     subst px py h hk
     exact run_equalIn_int w (D+d) t _ _ _ _ hu
    ·cases h
   ·cases h
  ·rename_i hu
   have ha:cD P t=false:=by unfold cD;rw [hu]
   unfold mn at px py;rw [ha] at px py
   split at h
   ·have h1:=mF hl hd
    have h2:=mF r7 Gu
    rw [h1] at px;rw [h2] at py
    injection px with px;injection py with py
    injection h with h
    subst px py h
    exact run_equalIn_string w (D+d) t _ _ hu
   ·cases h
  ·rename_i fs hu
   have ha:cD P t=true:=by unfold cD;rw [hu]
   unfold mn at px py;rw [ha] at px py
   split at h
   ·cases h
   ·rename_i hp
    have hf:P.fieldsOf t=fs:=by simp [Program.fieldsOf,hu]
    simp only at px py
    subst px py
    rw [show D+(d+1)=(D+d)+1 from rfl,run_equalIn_struct w (D+d) t _ _ (by rw [hf];exact hu) hp,hf]
    exact Fv (fun t cs ds b vs us x y h1 h2 h3 h4 h5 h6 h7=>ih t cs ds b vs us x y h1 h2 h3 h4 h5 h6 h7) (L3 d) hl r7 hd Gu fs.toList b h
  ·cases h
end
def zY (P:Program) (op:BinOp) (t:TypeId) (cs ds:List AV):Option (AV×List Prop) :=
 match op,P.eqGuardType P.depth t,cD P t,OA P 12 t cs ds with
 | .eql,false,true,some b=>some (.val (.bool b),[])
 | .neq,false,true,some b=>some (.val (.bool (!b)),[])
 | _,_,_,_=>none
section
variable {P:Program} {s:AS} {o:Oper} {h:Hint} {r:AV×List Prop}
theorem DI {op:BinOp} {t t':TypeId} {x y:Operand} {cs ds:List AV} (ho:o.op= .binOp op t x y t') (hx:bq s x= .agg cs) (hy:bq s y= .agg ds) (hr:zY P op t cs ds=some r):de P s o r.1 r.2:=by
 intro _ S0 w0 n O a w φ hs
 have dx:=hs.bq x
 have dy:=hs.bq y
 rw [hx] at dx;rw [hy] at dy
 obtain ⟨vs,ex,hl,hd⟩:=kD dx
 obtain ⟨us,ey,r7,Gu⟩:=kD dy
 have main:∀b,P.eqGuardType P.depth t=false->cD P t=true->OA P 12 t cs ds=some b->(∀op,(eqGuard op t x y (a.eval x) (a.eval y)).run P w= .ok () w)∧(Op.equalIn 10000 t (.agg vs.toArray) (.agg us.toArray)).run P w= .ok b w:=by
  intro b hg ha he
  refine ⟨fun op=>by rw [ex,ey];exact run_eqGuard_agg w op t x y _ _ hg,?_⟩
  exact Oz 9988 12 t cs ds b vs us _ _ he hl r7 hd Gu (by unfold mn;rw [ha]) (by unfold mn;rw [ha])
 unfold zY at hr
 split at hr
 ·rename_i hg ha he
  injection hr with hr;subst hr
  obtain ⟨h1,h2⟩:=main _ hg ha he
  refine ⟨.bool _,?_,.rep (.val _)⟩
  unfold execOp;simp only [ho,Sem.run_bind,h1,Result.andThen_ok]
  rw [ex,ey,run_eql_struct,h2];rfl
 ·rename_i hg ha he
  injection hr with hr;subst hr
  obtain ⟨h1,h2⟩:=main _ hg ha he
  refine ⟨.bool _,?_,.rep (.val _)⟩
  unfold execOp;simp only [ho,Sem.run_bind,h1,Result.andThen_ok]
  rw [ex,ey,run_neq_struct,h2];rfl
 ·cases hr
end
def KA (k:IntKind) (n:Nat) (cs ds:List AV) (b:Bool):Prop:=∃l m:List Int,cs=l.map (fun x=>.val (.int k x))∧ds=m.map (fun x=>.val (.int k x))∧l.length=n∧m.length=n∧b=(l == m)
def zU (P:Program) (op:BinOp) (t:TypeId) (cs ds:List AV) (h:Hint):Option (AV×List Prop) :=
 match P.underlying t,P.eqGuardType P.depth t,h.av with
 | some (.array n e),false,some (.val (.bool b))=>(match P.underlying e,eH P e,op with
  | some (.int k),some 1,.eql=>some (.val (.bool b),[KA k n cs ds b])
  | some (.int k),some 1,.neq=>some (.val (.bool b),[KA k n cs ds (!b)])
  | _,_,_=>none)
 | _,_,_=>none
section
variable {P:Program} {w:World}
theorem qU (d:Nat) {e:TypeId} {k k':IntKind} (he:P.underlying e=some (.int k')) {n:Nat} {l m:List Int} (hl:l.length=n) (hm:m.length=n):∀(is:List Nat),(∀i∈is,i<n) ->
  (Op.eqItems (d+1) e 1 (l.map (Value.int k)).toArray (m.map (Value.int k)).toArray is).run P w= .ok (is.all fun i=>l.getD i 0 == m.getD i 0) w
 | [],_=>by simp [Op.eqItems]
 | i::is,hi=>by
  have h1:i<n:=hi i (by simp)
  have ha:cD P e=false:=by unfold cD;rw [he]
  have p1:(part e (l.map (Value.int k)).toArray (i*1)).run P w= .ok (.int k (l.getD i 0)) w:=by
   simp [part,iO ⟨_,he⟩,ha,hl,h1]
  have p2:(part e (m.map (Value.int k)).toArray (i*1)).run P w= .ok (.int k (m.getD i 0)) w:=by
   simp [part,iO ⟨_,he⟩,ha,hm,h1]
  simp only [Op.eqItems,Sem.run_bind,p1,p2,run_equalIn_int w d e k k' _ _ he,Result.andThen_ok,List.all_cons]
  have ih:=qU d (k:=k) he hl hm is (fun j hj=>hi j (by simp [hj]))
  cases hb:l.getD i 0 == m.getD i 0 with
  | false=>simp
  | true=>simpa using ih
theorem Cp {l m:List Int} {n:Nat} (hl:l.length=n) (hm:m.length=n):((List.range n).all fun i=>l.getD i 0 == m.getD i 0)=(l == m):=by
 rw [Bool.eq_iff_iff,List.all_eq_true,beq_iff_eq]
 constructor
 ·intro h
  apply List.ext_getElem ag
  intro i h1 h2
  have:=h i (List.mem_range.2 ag)
  simpa [h1,h2] using this
 ·rintro rfl i _;simp
theorem A7 {S:Nat->Prop} {k:IntKind} {l:List Int} {vs:List Value} (hl:vs.length=(l.map (fun x=>AV.val (.int k x))).length) (hd:∀(j:Nat) v c,vs[j]?=some v->(l.map (fun x=>AV.val (.int k x)))[j]?=some c->cz S w v c):vs=l.map (Value.int k):=by
 apply List.ext_getElem (by simpa using hl)
 intro i h1 h2
 have h3:i<l.length:=by simpa using h2
 have:=hd i vs[i] (.val (.int k l[i])) (List.getElem?_eq_getElem h1) (by simp [h3])
 generalize vs[i]=q at this
 cases this
 simp
end
section
variable {P:Program} {s:AS} {o:Oper} {h:Hint} {r:AV×List Prop}
theorem DH {op:BinOp} {t t':TypeId} {x y:Operand} {cs ds:List AV} (ho:o.op= .binOp op t x y t') (hx:bq s x= .arr cs) (hy:bq s y= .arr ds) (hr:zU P op t cs ds h=some r):de P s o r.1 r.2:=by
 intro hC S0 w0 n O a w φ hs
 have dx:=hs.bq x
 have dy:=hs.bq y
 rw [hx] at dx;rw [hy] at dy
 obtain ⟨vs,ex,hl,hd⟩:=q7 dx
 obtain ⟨us,ey,r7,Gu⟩:=q7 dy
 have main:∀k N e b,P.underlying t=some (.array N e)->P.underlying e=some (.int k)->eH P e=some 1->P.eqGuardType P.depth t=false->KA k N cs ds b->(∀op,(eqGuard op t x y (a.eval x) (a.eval y)).run P w= .ok () w)∧(Op.equalIn 10000 t (.agg vs.toArray) (.agg us.toArray)).run P w= .ok b w:=by
  intro k N e b hu he hz hg ⟨l,m,e1,e2,h1,h2,h3⟩
  refine ⟨fun op=>by rw [ex,ey];exact run_eqGuard_agg w op t x y _ _ hg,?_⟩
  subst e1 e2
  rw [A7 hl hd,A7 r7 Gu]
  obtain ⟨i,hi,RL⟩:∃i,P.info? e=some i∧i.size=1:=by
   unfold eH at hz
   cases hp:P.info? e with
   | none=>rw [hp] at hz;cases hz
   | some i=>rw [hp] at hz;exact ⟨i,rfl,by simpa using hz⟩
  rw [show 10000=9999+1 from rfl,run_equalIn_array w 9999 _ _ hu hi]
  have hc:P.cellsOf e=1:=by unfold Program.cellsOf;rw [hi];exact RL
  rw [hc,show 9999=9998+1 from rfl,qU 9998 he h1 h2 _ (fun i hi=>List.mem_range.1 hi),Cp h1 h2,h3]
 unfold zU at hr
 split at hr
 ·rename_i N e b hu hg _
  split at hr
  ·rename_i k he hz
   injection hr with hr;subst hr
   obtain ⟨h1,h2⟩:=main k N e _ hu he hz hg hC.1
   refine ⟨.bool _,?_,.rep (.val _)⟩
   unfold execOp;simp only [ho,Sem.run_bind,h1,Result.andThen_ok]
   rw [ex,ey,run_eql_struct,h2];rfl
  ·rename_i k he hz
   injection hr with hr;subst hr
   obtain ⟨h1,h2⟩:=main k N e _ hu he hz hg hC.1
   refine ⟨.bool _,?_,.rep (.val _)⟩
   unfold execOp;simp only [ho,Sem.run_bind,h1,Result.andThen_ok]
   rw [ex,ey,run_neq_struct,h2];simp
  ·cases hr
 ·cases hr
def Ab (P:Program) (s:AS) (t:TypeId) (x:AV):Option (AV×List Prop) :=
 match P.underlying t,x with
 | some (.array (n+1) _),.sl (z+1) row=>some (.ptr row 0,[cZ (n+1) (z+1)≤row.length])
 | some (.array (n+1) _),.ref id=>(match look s.H id with
  | some ⟨z+1,_,_,cells⟩=>some (.addr id 0,[cZ (n+1) (z+1)≤cells.length])
  | _=>none)
 | _,_=>none
theorem sQ {P:Program} {w:World} {t:TypeId} {n:Nat} {e:TypeId} (hu:P.underlying t=some (.array n e)) (A:Option Addr) (l c:Nat) (h:n≤l):(Instr.arrayAt t (.slice A l c)).run P w= .ok (.pointer A) w:=by
 have:¬l<n:=ag
 simp [Instr.arrayAt,run_underlying hu,this]
theorem DT {t:TypeId} {x:Operand} (ho:o.op= .sliceToArrayPointer t x) (hr:Ab P s t (bq s x)=some r):de P s o r.1 r.2:=by
 intro hC S0 w0 n O a w φ hs
 have dx:=hs.bq x
 unfold Ab at hr
 split at hr
 ·rename_i N e z row hu hx
  injection hr with hr;subst hr
  rw [hx] at dx
  have bU:=pX dx
  generalize hv:a.eval x=v at bU
  cases bU with
  | sl A l c e' us FX hlen hn hc hm ha iH =>
   have i3:=hC.1
   rw [bz] at i3
   rw [hn,Nat.mul_comm (z+1)] at i3
   have TS:N+1≤l:=Nat.le_of_mul_le_mul_right i3 ag
   obtain ⟨ad,rfl,hS,bw⟩:=ha (by rw [hn];exact Nat.mul_pos ag ag)
   refine ⟨.pointer (some ad),?_,?_⟩
   ·unfold execOp;simp only [ho,hv,Sem.run_bind,sQ hu (some ad) l c TS,Result.andThen_ok];rfl
   ·have:=cz.ptr (S:=aP S0 w φ O) (w:=w) ad us row 0 hlen hS bw iH
    rw [dL] at this
    exact .rep this
 ·rename_i N e id hu hx
  rw [hx] at dx
  split at hr
  ·rename_i z p f cells l3
   injection hr with hr;subst hr
   have i3:=hC.1
   rw [bz] at i3
   generalize hv:a.eval x=v at dx
   cases dx with
   | rep bU=>cases bU
   | ref _ e' m g l c hi hm hc KC bY =>
    have oh:=bt (φ:=φ) l3
    rw [hi] at oh
    simp at oh
    obtain ⟨h1,h2,h3⟩:=oh
    subst h1 h2
    rw [hm,Nat.mul_comm (z+1)] at i3
    have TS:N+1≤l:=Nat.le_of_mul_le_mul_right i3 ag
    refine ⟨.pointer (some ⟨g,0,none⟩),?_,.addr id 0 _ _ g hi⟩
    unfold execOp;simp only [ho,hv,Sem.run_bind,sQ hu _ l c TS,Result.andThen_ok];rfl
   | cm _ e' hi =>
    have oh:=bt (φ:=φ) l3
    rw [hi] at oh
    simp at oh
    rw [←oh.2.1] at i3
    simp at i3
  ·cases hr
 ·cases hr
end
def lP:AV->Option (List AV)
 | .val u=>(match u.oneCell' with|true=>some [.val u]|false=>none)
 | .agg cs=>some cs
 | .arr cs=>some cs
 | .cw _=>none
 | .dead=>none
 | .own _ _=>none
 | .box _=>none
 | x=>some [x]
theorem Ge {v:Value} (h:v.oneCell'=true):v.cells= [v].toArray:=by
 cases v<;>first|rfl|cases h
theorem mG {I:Info} {S:Nat->Prop} {w:World} {v:Value} {x:AV} {l:List AV} (hd:Den I S w v x) (hl:lP x=some l) :
  ∃vs:List Value,v.cells=vs.toArray∧vs.length=l.length∧ ∀(j:Nat) u c,vs[j]?=some u->l[j]?=some c->Den I S w u c:=by
 have single:∀y,Den I S w v y->v.oneCell'=true->l= [y]-> ∃vs:List Value,v.cells=vs.toArray∧vs.length=l.length∧ ∀(j:Nat) u c,vs[j]?=some u->l[j]?=some c->Den I S w u c:=by
  intro y hy ho hl
  subst hl
  refine ⟨[v],Ge ho,rfl,fun j u c hu hc=>?_⟩
  cases j with
  | zero=>simp at hu hc;subst hu;subst hc;exact hy
  | succ j=>simp at hu
 have xQ:=hd
 cases hd with
 | rep h=>cases h with
  | val v =>
   unfold lP at hl
   simp only at hl
   split at hl
   ·rename_i ho;injection hl with hl;exact single _ xQ ho hl.symm
   ·cases hl
  | nil=>injection hl with hl;exact single _ xQ rfl hl.symm
  | agg vs cs hlen h=>injection hl with hl;subst hl;exact ⟨vs,rfl,hlen,fun j u c hu hc=>.rep (h j u c hu hc)⟩
  | cw vs cs hlen h=>cases hl
  | arr vs cs hlen h=>injection hl with hl;subst hl;exact ⟨vs,rfl,hlen,fun j u c hu hc=>.rep (h j u c hu hc)⟩
  | sl=>injection hl with hl;exact single _ xQ rfl hl.symm
  | sg=>injection hl with hl;exact single _ xQ rfl hl.symm
  | ptr=>injection hl with hl;exact single _ xQ rfl hl.symm
  | mI=>injection hl with hl;exact single _ xQ rfl hl.symm
 | agg vs cs hlen h=>injection hl with hl;subst hl;exact ⟨vs,rfl,hlen,h⟩
 | cw=>cases hl
 | dead=>cases hl
 | ref=>injection hl with hl;exact single _ xQ rfl hl.symm
 | cm=>injection hl with hl;exact single _ xQ rfl hl.symm
 | pre=>injection hl with hl;exact single _ xQ rfl hl.symm
 | dP=>injection hl with hl;exact single _ xQ rfl hl.symm
 | jE=>injection hl with hl;exact single _ xQ rfl hl.symm
 | addr=>injection hl with hl;exact single _ xQ rfl hl.symm
def B5 (place:Nat->Option (Nat×Nat)) (cells:List AV):List (Nat×AV)->Option (List AV)
 | []=>some cells
 | (i,x)::rest=>match place i,lP x with
  | some (off,size),some l=>(match Nat.beq l.length size,Nat.ble (off+l.length) cells.length with
   | true,true=>B5 place (cells.take off++l++cells.drop (off+l.length)) rest
   | _,_=>none)
  | _,_=>none
theorem kK (off:Nat):∀(vs:List Value) (k:Nat) (cells:Array Value) (p:Nat),((vs.zipIdx k).foldl (fun cs (cj:Value×Nat)=>cs.setIfInBounds (off+cj.2) cj.1) cells)[p]?=if off+k≤p∧p<off+k+vs.length∧p<cells.size then vs[p-(off+k)]? else cells[p]?
 | [],k,cells,p=>by simp;omega
 | v::vs,k,cells,p=>by
  simp only [List.zipIdx_cons,List.foldl_cons]
  rw [kK off vs (k+1)]
  simp only [Array.size_setIfInBounds,List.length_cons]
  by_cases h1:off+(k+1)≤p∧p<off+(k+1)+vs.length∧p<cells.size
  ·rw [if_pos h1,if_pos ag]
   rw [show p-(off+k)=(p-(off+(k+1)))+1 by omega,List.getElem?_cons_succ]
  ·rw [if_neg h1]
   by_cases h2:off+k=p
   ·subst h2
    by_cases h3:off+k<cells.size
    ·rw [Array.getElem?_setIfInBounds_self_of_lt h3,if_pos ag];simp
    ·rw [if_neg ag,Array.getElem?_eq_none (by simp;omega),Array.getElem?_eq_none ag]
   ·rw [Array.getElem?_setIfInBounds_ne h2,if_neg ag]
theorem jz (off:Nat):∀(vs:List (Value×Nat)) (cells:Array Value),(vs.foldl (fun cs (cj:Value×Nat)=>cs.setIfInBounds (off+cj.2) cj.1) cells).size=cells.size
 | [],_=>rfl
 | v::vs,cells=>by rw [List.foldl_cons,jz off vs];simp
theorem zv {I:Info} {S:Nat->Prop} {w:World} (place:Nat->Option (Nat×Nat)):∀(parts:List (Nat×AV)) (mR:List (Nat×Value)) (cells out:List AV) (cs:Array Value),B5 place cells parts=some out->mR.map (·.1)=parts.map (·.1) ->
  (∀(j:Nat) v x,mR[j]?=some v->parts[j]?=some x->Den I S w v.2 x.2)->cs.size=cells.length->(∀(j:Nat) u c,cs[j]?=some u->cells[j]?=some c->Den I S w u c) ->
  ∃us:List Value,Instr.fill place cs mR=some us.toArray∧us.length=out.length∧ ∀(j:Nat) u c,us[j]?=some u->out[j]?=some c->Den I S w u c
 | [],mR,cells,out,cs,hf,hm,hp,hs,hd=>by
  have:mR= []:=by simpa using hm
  subst this
  injection hf with hf;subst hf
  exact ⟨cs.toList,by simp [Instr.fill],by simpa using hs,fun j u c hu hc=>hd j u c (by simpa using hu) hc⟩
 | (i,x)::parts,mR,cells,out,cs,hf,hm,hp,hs,hd=>by
  cases mR with
  | nil=>simp at hm
  | cons p mR =>
   obtain ⟨i',v⟩:=p
   simp only [List.map_cons,List.cons.injEq] at hm
   obtain ⟨hi,hm⟩:=hm
   subst hi
   have hv:=hp 0 (i',v) (i',x) rfl rfl
   simp only [B5] at hf
   split at hf
   ·rename_i off size l nw hl
    split at hf
    ·rename_i Hp sd
     have h1:=Nat.eq_of_beq_eq_true Hp
     have h2:off+l.length≤cells.length:=Nat.le_of_ble_eq_true sd
     obtain ⟨vs,E5,hlen,dW⟩:=mG hv hl
     have hz:v.cells.zipIdx.foldl (fun cs (cj:Value×Nat)=>cs.setIfInBounds (off+cj.2) cj.1) cs=(vs.zipIdx).foldl (fun cs (cj:Value×Nat)=>cs.setIfInBounds (off+cj.2) cj.1) cs:=by
      rw [E5];simp
     have ih:=zv (I:=I) (S:=S) (w:=w) place parts mR (cells.take off++l++cells.drop (off+l.length)) out ((vs.zipIdx).foldl (fun cs (cj:Value×Nat)=>cs.setIfInBounds (off+cj.2) cj.1) cs) hf hm (fun j v x hv hx=>hp (j+1) v x (by simpa using hv) (by simpa using hx)) (by
       rw [jz,hs];simp only [List.length_append,List.length_take,List.length_drop];omega) (fun j u c hu hc=>by
       rw [kK off vs 0 cs j] at hu
       simp only [Nat.add_zero] at hu
       split at hu
       ·rename_i hj
        rw [List.getElem?_append_left (by simp only [List.length_append,List.length_take];omega),List.getElem?_append_right (by simp only [List.length_take];omega)] at hc
        refine dW _ u c hu ?_
        rw [←hc];congr 1;simp only [List.length_take];omega
       ·rename_i hj
        have XF:j<cs.size:=by
         rcases Nat.lt_or_ge j cs.size with h|h
         ·exact h
         ·rw [Array.getElem?_eq_none h] at hu;cases hu
        refine hd j u c hu ?_
        by_cases V_:j<off
        ·rw [List.getElem?_append_left (by simp only [List.length_append,List.length_take];omega),List.getElem?_append_left (by simp only [List.length_take];omega),List.getElem?_take,if_pos V_] at hc
         exact hc
        ·rw [List.getElem?_append_right (by simp only [List.length_append,List.length_take];omega),List.getElem?_drop] at hc
         rw [←hc];congr 1;simp only [List.length_append,List.length_take];omega)
     obtain ⟨us,BC,r⟩:=ih
     refine ⟨us,?_,r⟩
     have P8:v.cells.size=l.length:=by rw [E5];simpa using hlen
     unfold Instr.fill
     rw [nw]
     simp only
     rw [if_neg (by rw [P8,←h1,hs];simp;omega),hz]
     exact BC
    ·cases hf
   ·cases hf
def tW (P:Program):List Field->Option (List (Nat×Nat))
 | []=>some []
 | f::l=>match eH P f.type,tW P l with|some z,some m=>some ((f.offset,z)::m)|_,_=>none
theorem run_places {P:Program} {w:World}:∀(l:List Field) (m:List (Nat×Nat)),tW P l=some m->(l.mapM fun f=>(do pure (f.offset,←sizeOf f.type):Sem (Nat×Nat))).run P w= .ok m w
 | [],m,h=>by cases h;rfl
 | f::l,m,h=>by
  simp only [tW] at h
  split at h
  ·rename_i z q hz hq
   cases h
   have:=run_places (w:=w) l q hq
   have zi:(sizeOf f.type).run P w= .ok z w:=run_sizeOf hz
   simp only [List.mapM_cons,Sem.run_bind,zi,Result.andThen_ok,Sem.run_pure,this]
  ·cases h
def partsOf (s:AS):List (Nat×Operand)->List (Nat×AV)
 | []=>[]
 | (i,x)::l=>(i,bq s x)::partsOf s l
def Aa (P:Program) (s:AS) (t:TypeId) (parts:List (Nat×Operand)):Option (AV×List Prop) :=
 match (P.info? t).bind (·.zero),P.underlying t with
 | some z,some (.struct fields)=>(match tW P fields.toList with
  | some places=>(match B5 (fun i=>places[i]?) (z.cells.toList.map bC) (partsOf s parts) with|some l=>some (.agg l,[])|none=>none)
  | none=>none)
 | some z,some (.array _ el)=>(match eH P el with
  | some k=>(match B5 (fun i=>some (i*k,k)) (z.cells.toList.map bC) (partsOf s parts) with|some l=>some (.agg l,[])|none=>none)
  | none=>none)
 | _,_=>none
section
variable {P:Program} {s:AS} {o:Oper} {h:Hint} {r:AV×List Prop}
theorem s7 (parts:List (Nat×Operand)) (f:Operand->Value):(parts.map fun p=>(p.1,f p.2)).map (·.1)=(partsOf s parts).map (·.1):=by
 induction parts with
 | nil=>rfl
 | cons p l ih=>obtain ⟨i,x⟩:=p;simp only [List.map_cons,partsOf,ih]
theorem nY {S0:bn} {w0 w:World} {n:Nat} {O:List Nat} {a:Act} {φ:Nat->Option Nat} (hs:aI S0 w0 n O s a w φ):∀(parts:List (Nat×Operand)) (j:Nat) (v:Nat×Value) (x:Nat×AV),(parts.map fun p=>(p.1,a.eval p.2))[j]?=some v->(partsOf s parts)[j]?=some x->Den (az s.H φ) (aP S0 w φ O) w v.2 x.2
 | [],j,v,x,hv,hx=>by simp at hv
 | (i,y)::l,j,v,x,hv,hx=>by
  cases j with
  | zero=>simp [partsOf] at hv hx;subst hv;subst hx;exact hs.bq y
  | succ j=>exact nY hs l j v x (by simpa using hv) (by simpa [partsOf] using hx)
theorem il {w:World} {t:TypeId} {z:Value} (h:(P.info? t).bind (·.zero)=some z):(zeroValue t).run P w= .ok z w:=by
 cases hi:P.info? t with
 | none=>rw [hi] at h;cases h
 | some i=>rw [hi] at h;simp at h;simp [zeroValue,typeInfo,hi,h]
theorem ux {I:Info} {S:Nat->Prop} {w:World} (z:Value) (j:Nat) (u:Value) (c:AV) (hu:z.cells[j]?=some u) (hc:(z.cells.toList.map bC)[j]?=some c):Den I S w u c:=by
 rw [List.getElem?_map] at hc
 have:z.cells.toList[j]?=some u:=by simpa using hu
 rw [this] at hc
 injection hc with hc;subst hc
 exact .rep (gh u)
theorem DS {t:TypeId} {parts:Array (Nat×Operand)} (ho:o.op= .build t parts) (hr:Aa P s t parts.toList=some r):de P s o r.1 r.2:=by
 intro hC S0 w0 n O a w φ hs
 unfold Aa at hr
 have nw:(parts.map fun p=>(p.1,a.eval p.2)).toList=parts.toList.map fun p=>(p.1,a.eval p.2):=by simp
 split at hr
 ·rename_i z fields hz hu
  split at hr
  ·rename_i places hp
   split at hr
   ·rename_i l hl
    injection hr with hr;subst hr
    obtain ⟨us,BC,hlen,dW⟩:=zv (I:=az s.H φ) (S:=aP S0 w φ O) (w:=w) (fun i=>places[i]?) (partsOf s parts.toList) (parts.toList.map fun p=>(p.1,a.eval p.2)) _ l z.cells hl (s7 _ _) (nY hs parts.toList) (by simp) (ux z)
    refine ⟨.agg us.toArray,?_,.agg us l hlen dW⟩
    have hm:(fields.mapM fun f=>(do pure (f.offset,←sizeOf f.type):Sem (Nat×Nat))).run P w= .ok places.toArray w:=by
     rw [Array.mapM_eq_mapM_toList,Sem.run_map,run_places _ _ hp];rfl
    have QI:Instr.fill (fun i=>places.toArray[i]?) z.cells (parts.map fun p=>(p.1,a.eval p.2)).toList=some us.toArray:=by
     rw [nw,←BC];congr 1;funext i;simp
    unfold execOp
    simp only [ho,Instr.build,Sem.run_bind,il hz,Result.andThen_ok,run_underlying hu]
    rw [hm]
    simp only [Result.andThen_ok]
    rw [QI]
    rfl
   ·cases hr
  ·cases hr
 ·rename_i z n' el hz hu
  split at hr
  ·rename_i k hk
   split at hr
   ·rename_i l hl
    injection hr with hr;subst hr
    obtain ⟨us,BC,hlen,dW⟩:=zv (I:=az s.H φ) (S:=aP S0 w φ O) (w:=w) (fun i=>some (i*k,k)) (partsOf s parts.toList) (parts.toList.map fun p=>(p.1,a.eval p.2)) _ l z.cells hl (s7 _ _) (nY hs parts.toList) (by simp) (ux z)
    refine ⟨.agg us.toArray,?_,.agg us l hlen dW⟩
    have pf:(sizeOf el).run P w= .ok k w:=run_sizeOf hk
    unfold execOp
    simp only [ho,Instr.build,Sem.run_bind,il hz,Result.andThen_ok,run_underlying hu,pf]
    rw [nw,BC]
    rfl
   ·cases hr
  ·cases hr
 ·cases hr
def qS (P:Program) (s:AS) (o:Oper) (h:Hint):Option (AV×List Prop) :=
 match o.op with
 | .move x=>some (fin h (bq s x,[]))
 | .assign x=>some (fin h (bq s x,[]))
 | .binOp op t x y _=>(match bq s x,bq s y with
  | .val u,.val v=>(match JS P op t x y u v with|some r=>some (fin h r)|none=>none)
  | .agg cs,.agg ds=>(match zY P op t cs ds with|some r=>some (fin h r)|none=>none)
  | .arr cs,.arr ds=>zU P op t cs ds h
  | _,_=>none)
 | .unOp op _ x=>(match bq s x with| .val u=>(match Ow P op u with|some r=>some (fin h r)|none=>none)|_=>none)
 | .convert src dst x=>DP P s src dst (bq s x) h
 | .load t x=>DD P s t (bq s x) h
 | .fieldAddr t x f=>ow P t (bq s x) f
 | .indexAddr t x i=>(match bq s i with| .val (.int _ n)=>JM P s t (bq s x) n h|_=>none)
 | .index t x i=>(match bq s i with| .val (.int _ n)=>zH P t (bq s x) n h|_=>none)
 | .slice t x lo hi mx=>(match wz s lo hi mx with|some c=>zz P s t (bq s x) c h|none=>none)
 | .field t x f=>zJ P t (bq s x) f h
 | .extract x i=>sr (bq s x) i
 | .nilCheck x=>JI (bq s x)
 | .pick c x y=>(match DA s c x y h with|some r=>some (fin h r)|none=>none)
 | .build t parts=>Aa P s t parts.toList
 | .sliceToArrayPointer t x=>Ab P s t (bq s x)
 | .call ⟨.builtin .len,⟨[x]⟩,ts⟩=>JK P s ts o.type (bq s x) h
 | .call ⟨.builtin b,xs,ts⟩=>(match uF s xs.toList with|some us=>(match Oy P b ts o.type us with|some r=>some (fin h r)|none=>none)|none=>none)
 | _=>none
theorem lk (hr:qS P s o h=some r):de P s o r.1 r.2:=by
 unfold qS at hr
 split at hr
 ·rename_i x ho
  injection hr with hr;subst hr
  refine gN fun _ S0 w0 n O a w φ hs=>⟨a.eval x,?_,hs.bq x⟩
  unfold execOp;simp only [ho];rfl
 ·rename_i x ho
  injection hr with hr;subst hr
  refine gN fun _ S0 w0 n O a w φ hs=>⟨a.eval x,?_,hs.bq x⟩
  unfold execOp;simp only [ho];rfl
 ·rename_i op t x y t' ho
  split at hr
  ·rename_i u v hu hv
   split at hr
   ·rename_i q hq
    injection hr with hr;subst hr
    exact gN (JR ho hu hv hq)
   ·cases hr
  ·rename_i cs ds hu hv
   split at hr
   ·rename_i q hq
    injection hr with hr;subst hr
    exact gN (DI ho hu hv hq)
   ·cases hr
  ·rename_i cs ds hu hv
   exact DH ho hu hv hr
  ·cases hr
 ·rename_i op t x ho
  split at hr
  ·rename_i u hu
   split at hr
   ·rename_i q hq
    injection hr with hr;subst hr
    exact gN (L0 ho hu hq)
   ·cases hr
  ·cases hr
 ·rename_i ho;exact GO ho hr
 ·rename_i ho;exact GJ ho hr
 ·rename_i ho;exact wj ho hr
 ·rename_i ho
  split at hr
  ·rename_i hi;exact JL ho hi hr
  ·cases hr
 ·rename_i ho
  split at hr
  ·rename_i hi;exact DE ho hi hr
  ·cases hr
 ·rename_i ho
  split at hr
  ·rename_i hc;exact Dz ho hc hr
  ·cases hr
 ·rename_i ho;exact DG ho hr
 ·rename_i ho;exact zM ho hr
 ·rename_i ho;exact JH ho hr
 ·rename_i ho
  split at hr
  ·rename_i q hq
   injection hr with hr;subst hr
   exact gN (GG ho hq)
  ·cases hr
 ·rename_i ho;exact DS ho hr
 ·rename_i ho;exact DT ho hr
 ·rename_i ho;exact JJ ho hr
 ·rename_i b xs ts _ ho
  split at hr
  ·rename_i us hu
   split at hr
   ·rename_i q hq
    injection hr with hr;subst hr
    exact gN (L1 ho hu hq)
   ·cases hr
  ·cases hr
 ·cases hr
end
def mK (P:Program) (n:Nat) (s:AS) (o:Oper) (s':AS) (C:List Prop):Prop :=
 bx C-> ∀S0 w0 a w Q,ie S0 w0 n s a w->o.wp P a w (fun a' w'=>ie S0 w0 n s' a' w') Q
def fO (n:Nat) (s:AS) (d:Option Nat) (x:AV):Option AS :=
 match d with
 | none=>some s
 | some d=>(match Nat.blt d n,Nat.ble n 1000000000 with|true,true=>some (lT s d x)|_,_=>none)
theorem dU {S0:bn} {w0 w:World} {n:Nat} {O:List Nat} {s s':AS} {a:Act} {φ:Nat->Option Nat} {d:Option Nat} {v:Value} {x:AV} (h:aI S0 w0 n O s a w φ) (hx:Den (az s.H φ) (aP S0 w φ O) w v x) (hp:fO n s d x=some s'):aI S0 w0 n O s' (a.put d v) w φ:=by
 unfold fO at hp
 split at hp
 ·injection hp with hp;subst hp
  exact ⟨h.j8,h.ke,h.da,h.cC,h.rows,h.only,h.inj,h.cY,h.apart,h.new⟩
 ·split at hp
  ·rename_i d _ _ hb _
   injection hp with hp;subst hp
   have hd:d<n:=by simpa [Nat.blt_eq] using hb
   exact h.put hd hx
  ·cases hp
theorem cN {P:Program} {o:Oper} {a:Act} {w w':World} {v:Value} {next:Act->World->Prop} {Q:Exit->Act->World->Prop} (bT:(execOp a.eval o).run P w= .ok (.value v) w') (hn:next (a.put o.dst v) w'):o.wp P a w next Q:=by
 unfold Oper.wp
 rw [bT]
 exact hn
theorem iA {n:Nat} {s s':AS} {d:Nat} {x:AV} (hp:fO n s (some d) x=some s'):d<1000000000000:=by
 unfold fO at hp
 simp only at hp
 split at hp
 ·rename_i h1 h2
  have h1:d<n:=by simpa [Nat.blt_eq] using h1
  have h2:=Nat.le_of_ble_eq_true h2
  omega
 ·cases hp
theorem Ig {P:Program} {n:Nat} {s s':AS} {o:Oper} {x:AV} {C:List Prop} (h:de P s o x C) (hp:fO n s o.dst x=some s'):mK P n s o s' C:=by
 intro hC S0 w0 a w Q ⟨φ,hs⟩
 obtain ⟨v,bT,dW⟩:=h hC S0 w0 n [] a w φ hs
 unfold Oper.wp
 rw [bT]
 exact ⟨φ,dU hs dW hp⟩
def named (h:Hint) (cells:List AV):List AV×List Prop:=match h.av with|some (.arr row)=>(row,[cells=row])|_=>(cells,[])
theorem ir {h:Hint} {cells:List AV} {C:List Prop} (hC:bx ((named h cells).2++C)):(named h cells).1=cells∧bx C:=by
 unfold named at *
 split at hC
 ·exact ⟨hC.1.symm,hC.2⟩
 ·exact ⟨rfl,hC⟩
def install (s:AS) (id:Nat) (r:Row):AS:=⟨(ck id s).F,(id,r)::(ck id s).H⟩
section
variable {S0:bn} {w0 w w':World} {n:Nat} {s:AS} {a:Act} {φ:Nat->Option Nat}
theorem aI.mT (h:aI S0 w0 n [] s a w φ) (id:Nat):aI S0 w0 n [] (ck id s) a w (erase φ id):=by
 cases bW:φ id with
 | none=>exact h.jJ id [] (by rw [bW])
 | some g=>exact (h.jJ id [g] (by rw [bW])).vV
theorem du (id:Nat):look (ck id s).H id=none:=by
 unfold ck;rw [cy,bH,if_pos rfl];rfl
theorem aI.fresh (h:aI S0 w0 n [] s a w φ) (id:Nat) (r:Row) (hid:id<1000000000000) (I7:w'.os=w.os) (vB:w'.tape=w.tape) (vC:w'.output=w.output) (dv:w.heap.size<w'.heap.size) (hb:∀b,b<w.heap.size->w'.heap[b]?=w.heap[b]?)
  {cur:Array Value} {te:TypeId} {fr:Nat×Nat} (hg:w'.heap[w.heap.size]?=some (.cells cur te fr)) (gu:∀j,j<cur.size-> ¬(fr.1≤j∧j<fr.2)) (hl:r.cells.length≤cur.size) (nr:r.full=true->cur.size=r.cells.length)
  (hc:∀(j:Nat) u x,cur[j]?=some u->r.cells[j]?=some x->(r.pure=true->cz (aP S0 w φ []) w u x)∧(r.pure=false-> ∃y,x=aF id y∧Den (az s.H φ) (aP S0 w φ []) w u y)) :
  aI S0 w0 n [] (install s id r) a w' (fM (erase φ id) id w.heap.size):=by
 have h1:=h.mT id
 have h2:=h1.await w.heap.size (Nat.le_refl _)
 have h3:=h2.xn (w':=w') (fun g hg=>by simp at hg;rw [hg];exact .inl h.da.size) I7 vB vC (Nat.le_of_lt dv) (fun b Hp _=>hb b Hp)
 have Vc:∀b,aP S0 w φ [] b->aP S0 w (erase φ id) [] b:=by
  intro b ⟨h1,h2,h3,h4⟩
  refine ⟨h1,h2,fun i hi=>?_,h4⟩
  unfold erase at hi
  split at hi
  ·cases hi
  ·exact h3 i hi
 have hF:∀b,aP S0 w (erase φ id) [] b->aP S0 w' (erase φ id) [w.heap.size] b∧w'.heap[b]?=w.heap[b]?:=by
  intro b ⟨h1,h2,h3⟩
  exact ⟨⟨ag,by simp;omega,h3⟩,hb b h1⟩
 refine h3.x_ ⟨.inl hid,.inl h.da.size⟩ dv (by simp) (du id) ⟨cur,te,fr,hg,gu,hl,nr,fun j u x hu hx=>?_⟩
 obtain ⟨hp,hi⟩:=hc j u x hu hx
 unfold bh
 cases qL:r.pure with
 | true=>exact ((hp qL).mono fun b hb=>⟨Vc b hb,rfl⟩).mono hF
 | false =>
  obtain ⟨y,rfl,hy⟩:=hi qL
  have hk:=(vx id (oc id) Vc).all hy
  exact hk.mono (fun _ _ h=>h) hF (fun i e m g hi=>by
   obtain ⟨q,-,-,-,hg⟩:=aS hi
   unfold aW;rw [hb g (h1.cY i g hg).2])
theorem eM (id:Nat) (r:Row) (g:Nat):az (install s id r).H (fM (erase φ id) id g) id=some (r.e,r.cells.length,some g):=by
 rw [bt (r:=r) (by unfold install;rw [aD,if_pos rfl])]
 unfold fM;rw [if_pos rfl]
end
def sD (P:Program) (t:TypeId):Nat:=match P.underlying t with|some (.array _ el)=>(match eH P el with|some k=>k|none=>1)|_=>1
theorem iE {α:Type} (f:Nat->α):(Array.range 0).map f= #[]:=Array.eq_empty_of_size_eq_zero (by simp)
def oZ (P:Program) (n:Nat) (s:AS) (d t:Nat) (h:Hint):Option (AS×List Prop) :=
 match (P.info? t).bind (·.zero) with
 | some z=>(match h.av with
  | some (.arr row)=>(match fO n (install s d ⟨sD P t,true,true,row⟩) (some d) (.addr d 0) with|some s'=>some (s',[z.cells.toList.map bC=row])|none=>none)
  | _=>(match fO n (install s d ⟨sD P t,false,true,z.cells.toList.map bC⟩) (some d) (.addr d 0) with|some s'=>some (s',[])|none=>none))
 | none=>none
theorem df (w:World) (o:Obj):({w with heap:=w.heap.push o}:World).heap[w.heap.size]?=some o:=by simp
theorem cA (w:World) (o:Obj) (b:Nat) (h:b<w.heap.size):({w with heap:=w.heap.push o}:World).heap[b]?=w.heap[b]?:=by
 show (w.heap.push o)[b]?=_
 rw [Array.getElem?_push,if_neg ag]
section
variable {P:Program} {n:Nat} {s:AS} {o:Oper} {h:Hint} {q:AS×List Prop}
theorem C9 (id:Nat) (v:Value):aF id (bC v)=bC v:=by
 unfold bC
 split<;>rfl
theorem wo {t d:Nat} (ho:o.op= .alloc t) (hd:o.dst=some d) (hr:oZ P n s d t h=some q):mK P n s o q.1 q.2:=by
 intro hC S0 w0 a w Q ⟨φ,hs⟩
 unfold oZ at hr
 split at hr
 ·rename_i z hz
  have bT:(execOp a.eval o).run P w= .ok (.value (.pointer (some ⟨w.heap.size,0,none⟩))) {w with heap:=w.heap.push (.cells z.cells t (0,0))}:=by
   unfold execOp
   simp [ho,Instr.alloc,il hz,newVar,newRow]
  refine cN bT ?_
  rw [hd]
  split at hr
  ·rename_i row _
   split at hr
   ·rename_i s' bY
    injection hr with hr;subst hr
    have e:=hC.1
    have h1:=hs.fresh (w':={w with heap:=w.heap.push (.cells z.cells t (0,0))}) d ⟨sD P t,true,true,row⟩ (iA bY) rfl rfl rfl (by simp) (cA w _) (df w _) (by simp) (by simp [←e]) (by simp [←e]) (fun j u x hu hx=>⟨fun _=>by
     simp only [←e,List.getElem?_map] at hx
     have:z.cells.toList[j]?=some u:=by simpa using hu
     rw [this] at hx;injection hx with hx;subst hx;exact gh u,fun h=>by cases h⟩)
    exact ⟨_,dU h1 (.addr d 0 _ _ _ (eM d _ _)) bY⟩
   ·cases hr
  ·split at hr
   ·rename_i s' bY
    injection hr with hr;subst hr
    have h1:=hs.fresh (w':={w with heap:=w.heap.push (.cells z.cells t (0,0))}) d ⟨sD P t,false,true,z.cells.toList.map bC⟩ (iA bY) rfl rfl rfl (by simp) (cA w _) (df w _) (by simp) (by simp) (by simp) (fun j u x hu hx=>⟨fun h=>(by cases h),fun _=>by
     simp only [List.getElem?_map] at hx
     have:z.cells.toList[j]?=some u:=by simpa using hu
     rw [this] at hx;injection hx with hx;subst hx
     exact ⟨bC u,(C9 d u).symm,.rep (gh u)⟩⟩)
    exact ⟨_,dU h1 (.addr d 0 _ _ _ (eM d _ _)) bY⟩
   ·cases hr
 ·cases hr
def JQ (P:Program) (n:Nat) (s:AS) (d t:Nat) (x:AV):Option (AS×List Prop) :=
 match x with
 | .arr row=>(match fO n (install s d ⟨sD P t,true,true,row⟩) (some d) (.addr d 0) with|some s'=>some (s',[])|none=>none)
 | x=>(match lP x with
  | some l=>(match fO n (install s d ⟨sD P t,false,true,l.map (aF d)⟩) (some d) (.addr d 0) with|some s'=>some (s',[])|none=>none)
  | none=>none)
theorem JP {t d:Nat} {x:Operand} (ho:o.op= .box t x) (hd:o.dst=some d) (hr:JQ P n s d t (bq s x)=some q):mK P n s o q.1 q.2:=by
 intro hC S0 w0 a w Q ⟨φ,hs⟩
 have hx:=hs.bq x
 have bT:(execOp a.eval o).run P w= .ok (.value (.pointer (some ⟨w.heap.size,0,none⟩))) {w with heap:=w.heap.push (.cells (a.eval x).cells t (0,0))}:=by
  unfold execOp
  simp [ho,Instr.box,newVar,newRow]
 refine cN bT ?_
 rw [hd]
 unfold JQ at hr
 split at hr
 ·rename_i row he
  split at hr
  ·rename_i s' bY
   injection hr with hr;subst hr
   rw [he] at hx
   obtain ⟨vs,hv,hl,bU⟩:=q7 hx
   have dk:(a.eval x).cells=vs.toArray:=by rw [hv];rfl
   rw [dk]
   have h1:=hs.fresh (w':={w with heap:=w.heap.push (.cells vs.toArray t (0,0))}) d ⟨sD P t,true,true,row⟩ (iA bY) rfl rfl rfl (by simp) (cA w _) (df w _) (by simp) (by simp [hl]) (by simp [hl]) (fun j u x hu hx=>⟨fun _=>bU j u x (by simpa using hu) hx,fun h=>by cases h⟩)
   exact ⟨_,dU h1 (.addr d 0 _ _ _ (eM d _ _)) bY⟩
  ·cases hr
 ·split at hr
  ·rename_i l hl
   split at hr
   ·rename_i s' bY
    injection hr with hr;subst hr
    obtain ⟨vs,dk,hlen,dW⟩:=mG hx hl
    rw [dk]
    have h1:=hs.fresh (w':={w with heap:=w.heap.push (.cells vs.toArray t (0,0))}) d ⟨sD P t,false,true,l.map (aF d)⟩ (iA bY) rfl rfl rfl (by simp) (cA w _) (df w _) (by simp) (by simp [hlen]) (by simp [hlen]) (fun j u x hu hx=>⟨fun h=>(by cases h),fun _=>by
     simp only [List.getElem?_map] at hx
     cases hj:l[j]? with
     | none=>rw [hj] at hx;cases hx
     | some y=>rw [hj] at hx;injection hx with hx;subst hx;exact ⟨y,rfl,dW j u y (by simpa using hu) hj⟩⟩)
    exact ⟨_,dU h1 (.addr d 0 _ _ _ (eM d _ _)) bY⟩
   ·cases hr
  ·cases hr
def PY:AV->List Nat
 | .ref i=>[i]
 | .pre i _=>[i]
 | .jE i _ _=>[i]
 | .addr i _=>[i]
 | _=>[]
def pd:AV->List Nat
 | .agg cs=>cs.flatMap PY
 | x=>PY x
def gf:AS->List Nat->Option AS
 | s,[]=>some s
 | s,i::l=>match look s.H i with
  | some r=>(match r.pure with|true=>gf (gR i r s) l|false=>none)
  | none=>gf s l
theorem gb {S0:bn} {w0 w:World} {a:Act}:∀(l:List Nat) (s s':AS) (φ:Nat->Option Nat),gf s l=some s'->aI S0 w0 n [] s a w φ-> ∃ b_,aI S0 w0 n [] s' a w b_
 | [],s,s',φ,h,hs=>by cases h;exact ⟨φ,hs⟩
 | i::l,s,s',φ,h,hs=>by
  simp only [gf] at h
  split at h
  ·rename_i r hr
   split at h
   ·rename_i hp
    exact gb l _ s' _ h (hs.Mn hr hp)
   ·cases h
  ·exact gb l s s' φ h hs
def iC:AV->Bool
 | .val u=>u.oneCell'
 | .nil=>true
 | .sl _ _=>true
 | .ptr _ _=>true
 | .mI _ _=>true
 | _=>false
def eh:List AV->Bool
 | []=>true
 | x::l=>match iC x with|true=>eh l|false=>false
theorem e_ {I:Info} {S:Nat->Prop} {w:World} {v:Value} {x:AV} (hd:Den I S w v x) (hp:iC x=true):cz S w v x∧v.oneCell'=true:=by
 cases hd with
 | rep h=>refine ⟨h,?_⟩;cases h<;>first|exact hp|rfl|cases hp
 | _=>cases hp
theorem iR:∀ {l:List AV} {j:Nat} {x:AV},eh l=true->l[j]?=some x->iC x=true
 | [],j,x,_,h=>by simp at h
 | y::l,j,x,hp,h=>by
  simp only [eh] at hp
  split at hp
  ·rename_i hy
   cases j with
   | zero=>simp at h;subst h;exact hy
   | succ j=>exact iR hp (by simpa using h)
  ·cases hp
def fA (s:AS) (z:Nat):Nat->List (Nat×Operand)->Option (List AV)
 | _,[]=>some []
 | i,(j,x)::l=>match Nat.beq i j,lP (bq s x),fA s z (i+1) l with
  | true,some c,some m=>(match Nat.beq c.length z with|true=>some (c++m)|false=>none)
  | _,_,_=>none
def wg (P:Program) (n:Nat) (s:AS) (d t len:Nat) (parts:List (Nat×Operand)) (h:Hint):Option (AS×List Prop) :=
 match P.underlying t with
 | some (.slice el)=>(match eH P el,(P.info? el).bind (·.zero),gf s (parts.flatMap fun p=>pd (bq s p.2)) with
  | some (z+1),some zero,some s1=>(match fA s1 (z+1) 0 parts,Nat.beq parts.length len,Nat.ble (len*(z+1)) 16777216 with
   | some cells,true,true=>(match Nat.beq zero.cells.size (z+1) with
    | true=>(match h.av with
     | some (.arr row)=>(match eh cells,fO n (install s1 d ⟨z+1,true,true,row⟩) (some d) (.ref d) with|true,some s'=>some (s',[cells=row])|_,_=>none)
     | _=>(match eh cells,fO n (install s1 d ⟨z+1,true,true,cells⟩) (some d) (.ref d) with|true,some s'=>some (s',[])|_,_=>none))
    | false=>none)
   | _,_,_=>none)
  | _,_,_=>none)
 | _=>none
theorem zb {S0:bn} {w0 w:World} {a:Act} {φ:Nat->Option Nat} (hs:aI S0 w0 n [] s a w φ) (z:Nat):∀(parts:List (Nat×Operand)) (i:Nat) (cells:List AV) (cur:Array Value),fA s z i parts=some cells->eh cells=true->i*z+parts.length*z=cur.size ->
  cells.length=parts.length*z∧ ∃us:Array Value,Instr.fill (fun i=>some (i*z,z)) cur (parts.map fun p=>(p.1,a.eval p.2))=some us∧us.size=cur.size∧(∀j,j<i*z->us[j]?=cur[j]?)∧ ∀(j:Nat) u x,us[i*z+j]?=some u->cells[j]?=some x->cz (aP S0 w φ []) w u x
 | [],i,cells,cur,hc,hp,dv=>by cases hc;exact ⟨by simp,cur,rfl,rfl,fun _ _=>rfl,fun j u x _ hx=>by simp at hx⟩
 | (j,x)::l,i,cells,cur,hc,hp,dv=>by
  simp only [fA] at hc
  split at hc
  ·rename_i c m NT LL hm
   split at hc
   ·rename_i LK
    cases hc
    have NT:=Nat.eq_of_beq_eq_true NT
    have LK:=Nat.eq_of_beq_eq_true LK
    subst NT
    obtain ⟨vs,hv,hlen,dW⟩:=mG (hs.bq x) LL
    have SN:eh m=true:=by
     have key:∀(c m:List AV),eh (c++m)=true->eh m=true:=by
      intro c
      induction c with
      | nil=>intro m h;exact h
      | cons y c ih =>
       intro m h
       simp only [List.cons_append,eh] at h
       split at h
       ·exact ih m h
       ·cases h
     exact key c m hp
    simp only [List.length_cons] at dv
    have IW:(l.length+1)*z=l.length*z+z:=by rw [Nat.add_mul,Nat.one_mul]
    have dI:(i+1)*z=i*z+z:=by rw [Nat.add_mul,Nat.one_mul]
    have Ji:((a.eval x).cells.zipIdx.foldl (fun cs (cj:Value×Nat)=>cs.setIfInBounds (i*z+cj.2) cj.1) cur)=(vs.zipIdx.foldl (fun cs (cj:Value×Nat)=>cs.setIfInBounds (i*z+cj.2) cj.1) cur):=by rw [hv];simp
    obtain ⟨Hj,us,BC,IZ,IY,NI⟩:=zb hs z l (i+1) m (vs.zipIdx.foldl (fun cs (cj:Value×Nat)=>cs.setIfInBounds (i*z+cj.2) cj.1) cur) hm SN (by rw [jz];omega)
    rw [jz] at IZ
    refine ⟨by rw [List.length_append,List.length_cons,Hj,LK];omega,us,?_,IZ,fun j hj=>?_,fun j u y hu hy=>?_⟩
    ·rw [List.map_cons]
     unfold Instr.fill
     simp only
     have P8:(a.eval x).cells.size=z:=by rw [hv];simp;omega
     rw [if_neg (by rw [P8];simp;omega),Ji]
     exact BC
    ·rw [IY j ag,kK,if_neg ag]
    ·by_cases hj:j<z
     ·rw [IY _ ag,kK,if_pos ag] at hu
      rw [List.getElem?_append_left ag] at hy
      have SD:vs[j]?=some u:=by rw [←hu];congr 1;omega
      exact (e_ (dW j u y SD hy) (iR (l:=c++m) (j:=j) hp (by rw [List.getElem?_append_left ag];exact hy))).1
     ·rw [List.getElem?_append_right ag] at hy
      refine NI (j-z) u y ?_ (by rw [←hy,LK])
      rw [←hu];congr 1;omega
   ·cases hc
  ·cases hc
theorem B_ {t d len:Nat} {parts:Array (Nat×Operand)} (ho:o.op= .buildSlice t len parts) (hd:o.dst=some d) (hr:wg P n s d t len parts.toList h=some q):mK P n s o q.1 q.2:=by
 intro hC S0 w0 a w Q ⟨R7,km⟩
 unfold wg at hr
 split at hr
 ·rename_i el hu
  split at hr
  ·rename_i z zero s1 hz hzero Qc
   obtain ⟨φ,hs⟩:=gb _ _ _ _ Qc km
   split at hr
   ·rename_i cells dk hlen vO
    split at hr
    ·rename_i tE
     have tE:=Nat.eq_of_beq_eq_true tE
     have hlen:=Nat.eq_of_beq_eq_true hlen
     have vO:len*(z+1)≤16777216:=Nat.le_of_ble_eq_true vO
     have bT:eh cells=true-> ∃us:Array Value,(execOp a.eval o).run P w= .ok (.value (.slice (some ⟨w.heap.size,0,none⟩) len len)) {w with heap:=w.heap.push (.cells us el (0,0))}∧us.size=cells.length∧cells.length=(z+1)*len∧ ∀(j:Nat) u x,us[j]?=some u->cells[j]?=some x->cz (aP S0 w φ []) w u x:=by
      intro hp
      obtain ⟨h1,us,h2,h3,-,h4⟩:=zb hs (z+1) parts.toList 0 cells ((Array.range (len*(z+1))).map (zero.cells[· %zero.cells.size]!)) dk hp (by simp [←hlen])
      refine ⟨us,?_,by rw [h3,h1,hlen];simp,by rw [h1,hlen,Nat.mul_comm],fun j u x hu hx=>h4 j u x (by simpa using hu) hx⟩
      have zi:(sizeOf el).run P w= .ok (z+1) w:=run_sizeOf hz
      have nw:(parts.map fun p=>(p.1,a.eval p.2)).toList=parts.toList.map fun p=>(p.1,a.eval p.2):=by simp
      unfold execOp
      simp only [ho,Instr.buildSlice,Sem.run_bind,run_underlying hu,Result.andThen_ok,zi,Sem.run_ite]
      rw [if_neg ag]
      by_cases h0:len*(z+1)=0
      ·rw [if_pos h0]
       simp only [Sem.run_pure,Result.andThen_ok]
       have:(Array.range (len*(z+1))).map (fun x=>(#[]:Array Value)[x%(#[]:Array Value).size]!)=(Array.range (len*(z+1))).map (fun x=>zero.cells[x%zero.cells.size]!):=by rw [h0,iE,iE]
       rw [this,nw,h2]
       rfl
      ·rw [if_neg h0]
       simp only [il hzero,Result.andThen_ok,Sem.run_pure]
       rw [nw,h2]
       rfl
     have hm:len≤maxLen:=by
      have:len≤len*(z+1):=Nat.le_mul_of_pos_right _ ag
      unfold maxLen;omega
     split at hr
     ·rename_i row _
      split at hr
      ·rename_i s' hp bY
       injection hr with hr;subst hr
       obtain ⟨us,bT,h1,h2,h3⟩:=bT hp
       have e:=hC.1
       subst e
       refine cN bT ?_
       rw [hd]
       have hf:=hs.fresh (w':={w with heap:=w.heap.push (.cells us el (0,0))}) d ⟨z+1,true,true,cells⟩ (iA bY) rfl rfl rfl (by simp) (cA w _) (df w _) (by simp) (by simp [h1]) (by simp [h1]) (fun j u x hu hx=>⟨fun _=>h3 j u x hu hx,fun h=>by cases h⟩)
       exact ⟨_,dU hf (.ref d _ _ _ len len (eM d _ _) h2 (Nat.le_refl _) hm (by unfold aW;rw [df];show us.size=_;rw [h1,h2])) bY⟩
      ·cases hr
     ·split at hr
      ·rename_i s' hp bY
       injection hr with hr;subst hr
       obtain ⟨us,bT,h1,h2,h3⟩:=bT hp
       refine cN bT ?_
       rw [hd]
       have hf:=hs.fresh (w':={w with heap:=w.heap.push (.cells us el (0,0))}) d ⟨z+1,true,true,cells⟩ (iA bY) rfl rfl rfl (by simp) (cA w _) (df w _) (by simp) (by simp [h1]) (by simp [h1]) (fun j u x hu hx=>⟨fun _=>h3 j u x hu hx,fun h=>by cases h⟩)
       exact ⟨_,dU hf (.ref d _ _ _ len len (eM d _ _) h2 (Nat.le_refl _) hm (by unfold aW;rw [df];show us.size=_;rw [h1,h2])) bY⟩
      ·cases hr
    ·cases hr
   ·cases hr
  ·cases hr
 ·cases hr
def uw (zs:List AV) (k:Nat):List AV:=match zs with| [x]=>List.replicate k x|zs=>(List.replicate k zs).flatten
theorem Fo (zs:List AV) (e:Nat) (he:zs.length=e) (h0:0<e):∀(k j:Nat) (x:AV),((List.replicate k zs).flatten)[j]?=some x->zs[j%e]?=some x
 | 0,j,x,h=>by simp at h
 | k+1,j,x,h=>by
  rw [List.replicate_succ,List.flatten_cons] at h
  by_cases hj:j<e
  ·rw [List.getElem?_append_left ag] at h
   rw [Nat.mod_eq_of_lt hj];exact h
  ·rw [List.getElem?_append_right ag] at h
   have:=Fo zs e he h0 k _ x h
   rw [he] at this
   rw [show j%e=(j-e)%e from ?_]
   ·exact this
   ·rw [Nat.mod_eq_sub_mod ag]
theorem yf (zs:List AV) (e:Nat) (he:zs.length=e) (h0:0<e) (k j:Nat) (x:AV) (h:(uw zs k)[j]?=some x):zs[j%e]?=some x:=by
 unfold uw at h
 split at h
 ·simp at he
  subst he
  rw [List.getElem?_replicate] at h
  split at h
  ·injection h with h;subst h;simp [Nat.mod_one]
  ·cases h
 ·exact Fo zs e he h0 k j x h
theorem uv (zs:List AV) (e:Nat) (he:zs.length=e) (k:Nat):(uw zs k).length=e*k:=by
 unfold uw
 split
 ·simp at he;subst he;simp
 ·rw [List.length_flatten];simp [he,Nat.mul_comm]
def DC (P:Program) (n:Nat) (s:AS) (d t:Nat) (L C:Int) (h:Hint):Option (AS×List Prop) :=
 match P.underlying t with
 | some (.slice el)=>(match P.info? el with
  | some i=>(match i.zero,i.size with
   | some zero,z+1=>(match Nat.beq zero.cells.size (z+1) with
    | true=>(match fO n (install s d ⟨z+1,true,false,(named h (uw (zero.cells.toList.map bC) h.k)).1⟩) (some d) (.ref d) with
     | some s'=>some (s',(named h (uw (zero.cells.toList.map bC) h.k)).2++ [L=(h.k:Int),C=(h.m:Int),h.k≤h.m,i.bytes*h.m≤281474976710656,h.m≤maxLen])|none=>none)
    | false=>none)
   | _,_=>none)
  | none=>none)
 | _=>none
theorem run_make {P:Program} {o:Oper} {ev:Operand->Value} {t:Nat} {l c:Operand} {kl kc:IntKind} {L C:Int} {el:TypeId} {i:TypeInfo} {zero:Value} {z k m:Nat} (ho:o.op= .makeSlice t l c) (MQ:ev l= .int kl L) (ec:ev c= .int kc C) (hu:P.underlying t=some (.slice el)) (hi:P.info? el=some i) (hz:i.zero=some zero) (dv:i.size=z+1) (hb:zero.cells.size=z+1)
  (h1:L=(k:Int)) (h2:C=(m:Int)) (h3:k≤m) (h4:i.bytes*m≤281474976710656) (h5:m≤maxLen) (w:World) :
  ∃cur:Array Value,(execOp ev o).run P w= .ok (.value (.slice (some ⟨w.heap.size,0,none⟩) k m)) {w with heap:=w.heap.push (.cells cur el (0,0))}∧cur.size=(z+1)*m∧ ∀(j:Nat) u,cur[j]?=some u->zero.cells[j%(z+1)]?=some u:=by
 have XB:m≤9223372036854775807:=by have:=h5;unfold maxLen at this;omega
 have wl:IntKind.i64.wrap L=(k:Int):=by rw [h1,IntKind.wrap_i64];omega
 have wc:IntKind.i64.wrap C=(m:Int):=by rw [h2,IntKind.wrap_i64];omega
 have Wv:((i.bytes:Int)*(m:Int))≤281474976710656:=by
  have Po:((i.bytes*m:Nat):Int)≤281474976710656:=ag
  rw [Int.natCast_mul] at Po;exact Po
 have Vx:(zeroValue el).run P w= .ok zero w:=il (by rw [hi];exact hz)
 have UG:(sizeOf el).run P w= .ok (z+1) w:=by simp [sizeOf,typeInfo,hi,dv]
 have UD:(typeInfo el).run P w= .ok i w:=by simp [typeInfo,hi]
 have t1:¬((m:Int)<0):=ag
 have t2:¬(281474976710656<(i.bytes:Int)*(m:Int)):=ag
 have t3:¬((k:Int)<0):=ag
 have t4:¬((m:Int)<(k:Int)):=ag
 by_cases h0:m*(z+1)=0
 ·refine ⟨#[],?_,by rw [Nat.mul_comm];simp [h0],fun j u hu=>by simp at hu⟩
  unfold execOp
  simp [ho,MQ,ec,Instr.makeSlice,run_underlying hu,UD,UG,asInt,asIntOf,wl,wc,t1,t2,t3,t4,newRow]
  have:m=0:=by
   rcases Nat.eq_zero_or_pos m with h6|h6
   ·exact h6
   ·have:=Nat.mul_pos h6 (ag:0<z+1);omega
  simp [this,iE]
 ·refine ⟨(Array.range (m*(z+1))).map (zero.cells[· %zero.cells.size]!),?_,by simp [Nat.mul_comm],fun j u hu=>?_⟩
  ·unfold execOp
   simp [ho,MQ,ec,Instr.makeSlice,run_underlying hu,UD,UG,asInt,asIntOf,wl,wc,t1,t2,t3,t4,newRow,Vx]
   exact fun e=>absurd e h0
  ·simp only [Array.getElem?_map] at hu
   cases hj:(Array.range (m*(z+1)))[j]? with
   | none=>rw [hj] at hu;cases hu
   | some k =>
    have hk:k=j:=by
     have:=Array.getElem?_eq_some_iff.1 hj
     obtain ⟨cW,he⟩:=this
     rw [←he];simp
    subst hk
    rw [hj] at hu
    injection hu with hu
    rw [hb] at hu
    have cW:k%(z+1)<zero.cells.size:=by rw [hb];exact Nat.mod_lt _ ag
    simp [getElem!_pos,cW] at hu
    simp [cW,hu]
theorem GI {t d:Nat} {l c:Operand} {kl kc:IntKind} {L C:Int} (ho:o.op= .makeSlice t l c) (hl:bq s l= .val (.int kl L)) (hc:bq s c= .val (.int kc C)) (hd:o.dst=some d) (hr:DC P n s d t L C h=some q):mK P n s o q.1 q.2:=by
 intro hC S0 w0 a w Q ⟨φ,hs⟩
 have MQ:a.eval l= .int kl L:=bF (hl ▸ hs.bq l)
 have ec:a.eval c= .int kc C:=bF (hc ▸ hs.bq c)
 unfold DC at hr
 split at hr
 ·rename_i el hu
  split at hr
  ·rename_i i hi
   split at hr
   ·rename_i zero z hz dv
    split at hr
    ·rename_i hb
     have hb:=Nat.eq_of_beq_eq_true hb
     split at hr
     ·rename_i s' bY
      injection hr with hr;subst hr
      obtain ⟨Lv,hC⟩:=ir hC
      rw [Lv] at bY
      obtain ⟨h1,h2,h3,h4,h5,-⟩:=hC
      have bT:=run_make ho MQ ec hu hi hz dv hb h1 h2 h3 h4 h5 w
      obtain ⟨cur,bT,uf,bw⟩:=bT
      refine cN bT ?_
      rw [hd]
      have He:(zero.cells.toList.map bC).length=z+1:=by simp [hb]
      have Hi:=uv (zero.cells.toList.map bC) (z+1) He h.k
      have hle:(z+1)*h.k≤(z+1)*h.m:=Nat.mul_le_mul_left _ h3
      have hf:=hs.fresh (w':={w with heap:=w.heap.push (.cells cur el (0,0))}) d ⟨z+1,true,false,uw (zero.cells.toList.map bC) h.k⟩ (iA bY) rfl rfl rfl (by simp) (cA w _) (df w _) (by simp) (by simp only [Hi,uf];exact hle) (fun h=>by cases h) (fun j u x hu hx=>⟨fun _=>by
       have h6:=yf _ (z+1) He ag _ _ _ hx
       have h7:=bw j u hu
       rw [List.getElem?_map] at h6
       have h8:zero.cells.toList[j%(z+1)]?=some u:=by simpa using h7
       rw [h8] at h6;injection h6 with h6;subst h6;exact gh u,fun h=>by cases h⟩)
      exact ⟨_,dU hf (.ref d _ _ _ h.k h.m (eM d _ _) Hi h3 h5 (by unfold aW;rw [df];exact uf)) bY⟩
     ·cases hr
    ·cases hr
   ·cases hr
  ·cases hr
 ·cases hr
def z_ (P:Program) (n:Nat) (s:AS) (d src dst:Nat) (b:ByteArray):Option (AS×List Prop) :=
 match P.underlying src,P.underlying dst with
 | some .string,some (.slice el)=>(match P.underlying el with
  | some (.int .u8)=>(match fO n (install s d ⟨1,true,false,aj b.data.toList⟩) (some d) (.ref d) with|some s'=>some (s',[b.size≤maxLen])|none=>none)
  | _=>none)
 | _,_=>none
theorem DR {src dst d:Nat} {x:Operand} {b:ByteArray} (ho:o.op= .convert src dst x) (hx:bq s x= .val (.string b)) (hd:o.dst=some d) (hr:z_ P n s d src dst b=some q):mK P n s o q.1 q.2:=by
 intro hC S0 w0 a w Q ⟨φ,hs⟩
 have ex:a.eval x= .string b:=bF (hx ▸ hs.bq x)
 unfold z_ at hr
 split at hr
 ·rename_i el h1 h2
  split at hr
  ·rename_i h3
   split at hr
   ·rename_i s' bY
    injection hr with hr;subst hr
    have dv:=hC.1
    have BF:=xe.of_string w b el dv
    have bT:(execOp a.eval o).run P w= .ok (.value (.slice (some ⟨w.heap.size,0,none⟩) b.size (grownCap w b.size 0 el))) (w.drew.alloc (.cells (bytesRow b (grownCap w b.size 0 el)) el ((bytesRow b (grownCap w b.size 0 el)).size,(bytesRow b (grownCap w b.size 0 el)).size+1))):=by
     unfold execOp
     simp [ho,ex,run_bytes_of_string w src dst el b h1 h2 h3]
    refine cN bT ?_
    rw [hd]
    have vI:=grownCap_ge w b.size 0 el
    have ug:grownCap w b.size 0 el≤maxLen:=grownCap_le_maxLen w _ 0 el dv
    have QS:(bytesRow b (grownCap w b.size 0 el)).size=grownCap w b.size 0 el:=by
     unfold bytesRow;simp only [Array.size_append,Array.size_map,Array.size_replicate]
     show b.size+_=_
     omega
    have qc:(aj b.data.toList).length=b.size:=by rw [aB];rfl
    have mw:(w.drew.alloc (.cells (bytesRow b (grownCap w b.size 0 el)) el ((bytesRow b (grownCap w b.size 0 el)).size,(bytesRow b (grownCap w b.size 0 el)).size+1))).heap[w.heap.size]?=some (.cells (bytesRow b (grownCap w b.size 0 el)) el ((bytesRow b (grownCap w b.size 0 el)).size,(bytesRow b (grownCap w b.size 0 el)).size+1)):=heap_alloc_new w.drew _
    have hf:=hs.fresh (w':=w.drew.alloc (.cells (bytesRow b (grownCap w b.size 0 el)) el ((bytesRow b (grownCap w b.size 0 el)).size,(bytesRow b (grownCap w b.size 0 el)).size+1))) d ⟨1,true,false,aj b.data.toList⟩ (iA bY) rfl rfl rfl (by simp) (fun k hk=>Below.heap_alloc w.drew _ k hk) mw (fun j hj=>by simp only;omega) (by simp only [qc,QS];exact vI) (fun h=>by cases h) (fun j u x hu hx=>⟨fun _=>by
     have hj:j<b.size:=by have:=(List.getElem?_eq_some_iff.1 hx).1;rw [qc] at this;exact this
     have XG:j<b.data.toList.length:=hj
     have Cv:j<b.data.size:=hj
     have e1:(bytesRow b (grownCap w b.size 0 el))[j]?=some (.int .u8 (b.data.toList[j].toNat)):=by
      unfold bytesRow
      rw [Array.getElem?_append_left (by simpa using hj)]
      simp
      exact ⟨_,Array.getElem?_eq_getElem Cv,rfl⟩
     rw [e1] at hu;injection hu with hu;subst hu
     have e2:(aj b.data.toList)[j]?=some (.val (.int .u8 (bv b.data.toList[j]))):=by
      simp [aj]
      exact ⟨_,Array.getElem?_eq_getElem Cv,rfl⟩
     rw [e2] at hx;injection hx with hx;subst hx
     exact .val _,fun h=>by cases h⟩)
    exact ⟨_,dU hf (.ref d 1 _ _ b.size (grownCap w b.size 0 el) (eM d _ _) (by rw [Nat.one_mul];exact qc) vI ug (by unfold aW;rw [mw];simp only [QS,Nat.one_mul])) bY⟩
   ·cases hr
  ·cases hr
 ·cases hr
end
section
variable {S0:bn} {w0 w w':World} {n:Nat} {s:AS} {a:Act} {φ:Nat->Option Nat}
theorem aI.stored (h:aI S0 w0 n [] s a w φ) {id:Nat} {r r':Row} {g:Nat} (hr:look s.H id=some r) (bW:φ id=some g) (he:r'.e=r.e) (hlen:r'.cells.length=r.cells.length) (Jh:r'.full=r.full)
  {cur cur':Array Value} {te:TypeId} {fr:Nat×Nat} (hg:w.heap[g]?=some (.cells cur te fr)) (jq:w'.heap[g]?=some (.cells cur' te fr)) (dv:cur'.size=cur.size)
  (I7:w'.os=w.os) (vB:w'.tape=w.tape) (vC:w'.output=w.output) (Sx:w'.heap.size=w.heap.size) (hb:∀b,b≠g->w'.heap[b]?=w.heap[b]?)
  (hc:∀(j:Nat) u x,cur'[j]?=some u->r'.cells[j]?=some x->bh (az s.H φ) (aP S0 w φ []) w r'.pure u x):aI S0 w0 n [] ⟨s.F,(id,r')::cR s.H id⟩ a w' φ:=by
 have hI:∀i x,az s.H φ i=some x->az ((id,r')::cR s.H id) φ i=some x:=by
  intro i x hi
  obtain ⟨e,m,b⟩:=x
  obtain ⟨q,hl,h1,h2,h3⟩:=aS hi
  by_cases cS:id=i
  ·subst cS
   rw [hr] at hl;injection hl with hl;subst hl
   rw [bt (r:=r') (by rw [aD,if_pos rfl]),he,hlen,h1,h2,h3]
  ·rw [bt (r:=q) (by rw [aD,if_neg cS,bH,if_neg cS,hl]),h1,h2,h3]
 have hF:∀b,aP S0 w φ [] b->aP S0 w' φ [] b∧w'.heap[b]?=w.heap[b]?:=fun b ld=>⟨⟨by rw [Sx];exact ld.1,ld.2⟩,hb b fun e=>ld.2.2.1 id (by rw [bW,e])⟩
 have hL:∀i e m g',az s.H φ i=some (e,m,some g')->aW w' g'=aW w g':=by
  intro i e m g' _
  unfold aW
  by_cases e:g'=g
  ·subst e;rw [hg,jq];exact dv
  ·rw [hb g' e]
 have aQ:=h.rows id r hr
 unfold bJ at aQ
 rw [bW] at aQ
 obtain ⟨W7,Xs,XS,BL,gu,hle,nr,-⟩:=aQ
 rw [hg] at BL
 injection BL with BL
 injection BL with e1 e2 e3
 subst e1;subst e2;subst e3
 refine ⟨h.j8,h.ke,⟨I7.trans h.da.os,vB.trans h.da.tape,vC.trans h.da.output,by rw [Sx];exact h.da.size,fun k hk hx=>?_,h.da.g0,h.da.gx⟩,fun i av hi=>(h.cC i av hi).mono hI hF hL,fun i q hq=>?_,fun i hi=>?_,h.inj,fun i g' jq=>by rw [Sx];exact h.cY i g' jq,h.apart,h.new⟩
 ·rw [hb k (fun e=>by rcases (h.cY id g bW).1.2 with h|h;omega;rw [e] at hx;exact hx h)]
  exact h.da.block k hk hx
 ·rw [aD] at hq
  by_cases cS:id=i
  ·rw [if_pos cS] at hq;injection hq with hq;subst hq;subst cS
   rw [bW]
   refine ⟨cur',te,fr,jq,fun j hj=>gu j ag,by rw [hlen,dv];exact hle,fun hf=>by rw [hlen,dv];exact nr (by rw [←Jh];exact hf),fun j u x hu hx=>?_⟩
   have:=hc j u x hu hx
   unfold bh at this ⊢
   cases hp:r'.pure with
   | true=>rw [hp] at this;exact this.mono hF
   | false=>rw [hp] at this;exact this.mono hI hF hL
  ·rw [if_neg cS,bH,if_neg cS] at hq
   have gY:=h.rows i q hq
   unfold bJ at gY ⊢
   cases Dc:φ i with
   | none=>rw [Dc] at gY;exact gY
   | some g2 =>
    rw [Dc] at gY
    obtain ⟨oy,Nf,W0,QG,Hm,Dj,Tm,Pk⟩:=gY
    have Lw:g2≠g:=fun e=>cS (h.inj id i g bW (by rw [Dc,e]))
    refine ⟨oy,Nf,W0,(hb g2 Lw).trans QG,Hm,Dj,Tm,fun j u x hu hx=>?_⟩
    have:=Pk j u x hu hx
    unfold bh at this ⊢
    cases hp:q.pure with
    | true=>rw [hp] at this;exact this.mono hF
    | false=>rw [hp] at this;exact this.mono hI hF hL
 ·rw [aD] at hi
  by_cases cS:id=i
  ·rw [if_pos cS] at hi;cases hi
  ·rw [if_neg cS,bH,if_neg cS] at hi
   exact h.only i hi
end
def Ef:AV->Bool
 | .val u=>u.oneCell'
 | .nil=>true
 | .sl _ _=>true
 | .ptr _ _=>true
 | .ref _=>true
 | .pre _ _=>true
 | .jE _ _ _=>true
 | .addr _ _=>true
 | _=>false
def rb:List AV->Bool
 | []=>true
 | x::l=>match Ef x with|true=>rb l|false=>false
theorem Ee {I:Info} {S:Nat->Prop} {w:World} {v:Value} {x:AV} (hd:Den I S w v x) (hp:Ef x=true):v.oneCell'=true:=by
 cases hd with
 | rep h=>cases h<;>first|exact hp|rfl|cases hp
 | agg=>cases hp
 | cw=>cases hp
 | dead=>cases hp
 | _=>rfl
theorem wF:∀ {l:List AV} {j:Nat} {x:AV},rb l=true->l[j]?=some x->Ef x=true
 | [],j,x,_,h=>by simp at h
 | y::l,j,x,hp,h=>by
  simp only [rb] at hp
  split at hp
  ·rename_i hy
   cases j with
   | zero=>simp at h;subst h;exact hy
   | succ j=>exact wF hp (by simpa using h)
  ·cases hp
def setCells (cells:List AV) (off:Nat) (l:List AV):List AV:=match l with| [x]=>cells.set off x|l=>cells.take off++l++cells.drop (off+l.length)
theorem nR (cells:List AV) (off:Nat) (l:List AV) (h:off+l.length≤cells.length):setCells cells off l=cells.take off++l++cells.drop (off+l.length):=by
 unfold setCells
 split
 ·rename_i x
  simp only [List.length_cons,List.length_nil] at h ⊢
  rw [List.set_eq_take_append_cons_drop,if_pos ag]
  simp
 ·rfl
theorem xr {α:Type} (l m:List α) (off j:Nat) (h:off+m.length≤l.length):(l.take off++m++l.drop (off+m.length))[j]?=if off≤j∧j<off+m.length then m[j-off]? else l[j]?:=by
 by_cases h1:j<off
 ·rw [List.getElem?_append_left (by simp only [List.length_append,List.length_take];omega),List.getElem?_append_left (by simp only [List.length_take];omega),List.getElem?_take,if_pos h1,if_neg ag]
 ·by_cases h2:j<off+m.length
  ·rw [List.getElem?_append_left (by simp only [List.length_append,List.length_take];omega),List.getElem?_append_right (by simp only [List.length_take];omega),if_pos ag]
   congr 1;simp only [List.length_take];omega
  ·rw [List.getElem?_append_right (by simp only [List.length_append,List.length_take];omega),List.getElem?_drop,if_neg ag]
   congr 1;simp only [List.length_append,List.length_take];omega
theorem pF {α:Type} (l m:List α) (off:Nat) (h:off+m.length≤l.length):(l.take off++m++l.drop (off+m.length)).length=l.length:=by
 simp only [List.length_append,List.length_take,List.length_drop];omega
def FT (s:AS) (id:Nat) (r:Row):AS:=⟨s.F,(id,r)::cR s.H id⟩
def v_ (P:Program) (s:AS) (t:TypeId) (x:Operand) (cs:List AV) (h:Hint):Option (AS×List Prop) :=
 match bq s x with
 | .addr id off=>(match look s.H id,eH P t with
  | some r,some z=>(match r.pure with
   | true=>some (FT s id ⟨r.e,true,r.full,(named h (r.cells.take off++cs++r.cells.drop (off+cs.length))).1⟩,(named h (r.cells.take off++cs++r.cells.drop (off+cs.length))).2++ [cs.length=z,∀x∈cs,iC x=true,off+cs.length≤r.cells.length])
   | false=>none)
  | _,_=>none)
 | _=>none
def lh (P:Program) (s:AS) (t:TypeId) (x:Operand) (y:Operand) (h:Hint):Option (AS×List Prop) :=
 match bq s x with
 | .addr id off=>(match look s.H id,eH P t with
  | some r,some z=>(match r.pure with
   | true=>(match gf s (pd (bq s y)) with
    | some s1=>(match look s1.H id,lP (bq s1 y),bq s1 x with
     | some r1,some l,.addr pe C5=>(match Nat.beq id pe,Nat.beq l.length z,eh l,r1.pure with
      | true,true,true,true=>some (FT s1 id ⟨r1.e,true,r1.full,(named h (setCells r1.cells C5 l)).1⟩,(named h (setCells r1.cells C5 l)).2++ [C5+l.length≤r1.cells.length])
      | _,_,_,_=>none)
     | _,_,_=>none)
    | none=>none)
   | false=>(match lP (bq s y) with
    | some l=>(match Nat.beq l.length z,rb l with
     | true,true=>some (FT s id ⟨r.e,false,r.full,(named h (setCells r.cells off l)).1⟩,(named h (setCells r.cells off l)).2++ [off+l.length≤r.cells.length])
     | _,_=>none)
    | none=>none))
  | _,_=>none)
 | _=>none
def zy (P:Program) (s:AS) (t:TypeId) (x:Operand) (y:Operand) (h:Hint):Option (AS×List Prop) :=
 match bq s y,h.k with
 | .arr cs,1=>v_ P s t x cs h
 | _,_=>lh P s t x y h
section
variable {P:Program} {n:Nat} {s:AS} {o:Oper} {h:Hint} {q:AS×List Prop}
theorem tz {w:World} {t:TypeId} {g off z:Nat} {v:Value} {vs:List Value} {cur:Array Value} {te:TypeId} {fr:Nat×Nat} (hz:eH P t=some z) (hv:v.cells=vs.toArray) (hl:vs.length=z) (hg:w.heap[g]?=some (.cells cur te fr)) (hf:∀j,j<cur.size-> ¬(fr.1≤j∧j<fr.2)) (l4:off+vs.length≤cur.size) (h1:∀u∈vs,u.oneCell'=true) :
  (storeVar t ⟨g,off,none⟩ v).run P w= .ok () (w.setRow g (cur.toList.take off++vs++cur.toList.drop (off+vs.length)).toArray):=by
 have dJ:=cE P g te fr cur.size hf off vs 0 cur w hg ag rfl h1
 simp only [Nat.add_zero] at dJ
 unfold storeVar
 have zi:(sizeOf t).run P w= .ok z w:=run_sizeOf hz
 simp only [Sem.run_bind,zi,Result.andThen_ok,Sem.run_ite,hv]
 rw [if_neg (by simp [hl])]
 simp [dJ]
theorem qk {w:World} {g:Nat} {cur cur':Array Value} {te:TypeId} {fr:Nat×Nat} (hg:w.heap[g]?=some (.cells cur te fr)):(w.setRow g cur').heap[g]?=some (.cells cur' te fr)∧(w.setRow g cur').heap.size=w.heap.size∧ ∀b,b≠g->(w.setRow g cur').heap[b]?=w.heap[b]? :=
 ⟨setRow_heap w g cur cur' te fr hg,by simp,fun b hb=>setRow_other w g b _ hb⟩
theorem aI.written {S0:bn} {w0 w:World} {a:Act} {φ:Nat->Option Nat} (hs:aI S0 w0 n [] s a w φ) {id off g:Nat} {r:Row} {l cells:List AV} {vs:List Value} {cur:Array Value} {te:TypeId} {fr:Nat×Nat} (hr:look s.H id=some r) (bW:φ id=some g) (hg:w.heap[g]?=some (.cells cur te fr)) (hle:r.cells.length≤cur.size)
  (hold:∀(j:Nat) u x,cur[j]?=some u->r.cells[j]?=some x->bh (az s.H φ) (aP S0 w φ []) w r.pure u x) (hlen:vs.length=l.length) (l4:off+l.length≤r.cells.length) (dk:cells=setCells r.cells off l)
  (mw:∀(j:Nat) u x,vs[j]?=some u->l[j]?=some x->bh (az s.H φ) (aP S0 w φ []) w r.pure u x) :
  aI S0 w0 n [] (FT s id ⟨r.e,r.pure,r.full,cells⟩) a (w.setRow g (cur.toList.take off++vs++cur.toList.drop (off+vs.length)).toArray) φ:=by
 obtain ⟨f1,f2,f3⟩:=qk (cur':=(cur.toList.take off++vs++cur.toList.drop (off+vs.length)).toArray) hg
 have fi:cur.toList.length=cur.size:=rfl
 rw [nR _ _ _ l4] at dk
 refine hs.stored (r':=⟨r.e,r.pure,r.full,cells⟩) hr bW rfl (by rw [dk,pF _ _ _ l4]) rfl hg f1 (by simp only [List.size_toArray];rw [pF _ _ _ ag];rfl) rfl rfl rfl f2 f3 fun j u x hu hx=>?_
 simp only [List.getElem?_toArray] at hu
 rw [xr _ _ _ _ ag] at hu
 simp only [dk] at hx
 rw [xr _ _ _ _ l4] at hx
 by_cases hj:off≤j∧j<off+l.length
 ·rw [if_pos hj] at hx
  rw [if_pos ag] at hu
  exact mw _ u x hu hx
 ·rw [if_neg hj] at hx
  rw [if_neg ag] at hu
  exact hold j u x (by simpa using hu) hx
theorem CO {S0:bn} {w0 w:World} {a:Act} {φ:Nat->Option Nat} (hs:aI S0 w0 n [] s a w φ) {id g:Nat} {r:Row} (hr:look s.H id=some r) (bW:φ id=some g):∃cur te fr,w.heap[g]?=some (.cells cur te fr)∧(∀j,j<cur.size-> ¬(fr.1≤j∧j<fr.2))∧r.cells.length≤cur.size∧ ∀(j:Nat) u x,cur[j]?=some u->r.cells[j]?=some x->bh (az s.H φ) (aP S0 w φ []) w r.pure u x:=by
 have aQ:=hs.rows id r hr
 unfold bJ at aQ
 rw [bW] at aQ
 obtain ⟨cur,te,fr,hg,hf,hl,-,hc⟩:=aQ
 exact ⟨cur,te,fr,hg,hf,hl,hc⟩
theorem uJ {S0:bn} {w0 w:World} {a:Act} {φ:Nat->Option Nat} {Q:Exit->Act->World->Prop} (hs:aI S0 w0 n [] s a w φ) {t:TypeId} {x y:Operand} (ho:o.op= .store t x y) (hd:o.dst=none) {id off z:Nat} {r:Row} {l cells:List AV} (hx:bq s x= .addr id off) (hr:look s.H id=some r) (hz:eH P t=some z) (hl:lP (bq s y)=some l) (XC:l.length=z) (l4:off+l.length≤r.cells.length) (dk:cells=setCells r.cells off l)
  (hp:(r.pure=true∧ ∀x∈l,iC x=true)∨(r.pure=false∧rb l=true)):o.wp P a w (fun a' w'=>ie S0 w0 n (FT s id ⟨r.e,r.pure,r.full,cells⟩) a' w') Q:=by
 have Uz:=hs.bq x
 rw [hx] at Uz
 obtain ⟨e,m,g,hi,hv⟩:=j6 Uz
 obtain ⟨r',iH,-,-,bW⟩:=aS hi
 obtain ⟨cur,te,fr,hg,hf,hle,hold⟩:=CO hs hr bW
 obtain ⟨vs,VH,l0,dW⟩:=mG (hs.bq y) hl
 have og:∀u∈vs,u.oneCell'=true:=by
  intro u hu
  obtain ⟨j,hj⟩:=List.getElem?_of_mem hu
  have NR:j<l.length:=by have:=(List.getElem?_eq_some_iff.1 hj).1;omega
  have S8:l[j]?=some l[j]:=List.getElem?_eq_getElem NR
  rcases hp with ⟨-,hp⟩|⟨-,hp⟩
  ·exact (e_ (dW j u _ hj S8) (hp _ (List.getElem_mem NR))).2
  ·exact Ee (dW j u _ hj S8) (wF hp S8)
 have bT:=tz (P:=P) (w:=w) (t:=t) (g:=g) (off:=off) hz VH ag hg hf ag og
 unfold Oper.wp
 have:(execOp a.eval o).run P w= .ok .skip (w.setRow g (cur.toList.take off++vs++cur.toList.drop (off+vs.length)).toArray):=by
  unfold execOp
  simp [ho,Instr.storeAt,Instr.sureAddr,hv,bT]
 rw [this]
 show ie S0 w0 n _ (a.put o.dst undef) _
 rw [hd]
 refine ⟨φ,hs.written hr bW hg hle hold l0 l4 dk fun j u x hu hx=>?_⟩
 unfold bh
 rcases hp with ⟨MD,hp⟩|⟨MD,hp⟩<;>rw [MD]
 ·exact (e_ (dW j u x hu hx) (hp x (List.mem_of_getElem? hx))).1
 ·exact dW j u x hu hx
theorem B6 {t:TypeId} {x y:Operand} {cs:List AV} (ho:o.op= .store t x y) (hd:o.dst=none) (hy:bq s y= .arr cs) (hr:v_ P s t x cs h=some q):mK P n s o q.1 q.2:=by
 intro hC S0 w0 a w Q ⟨φ,hs⟩
 unfold v_ at hr
 split at hr
 ·rename_i id off hx
  split at hr
  ·rename_i r z aQ hz
   split at hr
   ·rename_i qL
    injection hr with hr;subst hr
    obtain ⟨hn,hlen,hp,l4,-⟩:=ir hC
    have:=uJ (Q:=Q) hs ho hd hx aQ hz (l:=cs) (by rw [hy];rfl) hlen l4 (hn.trans (nR _ _ _ l4).symm) (.inl ⟨qL,hp⟩)
    rw [qL] at this
    exact this
   ·cases hr
  ·cases hr
 ·cases hr
theorem tj {t:TypeId} {x y:Operand} (ho:o.op= .store t x y) (hd:o.dst=none) (hr:lh P s t x y h=some q):mK P n s o q.1 q.2:=by
 intro hC S0 w0 a w Q ⟨R7,km⟩
 unfold lh at hr
 split at hr
 ·rename_i id off hx
  split at hr
  ·rename_i r z aQ hz
   split at hr
   ·rename_i qL
    split at hr
    ·rename_i s1 I1
     obtain ⟨φ,hs⟩:=gb _ _ _ _ I1 km
     split at hr
     ·rename_i r1 l pe C5 Ql hl Sw
      split at hr
      ·rename_i h1 h2 h3 h4
       injection hr with hr;subst hr
       have h1:=Nat.eq_of_beq_eq_true h1
       have h2:=Nat.eq_of_beq_eq_true h2
       subst h1
       obtain ⟨hn,l4,-⟩:=ir hC
       have:=uJ (Q:=Q) hs ho hd Sw Ql hz hl h2 l4 hn (.inl ⟨h4,fun x hx=>by obtain ⟨j,hj⟩:=List.getElem?_of_mem hx;exact iR h3 hj⟩)
       rw [h4] at this
       exact this
      ·cases hr
     ·cases hr
    ·cases hr
   ·rename_i qL
    split at hr
    ·rename_i l hl
     split at hr
     ·rename_i h2 h3
      injection hr with hr;subst hr
      have h2:=Nat.eq_of_beq_eq_true h2
      obtain ⟨hn,l4,-⟩:=ir hC
      have:=uJ (Q:=Q) km ho hd hx aQ hz hl h2 l4 hn (.inr ⟨qL,h3⟩)
      rw [qL] at this
      exact this
     ·cases hr
    ·cases hr
  ·cases hr
 ·cases hr
theorem Dy {t:TypeId} {x y:Operand} (ho:o.op= .store t x y) (hd:o.dst=none) (hr:zy P s t x y h=some q):mK P n s o q.1 q.2:=by
 unfold zy at hr
 split at hr
 ·rename_i cs hy _;exact B6 ho hd hy hr
 ·exact tj ho hd hr
def uN (s:AS):AV->Option (Nat×List AV)
 | .nil=>some (0,[])
 | .sl e row=>some (e,row)
 | .ref id=>(match look s.H id with|some ⟨e,true,_,cells⟩=>some (e,cells)|_=>none)
 | .pre id l=>(match look s.H id with|some ⟨e,true,_,cells⟩=>some (e,cells.take l)|_=>none)
 | .jE id o l=>(match look s.H id with|some ⟨e,true,_,cells⟩=>some (e,(cells.drop o).take l)|_=>none)
 | _=>none
theorem Ni {S0:bn} {w0 w:World} {a:Act} {φ:Nat->Option Nat} (hs:aI S0 w0 n [] s a w φ) {v:Value} {x:AV} (hx:Den (az s.H φ) (aP S0 w φ []) w v x) {e:Nat} {row:List AV} (he:uN s x=some (e,row)) :
  ∃(A:Option Addr) (m c:Nat) (us:List Value),v= .slice A m c∧row.length=e*m∧us.length=row.length∧(0<row.length-> ∃ad,A=some ad∧ ∀(j:Nat) u,us[j]?=some u->w.cell? (ad.add j)=some u)∧(∀(j:Nat) u x,us[j]?=some u->row[j]?=some x->cz (aP S0 w φ []) w u x)∧m≤maxLen:=by
 have Mc:∀(id g:Nat) (r:Row),look s.H id=some r->r.pure=true->φ id=some g-> ∃us:List Value,r.cells.length≤us.length∧(∀(j:Nat) u,us[j]?=some u->w.cell? ⟨g,j,none⟩=some u)∧ ∀(j:Nat) u x,us[j]?=some u->r.cells[j]?=some x->cz (aP S0 w φ []) w u x:=by
  intro id g r hr hp hg
  obtain ⟨cur,te,fr,jq,hf,hl,hc⟩:=kU hs hr hp hg
  exact ⟨cur.toList,hl,fun j u hu=>by rw [cell_of_row w g _ cur te fr jq];simpa using hu,fun j u x hu hx=>hc j u x (by simpa using hu) hx⟩
 cases hx with
 | rep h =>
  cases h with
  | nil=>injection he with he;injection he with h1 h2;subst h1;subst h2;exact ⟨none,0,0,[],rfl,rfl,rfl,fun h=>(by simp at h),fun j u x hu=>(by simp at hu),by simp⟩
  | sl A n c e' us FX hl hn hc hm ha h =>
   injection he with he;injection he with h1 h2;subst h1;subst h2
   exact ⟨A,n,c,us,rfl,hn,hl,fun h0=>by obtain ⟨ad,e1,_,e2⟩:=ha h0;exact ⟨ad,e1,e2⟩,h,ag⟩
  | _=>cases he
 | agg=>cases he
 | cw=>cases he
 | dead=>cases he
 | addr=>cases he
 | ref id e' m g l c hi hm hc hx bY =>
  obtain ⟨r,hr,h1,h2,bW⟩:=aS hi
  obtain ⟨re,rp,rf,rc⟩:=r
  simp only [uN,hr] at he
  split at he
  ·rename_i heq
   injection heq with heq;cases heq
   injection he with he;injection he with h3 h4;subst h3;subst h4
   obtain ⟨us,Qb,I0,MA⟩:=Mc id g _ hr rfl bW
   simp only at h1 h2 Qb MA
   exact ⟨_,l,c,us.take rc.length,rfl,by rw [h2,hm,h1],by rw [List.length_take];omega,fun _=>⟨_,rfl,fun j u hu=>by rw [fv];exact I0 j u (bZ _ _ _ _ hu)⟩,fun j u x hu hx=>MA j u x (bZ _ _ _ _ hu) hx,ag⟩
  ·cases he
 | cm id e' hi =>
  obtain ⟨r,hr,h1,h2,bW⟩:=aS hi
  obtain ⟨re,rp,rf,rc⟩:=r
  simp only [uN,hr] at he
  split at he
  ·rename_i heq
   injection heq with heq;cases heq
   injection he with he;injection he with h3 h4;subst h3;subst h4
   simp only at h2
   have:rc= []:=List.length_eq_zero_iff.1 h2
   subst this
   exact ⟨none,0,0,[],rfl,rfl,rfl,fun h=>(by simp at h),fun j u x hu=>(by simp at hu),by simp⟩
  ·cases he
 | pre id k e' m g l c hi hn hm hc hx bY =>
  obtain ⟨r,hr,h1,h2,bW⟩:=aS hi
  obtain ⟨re,rp,rf,rc⟩:=r
  simp only [uN,hr] at he
  split at he
  ·rename_i heq
   injection heq with heq;cases heq
   injection he with he;injection he with h3 h4;subst h3;subst h4
   obtain ⟨us,Qb,I0,MA⟩:=Mc id g _ hr rfl bW
   simp only at h1 h2 Qb MA
   have l3:(rc.take k).length=k:=by rw [List.length_take];omega
   exact ⟨_,l,c,us.take k,rfl,by rw [l3,hn,h1],by rw [l3,List.length_take];omega,fun _=>⟨_,rfl,fun j u hu=>by rw [fv];exact I0 j u (bZ _ _ _ _ hu)⟩,fun j u x hu hx=>MA j u x (bZ _ _ _ _ hu) (bZ _ _ _ _ hx),ag⟩
  ·cases he
 | dP id e' hi =>
  obtain ⟨r,hr,h1,h2,bW⟩:=aS hi
  obtain ⟨re,rp,rf,rc⟩:=r
  simp only [uN,hr] at he
  split at he
  ·rename_i heq
   injection heq with heq;cases heq
   injection he with he;injection he with h3 h4;subst h3;subst h4
   simp only [List.take_zero]
   exact ⟨none,0,0,[],rfl,rfl,rfl,fun h=>(by simp at h),fun j u x hu=>(by simp at hu),by simp⟩
  ·cases he
 | jE id off k e' m l c g A hi hn hm hc hx ha =>
  obtain ⟨r,hr,h1,h2,bW⟩:=aS hi
  obtain ⟨re,rp,rf,rc⟩:=r
  simp only [uN,hr] at he
  split at he
  ·rename_i heq
   injection heq with heq;cases heq
   injection he with he;injection he with h3 h4;subst h3;subst h4
   simp only at h1 h2
   have l3:((rc.drop off).take k).length=k:=by rw [List.length_take,List.length_drop];omega
   by_cases hk:0<k
   ·obtain ⟨b,hb,hA⟩:=ha hk
    rw [hb] at bW
    obtain ⟨us,Qb,I0,MA⟩:=Mc id b _ hr rfl bW
    simp only at Qb MA
    exact ⟨A,l,c,(us.drop off).take k,rfl,by rw [l3,hn,h1],by rw [l3,List.length_take,List.length_drop];omega,fun _=>⟨_,hA,fun j u hu=>by rw [mJ];exact I0 _ u (bR _ _ _ _ _ hu)⟩,fun j u x hu hx=>MA _ u x (bR _ _ _ _ _ hu) (bR _ _ _ _ _ hx),ag⟩
   ·have:(rc.drop off).take k= []:=List.length_eq_zero_iff.1 ag
    rw [this]
    exact ⟨A,l,c,[],rfl,by rw [h1];simp;omega,rfl,fun h=>(by simp at h),fun j u x hu=>(by simp at hu),ag⟩
  ·cases he
end
section
variable {P:Program} {w:World}
structure oF (P:Program) (w:World) (xt:TypeId) (e:Nat) (xv:Value) (m:Nat) (news:List Value):Prop where
 ty:(∃e2,P.underlying xt=some (.slice e2))∨P.underlying xt=some .string
 len:∀w',(Builtin.lenOf xv).run P w'= .ok m w'
 part:∀(w':World) (k:Nat),w'.heap=w.heap->k≤m->(Builtin.firstCells e k xv).run P w'= .ok (news.take (k*e)).toArray w'
 hl:news.length=m*e
 one:∀u∈news,u.oneCell'=true
theorem oF.cells {xt:TypeId} {e m:Nat} {xv:Value} {news:List Value} (h:oF P w xt e xv m news) (w':World) (hw:w'.heap=w.heap):(Builtin.firstCells e m xv).run P w'= .ok news.toArray w':=by
 have:=h.part w' m hw (Nat.le_refl _)
 rw [List.take_of_length_le (by rw [h.hl];exact Nat.le_refl _)] at this
 exact this
theorem qj {xt e2:TypeId} (ht:P.underlying xt=some (.slice e2)) {A:Option Addr} {m c e:Nat} {news:List Value} (hl:news.length=m*e) (hc:0<news.length-> ∃ad,A=some ad∧ ∀(j:Nat) u,news[j]?=some u->w.cell? (ad.add j)=some u) (h1:∀u∈news,u.oneCell'=true) :
  oF P w xt e (.slice A m c) m news:=by
 refine ⟨.inl ⟨e2,ht⟩,fun w'=>rfl,fun w' k hw hk=>?_,hl,h1⟩
 have bw:∀p:Addr,w'.cell? p=w.cell? p:=fun p=>kN (by rw [hw])
 have iY:(news.take (k*e)).length=k*e:=by
  have:=Nat.mul_le_mul_right e hk
  rw [List.length_take];omega
 by_cases h0:0<news.length
 ·obtain ⟨ad,rfl,dk⟩:=hc h0
  exact run_firstCells_some w' e k ad m c _ iY (fun j u hu=>(bw _).trans (dk j u (bZ _ _ _ _ hu)))
 ·have hn:news= []:=List.length_eq_zero_iff.1 ag
  subst hn
  cases A with
  | none=>rw [run_firstCells_none];simp
  | some ad=>exact run_firstCells_some w' e k ad m c _ iY (fun j u hu=>by simp at hu)
theorem wR {xt:TypeId} (ht:P.underlying xt=some .string) (b:ByteArray):oF P w xt 1 (.string b) b.size (tw b.data.toList):=by
 refine ⟨.inr ht,fun w'=>rfl,fun w' k _ hk=>?_,by rw [gA,Nat.mul_one];rfl,Fz _⟩
 simp only [Builtin.firstCells,Sem.run_pure,Nat.mul_one]
 congr 1
 apply Array.ext'
 simp [tw,bv,←List.map_take]
structure KB (w w':World) (v':Value) (g0:Option Nat) (e N:Nat) (cells:List Value) (g':Nat):Prop where
 slice:∃c',v'= .slice (some ⟨g',0,none⟩) N c'∧N≤c'∧c'≤maxLen∧aW w' g'=e*c'
 Mc:∃cur te fr,w'.heap[g']?=some (.cells cur te fr)∧(∀j,j<cur.size-> ¬(fr.1≤j∧j<fr.2))∧cells.length≤cur.size∧cur.toList.take cells.length=cells
 len:cells.length=e*N
 os:w'.os=w.os
 tape:w'.tape=w.tape
 output:w'.output=w.output
 size:w.heap.size≤w'.heap.size
 other:∀b,b<w.heap.size->some b≠g0->w'.heap[b]?=w.heap[b]?
 place:(g0=some g'∧g'<w.heap.size)∨(g'=w.heap.size∧w.heap.size<w'.heap.size)
theorem nI (z:Value) (e k:Nat) (hz:z.cells.size=e):(Builtin.zeroCells z.cells k).size=k*e:=by unfold Builtin.zeroCells;simp [hz]
theorem sH {el:TypeId} {z:Value} {e l m old:Nat} {olds news:List Value} (g0:Option Nat) (hz:z.cells.size=e) (UU:olds.length=l*e) (Lz:news.length=m*e) (hm:l+m≤maxLen) :
  KB w (w.drew.alloc (.cells (olds.toArray++news.toArray++Builtin.zeroCells z.cells (grownCap w (l+m) old el-(l+m))) el)) (.slice (some ⟨w.heap.size,0,none⟩) (l+m) (grownCap w (l+m) old el)) g0 e (l+m) (olds++news) w.heap.size:=by
 have vI:=grownCap_ge w (l+m) old el
 have ug:grownCap w (l+m) old el≤maxLen:=grownCap_le_maxLen w _ old el hm
 have mw:(w.drew.alloc (.cells (olds.toArray++news.toArray++Builtin.zeroCells z.cells (grownCap w (l+m) old el-(l+m))) el)).heap[w.heap.size]?=some (.cells (olds.toArray++news.toArray++Builtin.zeroCells z.cells (grownCap w (l+m) old el-(l+m))) el (0,0)):=heap_alloc_new w.drew _
 have dv:(olds.toArray++news.toArray++Builtin.zeroCells z.cells (grownCap w (l+m) old el-(l+m))).size=e*grownCap w (l+m) old el:=by
  simp only [Array.size_append,List.size_toArray,nI z e _ hz,UU,Lz]
  rw [←Nat.add_mul,←Nat.add_mul,Nat.mul_comm]
  congr 1;omega
 have hlen:(olds++news).length=e*(l+m):=by rw [List.length_append,UU,Lz,←Nat.add_mul,Nat.mul_comm]
 refine ⟨⟨_,rfl,vI,ug,by unfold aW;rw [mw];exact dv⟩,⟨_,_,_,mw,by simp,by rw [dv,hlen];exact Nat.mul_le_mul_left _ vI,?_⟩,hlen,rfl,rfl,rfl,by simp,fun b hb _=>Below.heap_alloc w.drew _ b hb,.inr ⟨rfl,by simp⟩⟩
 simp only [Array.toList_append,List.append_assoc]
 rw [←List.append_assoc]
 exact List.take_left
theorem Cm (A B:List Value) (C:Array Value):A.toArray++(B.toArray++C)=(A++B).toArray++C:=by
 apply Array.ext'
 simp
theorem y1 {e l m bytes q:Nat} (he:0<e) (hq:q=e*(l+m)) (hb:q*bytes≤e*140737488355328):(l+m)*bytes≤140737488355328:=by
 rw [hq,Nat.mul_assoc] at hb
 exact Nat.le_of_mul_le_mul_left hb he
theorem vj {l m bytes:Nat} (xS:0<bytes) (hb:(l+m)*bytes≤140737488355328):l+m≤maxLen∧((l+m:Nat):Int)≤9223372036854775807:=by
 have:l+m≤(l+m)*bytes:=Nat.le_mul_of_pos_right _ xS
 unfold maxLen;omega
theorem HY {t xt ty el:TypeId} {i:TypeInfo} {z xv:Value} {m:Nat} {news:List Value} (ht:P.underlying t=some (.slice el)) (hi:P.info? el=some i) (hz:i.zero=some z) (tE:z.cells.size=i.size) (xS:0<i.bytes)
  (gq:oF P w xt i.size xv m news) (hb:m*i.bytes≤140737488355328) :
  (m=0∧(Builtin.append_ #[t,xt] ty #[.slice none 0 0,xv]).run P w= .ok (.slice none 0 0) w)∨ ∃v' w',(Builtin.append_ #[t,xt] ty #[.slice none 0 0,xv]).run P w= .ok v' w'∧KB w w' v' none i.size m news w.heap.size:=by
 have hf:=gq.cells w.drew rfl
 by_cases h0:m=0
 ·left
  refine ⟨h0,?_⟩
  have MK:=gq.cells w rfl
  have hn:news= []:=List.length_eq_zero_iff.1 (by rw [gq.hl,h0];simp)
  subst h0;subst hn
  rcases gq.ty with ⟨e2,hu⟩|hu<;>simp [Builtin.append_,run_underlying ht,run_underlying hu,sizeOf,typeInfo,hi,gq.len,MK]
 ·right
  obtain ⟨Fc,Jb⟩:=vj (l:=0) xS (by rw [Nat.zero_add];exact hb)
  rw [Nat.zero_add] at Fc
  have Q5:¬(281474976710656<Builtin.nextslicecap m 0*i.bytes):=by rw [nextslicecap_zero ag];omega
  have Q4:¬(9223372036854775807<(m:Int)):=by simp at Jb;omega
  have hA:=sH (w:=w) (el:=el) (old:=0) (olds:=[]) (news:=news) (l:=0) none tE (by simp) gq.hl (by rw [Nat.zero_add];exact Fc)
  simp only [Nat.zero_add,List.nil_append] at hA
  refine ⟨_,_,?_,hA⟩
  rcases gq.ty with ⟨e2,hu⟩|hu<;>simp [Builtin.append_,run_underlying ht,run_underlying hu,sizeOf,typeInfo,zeroValue,hi,hz,gq.len,hf,h0,Q5,Q4,Question.forced,run_firstCells_none,newRow,grownCap]
theorem HX {t xt ty el:TypeId} {i:TypeInfo} {z xv:Value} {m:Nat} {news:List Value} (ht:P.underlying t=some (.slice el)) (hi:P.info? el=some i) (hz:i.zero=some z) (tE:z.cells.size=i.size) (xS:0<i.bytes)
  (gq:oF P w xt i.size xv m news) {g l c:Nat} {cur:Array Value} {te:TypeId} {fr:Nat×Nat} (hg:w.heap[g]?=some (.cells cur te fr)) (gu:∀j,j<cur.size-> ¬(fr.1≤j∧j<fr.2)) (dv:cur.size=i.size*c) (Gr:l≤c) (ug:c≤maxLen) (hb:(l+m)*i.bytes≤140737488355328) :
  ∃v' w' g',(Builtin.append_ #[t,xt] ty #[.slice (some ⟨g,0,none⟩) l c,xv]).run P w= .ok v' w'∧KB w w' v' (some g) i.size (l+m) (cur.toList.take (l*i.size)++news) g':=by
 have LD:g<w.heap.size:=(Array.getElem?_eq_some_iff.1 hg).1
 have fi:cur.toList.length=cur.size:=rfl
 have hle:l*i.size≤cur.size:=by rw [dv,Nat.mul_comm];exact Nat.mul_le_mul_left _ Gr
 have I_:(cur.toList.take (l*i.size)).length=l*i.size:=by rw [List.length_take];omega
 by_cases lK:l+m≤c
 ·have MK:=gq.cells w rfl
  have l4:l*i.size+news.length≤cur.size:=by rw [gq.hl,←Nat.add_mul,dv,Nat.mul_comm];exact Nat.mul_le_mul_left _ lK
  have dJ:=cE P g te fr cur.size gu (l*i.size) news 0 cur w hg ag rfl gq.one
  simp only [Nat.add_zero] at dJ
  obtain ⟨f1,f2,f3⟩:=qk (cur':=(cur.toList.take (l*i.size)++news++cur.toList.drop (l*i.size+news.length)).toArray) hg
  have Gn:(cur.toList.take (l*i.size)++news++cur.toList.drop (l*i.size+news.length)).toArray.size=cur.size:=by
   simp only [List.size_toArray];rw [pF _ _ _ ag];rfl
  have hlen:(cur.toList.take (l*i.size)++news).length=i.size*(l+m):=by rw [List.length_append,I_,gq.hl,←Nat.add_mul,Nat.mul_comm]
  refine ⟨.slice (some ⟨g,0,none⟩) (l+m) c,_,g,?_,⟨c,rfl,lK,ug,by unfold aW;rw [f1];simp only;rw [Gn,dv]⟩,⟨_,te,fr,f1,fun j hj=>gu j ag,by rw [Gn,hlen,dv];exact Nat.mul_le_mul_left _ lK,by simp only;exact List.take_left⟩,hlen,rfl,rfl,rfl,by rw [f2];exact Nat.le_refl _,fun b hb cS=>f3 b fun e=>cS (by rw [e]),.inl ⟨rfl,LD⟩⟩
  rcases gq.ty with ⟨e2,hu⟩|hu<;>simp [Builtin.append_,run_underlying ht,run_underlying hu,sizeOf,typeInfo,hi,gq.len,lK,MK,fv,dJ]
 ·obtain ⟨Fc,Jb⟩:=vj xS hb
  have Q5:¬(281474976710656<Builtin.nextslicecap (l+m) c*i.bytes):=by have:=growslice_fits (need:=l+m) (old:=c) ag hb;omega
  have Q4:¬(9223372036854775807<((l:Int)+(m:Int))):=ag
  have hA:=sH (w:=w) (el:=el) (old:=c) (some g) tE I_ gq.hl Fc
  have hf:=gq.cells w.drew rfl
  have Jj:=run_firstCells_some (P:=P) w.drew i.size l ⟨g,0,none⟩ l c (cur.toList.take (l*i.size)) I_ (fun j u hu=>by
   rw [fv]
   have:w.drew.cell? ⟨g,j,none⟩=w.cell? ⟨g,j,none⟩:=kN rfl
   rw [this,cell_of_row w g _ cur te fr hg]
   have:=bZ _ _ _ _ hu
   simpa using this)
  refine ⟨_,_,w.heap.size,?_,hA⟩
  rcases gq.ty with ⟨e2,hu⟩|hu<;>simp [Builtin.append_,run_underlying ht,run_underlying hu,sizeOf,typeInfo,zeroValue,hi,hz,gq.len,lK,hf,Jj,Q5,Q4,Question.forced,newRow,grownCap]<;>rw [Cm]
theorem HZ {t xt ty el:TypeId} {i:TypeInfo} {z xv:Value} {m:Nat} {news:List Value} (ht:P.underlying t=some (.slice el)) (hi:P.info? el=some i) (hz:i.zero=some z) (tE:z.cells.size=i.size) (xS:0<i.bytes)
  (gq:oF P w xt i.size xv m news) {A:Option Addr} {l:Nat} {us:List Value} (At:us.length=l*i.size) (hc:0<us.length-> ∃ad,A=some ad∧ ∀(j:Nat) u,us[j]?=some u->w.cell? (ad.add j)=some u) (Ly:0<m) (hb:(l+m)*i.bytes≤140737488355328) :
  ∃v' w',(Builtin.append_ #[t,xt] ty #[.slice A l l,xv]).run P w= .ok v' w'∧KB w w' v' none i.size (l+m) (us++news) w.heap.size:=by
 have lK:¬(l+m≤l):=ag
 obtain ⟨Fc,Jb⟩:=vj xS hb
 have Q5:¬(281474976710656<Builtin.nextslicecap (l+m) l*i.bytes):=by have:=growslice_fits (need:=l+m) (old:=l) ag hb;omega
 have Q4:¬(9223372036854775807<((l:Int)+(m:Int))):=ag
 have hA:=sH (w:=w) (el:=el) (old:=l) none tE At gq.hl Fc
 have hf:=gq.cells w.drew rfl
 have Jj:(Builtin.firstCells i.size l (.slice A l l)).run P w.drew= .ok us.toArray w.drew:=by
  by_cases h0:0<us.length
  ·obtain ⟨ad,rfl,dk⟩:=hc h0
   exact run_firstCells_some w.drew i.size l ad l l us At (fun j u hu=>(kN (w:=w) (w':=w.drew) rfl).trans (dk j u hu))
  ·have hn:us= []:=List.length_eq_zero_iff.1 ag
   subst hn
   cases A with
   | none=>rw [run_firstCells_none]
   | some ad=>exact run_firstCells_some w.drew i.size l ad l l _ At (fun j u hu=>by simp at hu)
 refine ⟨_,_,?_,hA⟩
 rcases gq.ty with ⟨e2,hu⟩|hu<;>simp [Builtin.append_,run_underlying ht,run_underlying hu,sizeOf,typeInfo,zeroValue,hi,hz,gq.len,lK,hf,Jj,Q5,Q4,Question.forced,newRow,grownCap]<;>rw [Cm]
end
section
variable {S0:bn} {w0 w w':World} {n:Nat} {s:AS} {a:Act} {φ:Nat->Option Nat}
theorem qE (id d:Nat) (h:look s.H d=none):look (ck id s).H d=none:=by
 unfold ck
 rw [cy,bH]
 split
 ·rfl
 ·rw [h];rfl
theorem aI.wL {O:List Nat} {g0:Option Nat} (h:aI S0 w0 n O s a w φ) (hO:O=match g0 with|some g=>[g]|none=>[]) (TR:∀g∈O,w0.heap.size≤g∨S0.X g) (Oi:∀g∈O,g<w.heap.size) {d e N g':Nat} {v':Value} {cells:List Value} (QN:d<1000000000000) (hd:look s.H d=none) (hA:KB w w' v' g0 e N cells g') {row:List AV} (hl:row.length=cells.length)
  (hc:∀(j:Nat) u x,cells[j]?=some u->row[j]?=some x->cz (aP S0 w φ O) w u x) :
  ∃ b_,aI S0 w0 n [] ⟨s.F,(d,⟨e,true,false,row⟩)::s.H⟩ a w' b_∧Den (az ((d,⟨e,true,false,row⟩)::s.H) b_) (aP S0 w' b_ []) w' v' (.ref d):=by
 obtain ⟨c',hv,hN,ug,fi⟩:=hA.slice
 obtain ⟨cur,te,fr,hg,hf,hle,MB⟩:=hA.Mc
 have hb:∀b,b<w.heap.size->b ∉ O->w'.heap[b]?=w.heap[b]?:=fun b hb hn=>hA.other b hb fun e=>hn (by rw [hO,←e];simp)
 have hF:∀b,aP S0 w φ O b->w'.heap[b]?=w.heap[b]?:=fun b h=>hb b h.1 h.2.1
 have rd:∀(S:Nat->Prop),(∀b,aP S0 w φ O b->S b)-> ∀(j:Nat) u x,cur[j]?=some u->row[j]?=some x->cz S w' u x:=by
  intro S hS j u x hu hx
  have hj:j<cells.length:=by have:=(List.getElem?_eq_some_iff.1 hx).1;omega
  have:cells[j]?=some u:=by
   rw [←MB,List.getElem?_take,if_pos hj];simpa using hu
  exact (hc j u x this hx).mono fun b hb=>⟨hS b hb,hF b hb⟩
 have fin:∀ b_,b_ d=some g'->Den (az ((d,⟨e,true,false,row⟩)::s.H) b_) (aP S0 w' b_ []) w' v' (.ref d):=by
  intro b_ bW
  rw [hv]
  exact .ref d e row.length g' N c' (by rw [bt (r:=⟨e,true,false,row⟩) (by rw [aD,if_pos rfl]),bW]) (by rw [hl];exact hA.len) hN ug fi
 rcases hA.place with ⟨BL,cW⟩|⟨rfl,cW⟩
 ·rw [BL] at hO
  subst hO
  have h2:=h.xn TR hA.os hA.tape hA.output hA.size hb
  have h3:=h2.x_ (id:=d) (r:=⟨e,true,false,row⟩) ⟨.inl QN,TR g' (by simp)⟩ (by have:=hA.size;omega) (by simp) hd ⟨cur,te,fr,hg,hf,by simp only [hl];exact hle,fun h=>(by cases h),fun j u x hu hx=>by
   show cz _ _ _ _
   exact rd _ (fun b hb=>⟨by have:=hb.1;have:=hA.size;omega,hb.2⟩) j u x hu hx⟩
  exact ⟨_,h3,fin _ (by unfold fM;rw [if_pos rfl])⟩
 ·have h1:=h.await w.heap.size (Nat.le_refl _)
  have h2:=h1.xn (fun g hg=>by rcases List.mem_cons.1 hg with rfl|hg;exact .inl h.da.size;exact TR g hg) hA.os hA.tape hA.output hA.size (fun b Hp hn=>hb b Hp fun hm=>hn (by simp [hm]))
  have VC:w.heap.size ∉ O:=fun hm=>Nat.lt_irrefl _ (Oi _ hm)
  have h3:=h2.x_ (id:=d) (r:=⟨e,true,false,row⟩) ⟨.inl QN,.inl h.da.size⟩ cW VC hd ⟨cur,te,fr,hg,hf,by simp only [hl];exact hle,fun h=>(by cases h),fun j u x hu hx=>by
   show cz _ _ _ _
   exact rd _ (fun b hb=>⟨by have:=hb.1;omega,by simp only [List.mem_cons,not_or];exact ⟨by have:=hb.1;omega,hb.2.1⟩,hb.2.2⟩) j u x hu hx⟩
  cases BL:g0 with
  | none =>
   rw [BL] at hO;subst hO
   exact ⟨_,h3,fin _ (by unfold fM;rw [if_pos rfl])⟩
  | some g =>
   rw [BL] at hO;subst hO
   exact ⟨_,h3.vV,fin _ (by unfold fM;rw [if_pos rfl])⟩
end
def cp (row:List AV):Prop:=∀x∈row,iC x=true
theorem gi (l:List UInt8):cp (aj l):=by
 intro x hx;simp only [aj,List.mem_map] at hx;obtain ⟨c,_,rfl⟩:=hx;rfl
theorem qw (l:List UInt64):cp (ah l):=by
 intro x hx;simp only [ah,List.mem_map] at hx;obtain ⟨c,_,rfl⟩:=hx;rfl
theorem Bm (l:List Int):cp (au l):=by
 intro x hx;simp only [au,List.mem_map] at hx;obtain ⟨c,_,rfl⟩:=hx;rfl
theorem dr:∀ {l:List AV},eh l=true->cp l
 | [],_=>by intro x hx;simp at hx
 | y::l,h=>by
  simp only [eh] at h
  split at h
  ·rename_i hy
   intro x hx
   rcases List.mem_cons.1 hx with rfl|hx
   ·exact hy
   ·exact dr h x hx
  ·cases h
def yZ (h:Hint) (row:List AV):Option (List Prop):=match h.b with|true=>(match eh row with|true=>some []|false=>none)|false=>some [cp row]
theorem xE {h:Hint} {row:List AV} {C D:List Prop} (hp:yZ h row=some C) (hC:bx (C++D)):cp row∧bx D:=by
 unfold yZ at hp
 split at hp
 ·split at hp
  ·rename_i h1;cases hp;exact ⟨dr h1,hC⟩
  ·cases hp
 ·cases hp;exact hC
def rJ (P:Program) (s:AS) (xt:TypeId) (z:Nat) (x:AV):Option (List AV) :=
 match P.underlying xt with
 | some (.slice _)=>(match uN s x with|some (e,row)=>(match Nat.beq e z with|true=>some row|false=>(match x with| .nil=>some []|_=>none))|none=>none)
 | some .string=>(match x,z with| .val (.string b),1=>some (aj b.data.toList)|_,_=>none)
 | _=>none
def qX (s:AS) (e:Nat):AV->Option (List AV×AS)
 | .nil=>some ([],s)
 | .ref id=>(match look s.H id with|some ⟨e',true,_,cells⟩=>(match Nat.beq e e' with|true=>some (cells,ck id s)|false=>none)|_=>none)
 | .pre id l=>(match look s.H id with|some ⟨e',true,_,cells⟩=>(match Nat.beq e e' with|true=>some (cells.take l,ck id s)|false=>none)|_=>none)
 | .sg e' row=>(match Nat.beq e e' with|true=>some (row,s)|false=>none)
 | _=>none
def T4 (x:AV) (row:List AV):List Prop:=match x with| .sg _ _=>[0<row.length]|_=>[]
def ll (P:Program) (n:Nat) (s:AS) (d t xt:Nat) (x y:AV) (h:Hint):Option (AS×List Prop) :=
 match P.underlying t with
 | some (.slice el)=>(match P.info? el with
  | some i=>(match i.zero,i.size,i.bytes with
   | some zero,z+1,b+1=>(match Nat.beq zero.cells.size (z+1),qX s (z+1) x,rJ P s xt (z+1) y with
    | true,some (cells,s1),some row=>(match yZ h row,fO n ⟨(ck d s1).F,(d,⟨z+1,true,false,(named h (cells++row)).1⟩)::(ck d s1).H⟩ (some d) (.ref d) with
     | some C,some s'=>some (s',(named h (cells++row)).2++(C++(((cells.length+row.length)*(b+1)≤(z+1)*140737488355328)::T4 x row)))
     | _,_=>none)
    | _,_,_=>none)
   | _,_,_=>none)
  | none=>none)
 | _=>none
section
variable {P:Program} {n:Nat} {s:AS} {o:Oper} {h:Hint} {q:AS×List Prop}
theorem tV {S:Nat->Prop} {w:World} {v:Value} {x:AV} (h:cz S w v x) (hp:iC x=true):v.oneCell'=true:=(e_ (I:=fun _=>none) (.rep h) hp).2
theorem xq {S0:bn} {w0 w:World} {a:Act} {φ:Nat->Option Nat} (hs:aI S0 w0 n [] s a w φ) {xt:TypeId} {v:Value} {x:AV} (hx:Den (az s.H φ) (aP S0 w φ []) w v x) {z:Nat} {row:List AV} (he:rJ P s xt z x=some row) (og:cp row) :
  ∃m us,oF P w xt z v m us∧us.length=row.length∧ ∀(j:Nat) u x,us[j]?=some u->row[j]?=some x->cz (aP S0 w φ []) w u x:=by
 unfold rJ at he
 split at he
 ·rename_i e2 hu
  split at he
  ·rename_i e FX gq
   split at he
   ·rename_i hb
    have hb:=Nat.eq_of_beq_eq_true hb
    cases he
    subst hb
    obtain ⟨A,m,c,us,rfl,h1,h2,h3,h4,h5⟩:=Ni hs hx gq
    have ho:∀u∈us,u.oneCell'=true:=by
     intro u hu
     obtain ⟨j,hj⟩:=List.getElem?_of_mem hu
     have NR:j<row.length:=by have:=(List.getElem?_eq_some_iff.1 hj).1;omega
     exact tV (h4 j u _ hj (List.getElem?_eq_getElem NR)) (og _ (List.getElem_mem NR))
    exact ⟨m,us,qj hu (by rw [h2,h1,Nat.mul_comm]) (fun h0=>h3 ag) ho,h2,h4⟩
   ·split at he
    ·cases he
     cases hx with|rep hx=>cases hx with|nil=>exact ⟨0,[],qj hu (by simp) (fun h=>by simp at h) (by simp),rfl,fun j u x hu=>by simp at hu⟩
    ·cases he
  ·cases he
 ·rename_i hu
  split at he
  ·rename_i b
   cases he
   have hv:=bF hx
   subst hv
   refine ⟨b.size,tw b.data.toList,wR hu b,by rw [gA,aB],fun j u x hu hx=>?_⟩
   have hj:j<b.data.toList.length:=by have:=(List.getElem?_eq_some_iff.1 hu).1;rw [gA] at this;exact this
   rw [OK _ _ hj] at hu
   injection hu with hu;subst hu
   have e2:(aj b.data.toList)[j]?=some (.val (.int .u8 (bv (b.data.toList.getD j 0)))):=by
    simp only [aj,List.getElem?_map,List.getElem?_eq_getElem hj,Option.map_some,List.getD_eq_getElem?_getD,Option.getD_some]
   rw [e2] at hx
   injection hx with hx;subst hx
   exact .val _
  ·cases he
 ·cases he
theorem J0 {S0:bn} {w0 w:World} {a:Act} {φ:Nat->Option Nat} (hs:aI S0 w0 n [] s a w φ) {v:Value} {x:AV} (hx:Den (az s.H φ) (aP S0 w φ []) w v x) {e:Nat} {cells:List AV} {s1:AS} (he:qX s e x=some (cells,s1)) :
  (v= .slice none 0 0∧cells= []∧ ∃ iM,aI S0 w0 n [] s1 a w iM∧ ∀b,aP S0 w φ [] b->aP S0 w iM [] b) ∨
  (∃(g l c:Nat) (iM:Nat->Option Nat),v= .slice (some ⟨g,0,none⟩) l c∧aI S0 w0 n [g] s1 a w iM∧(∀b,aP S0 w φ [] b->aP S0 w iM [g] b)∧l≤c∧c≤maxLen∧cells.length=e*l∧(w0.heap.size≤g∨S0.X g)∧g<w.heap.size ∧
   ∃cur te fr,w.heap[g]?=some (.cells cur te fr)∧(∀j,j<cur.size-> ¬(fr.1≤j∧j<fr.2))∧cur.size=e*c∧ ∀(j:Nat) u x,cur[j]?=some u->cells[j]?=some x->cz (aP S0 w φ []) w u x) ∨
  ∃(A:Option Addr) (l:Nat) (us:List Value),(∃e',x= .sg e' cells)∧v= .slice A l l∧s1=s∧us.length=cells.length∧cells.length=e*l∧(0<us.length-> ∃ad,A=some ad∧ ∀(j:Nat) u,us[j]?=some u->w.cell? (ad.add j)=some u) ∧
   ∀(j:Nat) u x,us[j]?=some u->cells[j]?=some x->cz (aP S0 w φ []) w u x:=by
 have own:∀(id g l c m:Nat) (e':Nat) (fu:Bool) (rc:List AV),look s.H id=some ⟨e',true,fu,rc⟩->az s.H φ id=some (e',m,some g)->e=e'->l≤c->c≤maxLen->aW w g=e'*c->cells.length=e*l->(∀(j:Nat) x,cells[j]?=some x->rc[j]?=some x)->s1=ck id s->v= .slice (some ⟨g,0,none⟩) l c ->
   ∃(g l c:Nat) (iM:Nat->Option Nat),v= .slice (some ⟨g,0,none⟩) l c∧aI S0 w0 n [g] s1 a w iM∧(∀b,aP S0 w φ [] b->aP S0 w iM [g] b)∧l≤c∧c≤maxLen∧cells.length=e*l∧(w0.heap.size≤g∨S0.X g)∧g<w.heap.size ∧
   ∃cur te fr,w.heap[g]?=some (.cells cur te fr)∧(∀j,j<cur.size-> ¬(fr.1≤j∧j<fr.2))∧cur.size=e*c∧ ∀(j:Nat) u x,cur[j]?=some u->cells[j]?=some x->cz (aP S0 w φ []) w u x:=by
  intro id g l c m e' fu rc hr hi Tq Gr ug fi hlen De gG hv
  subst gG;subst Tq
  obtain ⟨r',iH,-,-,bW⟩:=aS hi
  obtain ⟨cur,te,fr,hg,hf,hle,hc⟩:=kU hs hr rfl bW
  refine ⟨g,l,c,erase φ id,hv,hs.jJ id [g] (by rw [bW]),fun b hb=>⟨hb.1,by simp;exact fun e=>hb.2.2.1 id (by rw [bW,e]),fun i hi=>?_,hb.2.2.2⟩,Gr,ug,hlen,(hs.cY id g bW).1.2,(hs.cY id g bW).2,cur,te,fr,hg,hf,?_,fun j u x hu hx=>hc j u x hu (De j x hx)⟩
  ·unfold erase at hi
   split at hi
   ·cases hi
   ·exact hb.2.2.1 i hi
  ·unfold aW at fi;rw [hg] at fi;exact fi
 have none_:∀id,φ id=none->s1=ck id s->v= .slice none 0 0->cells= []->v= .slice none 0 0∧cells= []∧ ∃ iM,aI S0 w0 n [] s1 a w iM∧ ∀b,aP S0 w φ [] b->aP S0 w iM [] b:=by
  intro id bW gG hv hc
  subst gG
  refine ⟨hv,hc,erase φ id,hs.jJ id [] (by rw [bW]),fun b hb=>⟨hb.1,by simp,fun i hi=>?_,hb.2.2.2⟩⟩
  unfold erase at hi
  split at hi
  ·cases hi
  ·exact hb.2.2.1 i hi
 cases hx with
 | rep hx =>
  cases hx with
  | nil=>cases he;exact .inl ⟨rfl,rfl,φ,hs,fun _ h=>h⟩
  | sg A k e' us row hl hn hm ha h =>
   simp only [qX] at he
   split at he
   ·rename_i hb
    have hb:=Nat.eq_of_beq_eq_true hb
    cases he
    exact .inr (.inr ⟨A,k,us,⟨e',rfl⟩,rfl,rfl,hl,by rw [hn,hb],fun h0=>by
     obtain ⟨ad,h1,-,h2⟩:=ha ag
     exact ⟨ad,h1,h2⟩,h⟩)
   ·cases he
  | _=>cases he
 | agg=>cases he
 | cw=>cases he
 | dead=>cases he
 | addr=>cases he
 | jE=>cases he
 | ref id e' m g l c hi hm hc hx bY =>
  obtain ⟨r,hr,h1,h2,bW⟩:=aS hi
  obtain ⟨re,rp,rf,rc⟩:=r
  simp only [qX,hr] at he
  split at he
  ·rename_i heq
   injection heq with heq;cases heq
   split at he
   ·rename_i hb
    have hb:=Nat.eq_of_beq_eq_true hb
    cases he
    simp only at h1 h2
    subst h1
    exact .inr (.inl (own id g l c m _ _ _ hr hi hb hc hx bY (by rw [h2,hm,hb]) (fun _ _ h=>h) rfl rfl))
   ·cases he
  ·cases he
 | cm id e' hi =>
  obtain ⟨r,hr,h1,h2,bW⟩:=aS hi
  obtain ⟨re,rp,rf,rc⟩:=r
  simp only [qX,hr] at he
  split at he
  ·rename_i heq
   injection heq with heq;cases heq
   split at he
   ·cases he
    simp only at h2
    exact .inl (none_ id bW rfl rfl (List.length_eq_zero_iff.1 h2))
   ·cases he
  ·cases he
 | pre id k e' m g l c hi hn hm hc hx bY =>
  obtain ⟨r,hr,h1,h2,bW⟩:=aS hi
  obtain ⟨re,rp,rf,rc⟩:=r
  simp only [qX,hr] at he
  split at he
  ·rename_i heq
   injection heq with heq;cases heq
   split at he
   ·rename_i hb
    have hb:=Nat.eq_of_beq_eq_true hb
    cases he
    simp only at h1 h2
    subst h1
    exact .inr (.inl (own id g l c m _ _ _ hr hi hb hc hx bY (by rw [List.length_take,h2,hb,←hn];omega) (fun j x h=>bZ _ _ _ _ h) rfl rfl))
   ·cases he
  ·cases he
 | dP id e' hi =>
  obtain ⟨r,hr,h1,h2,bW⟩:=aS hi
  obtain ⟨re,rp,rf,rc⟩:=r
  simp only [qX,hr] at he
  split at he
  ·rename_i heq
   injection heq with heq;cases heq
   split at he
   ·cases he
    exact .inl (none_ id bW rfl rfl (by simp))
   ·cases he
  ·cases he
theorem tp {t xt d:Nat} {x y:Operand} (ho:o.op= .call ⟨.builtin .append,⟨[x,y]⟩,⟨[t,xt]⟩⟩) (hd:o.dst=some d) (hr:ll P n s d t xt (bq s x) (bq s y) h=some q):mK P n s o q.1 q.2:=by
 intro hC S0 w0 a w Q ⟨φ,hs⟩
 unfold ll at hr
 split at hr
 ·rename_i el hu
  split at hr
  ·rename_i i hi
   split at hr
   ·rename_i zero z b hz dv xS
    split at hr
    ·rename_i cells s1 row tE l5 gq
     split at hr
     ·rename_i C s' nw ea
      injection hr with hr;subst hr
      obtain ⟨hn,Fl⟩:=ir hC
      obtain ⟨O8,lL,nr⟩:=xE nw Fl
      have tE:=Nat.eq_of_beq_eq_true tE
      replace dv:i.size=z+1:=dv
      replace xS:i.bytes=b+1:=xS
      obtain ⟨m,us,Gp,At,bU⟩:=xq (P:=P) hs (hs.bq y) gq O8
      have aQ:row.length=(z+1)*m:=by rw [←At,Gp.hl,Nat.mul_comm]
      rw [hn] at ea
      have wp:∀v' w',(Builtin.append_ #[t,xt] o.type #[a.eval x,a.eval y]).run P w= .ok v' w'->ie S0 w0 n s' (a.put o.dst v') w'->o.wp P a w (fun a' w'=>ie S0 w0 n s' a' w') Q:=by
       intro v' w' bT gw
       refine cN (v:=v') (w':=w') ?_ gw
       unfold execOp
       simp [ho,resolve,invoke,builtin,bT]
      have A4:∀s1:AS,look (ck d s1).H d=none:=fun s1=>du d
      rcases J0 hs (hs.bq x) l5 with ⟨hv,Wr,iM,gG,hF⟩|⟨g,l,c,iM,hv,gG,hF,Gr,ug,fi,BL,Cw,cur,te,fr,hg,hf,uf,hold⟩|⟨A,l,ol,⟨e',VA⟩,hv,MC,Cu,fi,WS,hold⟩
      ·subst Wr
       simp only [List.nil_append,List.length_nil,Nat.zero_add] at ea lL
       have tF:m*i.bytes≤140737488355328:=by
        have:=y1 (l:=0) (m:=m) ag (by rw [Nat.zero_add];exact aQ) lL
        rw [Nat.zero_add] at this;rw [xS];exact this
       have nv:=gG.mT d
       rcases HY (ty:=o.type) hu hi hz (by rw [tE,dv]) ag (by rw [dv];exact Gp) tF with ⟨hm,bT⟩|⟨v',w',bT,hA⟩
       ·have VR:row= []:=List.length_eq_zero_iff.1 (by rw [aQ,hm];simp)
        subst VR
        refine wp (.slice none 0 0) w (by rw [hv];exact bT) ⟨erase iM d,?_⟩
        rw [hd]
        exact dU (nv.sI (id:=d) (r:=⟨z+1,true,false,[]⟩) (A4 s1) rfl) (.cm d (z+1) (by rw [bt (r:=⟨z+1,true,false,[]⟩) (by rw [aD,if_pos rfl]),nv.only d (A4 s1)];rfl)) ea
       ·rw [dv] at hA
        obtain ⟨kq,h3,h4⟩:=nv.wL (g0:=none) rfl (by simp) (by simp) (iA ea) (A4 s1) hA (row:=row) At.symm (fun j u x hu hx=>(bU j u x hu hx).mono fun b hb=>⟨⟨hb.1,by simp,fun i hi=>by
         unfold erase at hi
         split at hi
         ·cases hi
         ·exact (hF b hb).2.2.1 i hi,hb.2.2.2⟩,rfl⟩)
        refine wp _ _ (by rw [hv];exact bT) ⟨kq,?_⟩
        rw [hd]
        exact dU h3 h4 ea
      ·have MB:(cur.toList.take (l*(z+1))).length=cells.length:=by
        have LM:cur.toList.length=cur.size:=rfl
        rw [List.length_take,fi,LM,uf,Nat.mul_comm]
        exact Nat.min_eq_left (Nat.mul_le_mul_left _ Gr)
       have tF:(l+m)*i.bytes≤140737488355328:=by
        rw [xS];exact y1 ag (by rw [fi,aQ,←Nat.mul_add]) lL
       have nv:aI S0 w0 n [g] (ck d s1) a w (erase iM d):=by
        cases PZ:iM d with
        | none=>exact gG.jJ d [g] (by rw [PZ])
        | some gd=>exact (gG.jJ d [gd,g] (by rw [PZ])).vV
       obtain ⟨v',w',g',bT,hA⟩:=HX (ty:=o.type) hu hi hz (by rw [tE,dv]) ag (by rw [dv];exact Gp) hg hf (by rw [dv];exact uf) Gr ug tF
       rw [dv] at hA
       have TW:∀b,aP S0 w φ [] b->aP S0 w (erase iM d) [g] b:=fun b hb=>⟨hb.1,(hF b hb).2.1,fun i hi=>by
        unfold erase at hi
        split at hi
        ·cases hi
        ·exact (hF b hb).2.2.1 i hi,hb.2.2.2⟩
       obtain ⟨kq,h3,h4⟩:=nv.wL (g0:=some g) rfl (by simpa using BL) (by simpa using Cw) (iA ea) (A4 s1) hA (row:=cells++row) (by rw [List.length_append,List.length_append,MB,At]) (fun j u x hu hx=>by
        refine cz.mono (fun b hb=>⟨TW b hb,rfl⟩) (?_:cz (aP S0 w φ []) w u x)
        by_cases hj:j<cells.length
        ·rw [List.getElem?_append_left ag] at hu
         rw [List.getElem?_append_left hj] at hx
         have:=bZ _ _ _ _ hu
         exact hold j u x (by simpa using this) hx
        ·rw [List.getElem?_append_right ag] at hu
         rw [List.getElem?_append_right ag] at hx
         rw [MB] at hu
         exact bU _ u x hu hx)
       refine wp _ _ (by rw [hv];exact bT) ⟨kq,?_⟩
       rw [hd]
       exact dU h3 h4 ea
      ·subst MC
       rw [VA] at nr
       have Ly:0<m:=by
        have h0:0<row.length:=nr.1
        rw [aQ] at h0
        exact Nat.pos_of_mul_pos_left h0
       have tF:(l+m)*i.bytes≤140737488355328:=by
        rw [xS];exact y1 ag (by rw [fi,aQ,←Nat.mul_add]) lL
       have nv:=hs.mT d
       obtain ⟨v',w',bT,hA⟩:=HZ (ty:=o.type) hu hi hz (by rw [tE,dv]) ag (by rw [dv];exact Gp) (by rw [Cu,fi,dv,Nat.mul_comm]) WS Ly tF
       rw [dv] at hA
       have TW:∀b,aP S0 w φ [] b->aP S0 w (erase φ d) [] b:=fun b hb=>⟨hb.1,by simp,fun i hi=>by
        unfold erase at hi
        split at hi
        ·cases hi
        ·exact hb.2.2.1 i hi,hb.2.2.2⟩
       obtain ⟨kq,h3,h4⟩:=nv.wL (g0:=none) rfl (by simp) (by simp) (iA ea) (A4 _) hA (row:=cells++row) (by rw [List.length_append,List.length_append,Cu,At]) (fun j u x hu hx=>by
        refine cz.mono (fun b hb=>⟨TW b hb,rfl⟩) (?_:cz (aP S0 w φ []) w u x)
        by_cases hj:j<cells.length
        ·rw [List.getElem?_append_left ag] at hu
         rw [List.getElem?_append_left hj] at hx
         exact hold j u x hu hx
        ·rw [List.getElem?_append_right ag] at hu
         rw [List.getElem?_append_right ag] at hx
         rw [Cu] at hu
         exact bU _ u x hu hx)
       refine wp _ _ (by rw [hv];exact bT) ⟨kq,?_⟩
       rw [hd]
       exact dU h3 h4 ea
     ·cases hr
    ·cases hr
   ·cases hr
  ·cases hr
 ·cases hr
def J_ (s:AS):AV->Option (Nat×Nat×Nat)
 | .ref id=>(match look s.H id with|some r=>some (id,0,r.cells.length)|none=>none)
 | .pre id l=>some (id,0,l)
 | .jE id o l=>some (id,o,l)
 | _=>none
def DO (P:Program) (n:Nat) (s:AS) (d:Option Nat) (t xt:Nat) (x y:AV) (h:Hint):Option (AS×List Prop) :=
 match P.underlying t with
 | some (.slice el)=>(match eH P el,J_ s x with
  | some (z+1),some (id,off,l)=>(match look s.H id,rJ P s xt (z+1) y with
   | some ⟨e,true,fu,cells⟩,some row=>(match Nat.beq e (z+1),yZ h row,fO n (FT s id ⟨e,true,fu,(named h (setCells cells off (row.take (cZ h.k (z+1))))).1⟩) d (.val (.int .i64 h.k)) with
    | true,some C,some s'=>some (s',(named h (setCells cells off (row.take (cZ h.k (z+1))))).2++(C++ [min row.length l=cZ h.k (z+1),0<l]))
    | _,_,_=>none)
   | _,_=>none)
  | _,_=>none)
 | _=>none
theorem GN {t xt:Nat} {x y:Operand} (ho:o.op= .call ⟨.builtin .copy,⟨[x,y]⟩,⟨[t,xt]⟩⟩) (hr:DO P n s o.dst t xt (bq s x) (bq s y) h=some q):mK P n s o q.1 q.2:=by
 intro hC S0 w0 a w Q ⟨φ,hs⟩
 unfold DO at hr
 split at hr
 ·rename_i el hu
  split at hr
  ·rename_i z id off l dv KF
   split at hr
   ·rename_i e fu cells row aQ gq
    split at hr
    ·rename_i C s' he nw ea
     injection hr with hr;subst hr
     have he:=Nat.eq_of_beq_eq_true he
     obtain ⟨hn,Fl⟩:=ir hC
     obtain ⟨O8,Di,Au,-⟩:=xE nw Fl
     obtain ⟨m,us,Gp,At,bU⟩:=xq (P:=P) hs (hs.bq y) gq O8
     rw [bz] at Di
     have Hi:row.length=(z+1)*m:=by rw [←At,Gp.hl,Nat.mul_comm]
     have hI:=bt (φ:=φ) aQ
     have hx:=hs.bq x
     have l5:∃(g dl c:Nat),a.eval x= .slice (some ⟨g,off,none⟩) dl c∧φ id=some g∧l=(z+1)*dl∧off+l≤cells.length:=by
      generalize a.eval x=V at hx
      unfold J_ at KF
      split at KF
      ·rename_i pe O6
       rw [O6] at hx
       split at KF
       ·rename_i r' iH
        cases KF
        rw [aQ] at iH;injection iH with iH;subst iH
        cases hx with
        | rep h=>cases h
        | ref _ e' m' g l' c hi hm hc hx bY =>
         rw [hI] at hi;injection hi with hi;injection hi with h1 hi;injection hi with h2 h3
         simp only at h1 h2 ⊢
         exact ⟨g,l',c,rfl,h3,by rw [h2,hm,←h1,he],ag⟩
        | cm _ e' hi =>
         rw [hI] at hi;injection hi with hi;injection hi with h1 hi;injection hi with h2 h3
         simp only at h2 Au;omega
       ·cases KF
      ·rename_i pe l' O6
       rw [O6] at hx
       cases KF
       cases hx with
       | rep h=>cases h
       | pre _ _ e' m' g l' c hi tG hm hc hx bY =>
        rw [hI] at hi;injection hi with hi;injection hi with h1 hi;injection hi with h2 h3
        simp only at h1 h2 ⊢
        exact ⟨g,l',c,rfl,h3,by rw [tG,←h1,he],ag⟩
       | dP _ e' hi=>omega
      ·rename_i pe o' l' O6
       rw [O6] at hx
       cases KF
       cases hx with
       | rep h=>cases h
       | jE _ _ _ e' m' l' c g A hi tG hm hc hx ha =>
        rw [hI] at hi;injection hi with hi;injection hi with h1 hi;injection hi with h2 h3
        obtain ⟨b,hb,rfl⟩:=ha Au
        simp only at h1 h2 ⊢
        exact ⟨b,l',c,rfl,by rw [h3,hb],by rw [tG,←h1,he],ag⟩
      ·cases KF
     obtain ⟨g,dl,c,hv,bW,hl,l4⟩:=l5
     obtain ⟨cur,te,fr,hg,hf,hle,hold⟩:=CO hs aQ bW
     have V7:cells.length≤cur.size:=hle
     have RJ:min m dl=h.k:=by
      rw [Hi,hl,Nat.mul_comm h.k,Nat.mul_min_mul_left] at Di
      exact Nat.eq_of_mul_eq_mul_left ag Di
     have iY:h.k*(z+1)≤l:=ag
     have XE:h.k*(z+1)≤row.length:=ag
     have ua:(row.take (cZ h.k (z+1))).length=h.k*(z+1):=by rw [bz,List.length_take];omega
     have UC:(us.take (h.k*(z+1))).length=h.k*(z+1):=by rw [List.length_take];omega
     have dk:(Builtin.firstCells (z+1) h.k (a.eval y)).run P w= .ok (us.take (h.k*(z+1))).toArray w:=Gp.part w h.k rfl ag
     have og:∀u∈us.take (h.k*(z+1)),u.oneCell'=true:=fun u hu=>Gp.one u (List.mem_of_mem_take hu)
     have dJ:=cE P g te fr cur.size hf off (us.take (h.k*(z+1))) 0 cur w hg (by rw [UC];omega) rfl og
     simp only [Nat.add_zero] at dJ
     have gw:=hs.written (off:=off) (l:=row.take (cZ h.k (z+1))) (vs:=us.take (h.k*(z+1))) aQ bW hg hle hold (by rw [ua,UC]) (by rw [ua];simp only;omega) hn (fun j u x hu hx=>by
      show cz _ _ _ _
      exact bU j u x (bZ _ _ _ _ hu) (bZ _ _ _ _ hx))
     have SF:(sizeOf el).run P w= .ok (z+1) w:=run_sizeOf dv
     refine cN (v:=.int .i64 h.k) (w':=w.setRow g (cur.toList.take off++us.take (h.k*(z+1))++cur.toList.drop (off+(us.take (h.k*(z+1))).length)).toArray) ?_ ⟨φ,dU gw (.rep (.val _)) ea⟩
     have Lv:Nat.min m dl=h.k:=RJ
     unfold execOp
     simp [ho,resolve,invoke,builtin,Builtin.copy_,run_underlying hu,hv,Gp.len,Lv,SF,dk,dJ,goInt]
    ·cases hr
   ·cases hr
  ·cases hr
 ·cases hr
end
inductive iv (S:Nat->Prop) (w:World):Value->AV->List Nat->Prop
 | rep {v:Value} {x:AV} (h:cz S w v x):iv S w v x []
 | nil (e:Nat):iv S w (.slice none 0 0) (.own e []) []
 | own (g l c e:Nat) (row:List AV) (cur:Array Value) (te:TypeId) (fr:Nat×Nat) (hg:w.heap[g]?=some (.cells cur te fr)) (hf:∀j,j<cur.size-> ¬(fr.1≤j∧j<fr.2)) (hl:row.length=e*l) (hc:l≤c) (hm:c≤maxLen) (hs:cur.size=e*c)
   (h:∀(j:Nat) u x,cur[j]?=some u->row[j]?=some x->cz S w u x):iv S w (.slice (some ⟨g,0,none⟩) l c) (.own e row) [g]
 | box (g:Nat) (row:List AV) (cur:Array Value) (te:TypeId) (fr:Nat×Nat) (hg:w.heap[g]?=some (.cells cur te fr)) (hf:∀j,j<cur.size-> ¬(fr.1≤j∧j<fr.2)) (hs:cur.size=row.length)
   (h:∀(j:Nat) u x,cur[j]?=some u->row[j]?=some x->cz S w u x):iv S w (.pointer (some ⟨g,0,none⟩)) (.box row) [g]
inductive ly (R:Value->AV->List Nat->Prop):List Value->List AV->List Nat->Prop
 | nil:ly R [] [] []
 | cons {v:Value} {x:AV} {vs:List Value} {xs:List AV} {O1 O2:List Nat} (h:R v x O1) (t:ly R vs xs O2):ly R (v::vs) (x::xs) (O1++O2)
def oG (S:Nat->Prop) (w:World) (v:Value) (x:AV) (O:List Nat):Prop:=iv S w v x O∨ ∃vs cs,v= .agg (List.toArray vs)∧x= .agg cs∧ly (iv S w) vs cs O
def tQ (S:Nat->Prop) (w:World) (v:Value) (x:AV) (O:List Nat):Prop:=oG S w v x O∨ ∃vs cs,v= .tuple (List.toArray vs)∧x= .cw cs∧ly (oG S w) vs cs O
theorem ly.imp {R R':Value->AV->List Nat->Prop} (hR:∀v x O,R v x O->R' v x O) {vs:List Value} {xs:List AV} {O:List Nat} (h:ly R vs xs O):ly R' vs xs O:=by
 induction h with
 | nil=>exact .nil
 | cons h _ ih=>exact .cons (hR _ _ _ h) ih
section
variable {S S':Nat->Prop} {w:World}
theorem iv.mono (hS:∀b,S b->S' b) {v:Value} {x:AV} {O:List Nat} (h:iv S w v x O):iv S' w v x O:=by
 cases h with
 | rep h=>exact .rep (h.mono fun b hb=>⟨hS b hb,rfl⟩)
 | nil e=>exact .nil e
 | own g l c e row cur te fr hg hf hl hc hm hs h=>exact .own g l c e row cur te fr hg hf hl hc hm hs fun j u x hu hx=>(h j u x hu hx).mono fun b hb=>⟨hS b hb,rfl⟩
 | box g row cur te fr hg hf hs h=>exact .box g row cur te fr hg hf hs fun j u x hu hx=>(h j u x hu hx).mono fun b hb=>⟨hS b hb,rfl⟩
theorem oG.mono (hS:∀b,S b->S' b) {v:Value} {x:AV} {O:List Nat} (h:oG S w v x O):oG S' w v x O:=by
 rcases h with h|⟨vs,cs,h1,h2,h3⟩
 ·exact .inl (h.mono hS)
 ·exact .inr ⟨vs,cs,h1,h2,h3.imp fun _ _ _ h=>h.mono hS⟩
theorem tQ.mono (hS:∀b,S b->S' b) {v:Value} {x:AV} {O:List Nat} (h:tQ S w v x O):tQ S' w v x O:=by
 rcases h with h|⟨vs,cs,h1,h2,h3⟩
 ·exact .inl (h.mono hS)
 ·exact .inr ⟨vs,cs,h1,h2,h3.imp fun _ _ _ h=>h.mono hS⟩
end
def bG (P:Program) (f:FuncId) (args:List AV) (r:AV):Prop :=
 ∀(w:World) (S:Nat->Prop) (vs:List Value),Good w->(∀b,S b->b<w.heap.size)->vs.length=args.length->(∀(j:Nat) v x,vs[j]?=some v->args[j]?=some x->cz S w v x) ->
  Calls P f vs.toArray w fun e w'=>∃v O,e= .returned v∧Below w.heap.size w w'∧O.Nodup∧(∀g∈O,w.heap.size≤g∧g<w'.heap.size)∧tQ (fun b=>S b∨(w.heap.size≤b∧b<w'.heap.size∧b ∉ O)) w' v r O
def kP (row:List AV):Prop:=∀x∈row,∃v,x= .val v
theorem aV (l:List UInt8):kP (aj l):=by
 intro x hx;simp only [aj,List.mem_map] at hx;obtain ⟨c,_,rfl⟩:=hx;exact ⟨_,rfl⟩
theorem fE (l:List UInt64):kP (ah l):=by
 intro x hx;simp only [ah,List.mem_map] at hx;obtain ⟨c,_,rfl⟩:=hx;exact ⟨_,rfl⟩
theorem xl (l:List Int):kP (au l):=by
 intro x hx;simp only [au,List.mem_map] at hx;obtain ⟨c,_,rfl⟩:=hx;exact ⟨_,rfl⟩
def xW:AV->Option (List Prop)
 | .val _=>some []
 | .nil=>some []
 | .own _ row=>some [kP row]
 | .box row=>some [kP row]
 | _=>none
def qR (f:AV->Option (List Prop)):List AV->Option (List Prop)
 | []=>some []
 | x::l=>match f x,qR f l with|some a,some b=>some (a++b)|_,_=>none
def vX:AV->Option (List Prop)
 | .agg cs=>qR xW cs
 | x=>xW x
def flat:AV->Option (List Prop)
 | .cw cs=>qR vX cs
 | x=>vX x
theorem bO {C D:List Prop}:bx (C++D)↔bx C∧bx D:=by
 induction C with
 | nil=>simp [bx]
 | cons p C ih=>simp only [List.cons_append,bx,ih,and_assoc]
section
variable {S S':Nat->Prop} {w:World}
theorem vY {v:Value} {x:AV} {O:List Nat} {C:List Prop} (hf:xW x=some C) (hC:bx C) (h:iv S w v x O):iv S' w v x O:=by
 cases h with
 | rep h=>cases h with
  | val v=>exact .rep (.val v)
  | nil=>exact .rep .nil
  | _=>cases hf
 | nil e=>exact .nil e
 | own g l c e row cur te fr hg gu hl hc hm hs h =>
  refine .own g l c e row cur te fr hg gu hl hc hm hs fun j u x hu hx=>?_
  have hv:kP row:=by injection hf with hf;subst hf;exact hC.1
  obtain ⟨v',rfl⟩:=hv x (List.mem_of_getElem? hx)
  have:=h j u _ hu hx
  cases this
  exact .val _
 | box g row cur te fr hg gu hs h =>
  refine .box g row cur te fr hg gu hs fun j u x hu hx=>?_
  have hv:kP row:=by injection hf with hf;subst hf;exact hC.1
  obtain ⟨v',rfl⟩:=hv x (List.mem_of_getElem? hx)
  have:=h j u _ hu hx
  cases this
  exact .val _
theorem B4 {R R':Value->AV->List Nat->Prop} {f:AV->Option (List Prop)} (hR:∀v x O C,f x=some C->bx C->R v x O->R' v x O) {vs:List Value} {xs:List AV} {O:List Nat} (h:ly R vs xs O):∀C,qR f xs=some C->bx C->ly R' vs xs O:=by
 induction h with
 | nil=>intro _ _ _;exact .nil
 | cons h _ ih =>
  intro C hf hC
  simp only [qR] at hf
  split at hf
  ·rename_i a b ha hb
   cases hf
   obtain ⟨h1,h2⟩:=bO.1 hC
   exact .cons (hR _ _ _ _ ha h1 h) (ih b hb h2)
  ·cases hf
theorem vW {v:Value} {x:AV} {O:List Nat} {C:List Prop} (hf:vX x=some C) (hC:bx C) (h:oG S w v x O):oG S' w v x O:=by
 rcases h with h|⟨vs,cs,h1,rfl,h3⟩
 ·by_cases hx:∃cs,x= .agg cs
  ·obtain ⟨cs,rfl⟩:=hx
   cases h with
   | rep h=>cases h with
    | agg vs _ hl h =>
     right
     refine ⟨vs,cs,rfl,rfl,?_⟩
     have key:∀(vs:List Value) (cs:List AV) (C:List Prop),vs.length=cs.length->(∀(j:Nat) v c,vs[j]?=some v->cs[j]?=some c->cz S w v c)->qR xW cs=some C->bx C->ly (iv S' w) vs cs []:=by
      intro vs cs
      induction cs generalizing vs with
      | nil=>intro C hl _ _ _;cases vs with|nil=>exact .nil|cons=>simp at hl
      | cons c cs ih =>
       intro C hl hr hf hC
       cases vs with
       | nil=>simp at hl
       | cons v vs =>
        simp only [qR] at hf
        split at hf
        ·rename_i a b ha hb
         cases hf
         obtain ⟨h1,h2⟩:=bO.1 hC
         exact ly.cons (O1:=[]) (O2:=[]) (vY ha h1 (.rep (hr 0 v c rfl rfl))) (ih vs b (by simpa using hl) (fun j v c hv hc=>hr (j+1) v c (by simpa using hv) (by simpa using hc)) hb h2)
        ·cases hf
     exact key vs cs C hl h hf hC
  ·have:vX x=xW x:=by
    cases x with
    | agg cs=>exact absurd ⟨cs,rfl⟩ hx
    | _=>rfl
   rw [this] at hf
   exact .inl (vY hf hC h)
 ·exact .inr ⟨vs,cs,h1,rfl,B4 (f:=xW) (R':=iv S' w) (fun _ _ _ _ a b c=>vY a b c) h3 C hf hC⟩
theorem ui {v:Value} {x:AV} {O:List Nat} {C:List Prop} (hf:flat x=some C) (hC:bx C) (h:tQ S w v x O):tQ S' w v x O:=by
 rcases h with h|⟨vs,cs,h1,rfl,h3⟩
 ·by_cases hx:∃cs,x= .cw cs
  ·obtain ⟨cs,rfl⟩:=hx
   rcases h with h|⟨vs,KM,h1,h2,h3⟩
   ·cases h with
    | rep h=>cases h with
     | cw vs _ hl h =>
      right
      refine ⟨vs,cs,rfl,rfl,?_⟩
      have key:∀(vs:List Value) (cs:List AV) (C:List Prop),vs.length=cs.length->(∀(j:Nat) v c,vs[j]?=some v->cs[j]?=some c->cz S w v c)->qR vX cs=some C->bx C->ly (oG S' w) vs cs []:=by
       intro vs cs
       induction cs generalizing vs with
       | nil=>intro C hl _ _ _;cases vs with|nil=>exact .nil|cons=>simp at hl
       | cons c cs ih =>
        intro C hl hr hf hC
        cases vs with
        | nil=>simp at hl
        | cons v vs =>
         simp only [qR] at hf
         split at hf
         ·rename_i a b ha hb
          cases hf
          obtain ⟨h1,h2⟩:=bO.1 hC
          exact ly.cons (O1:=[]) (O2:=[]) (vW ha h1 (.inl (.rep (hr 0 v c rfl rfl)))) (ih vs b (by simpa using hl) (fun j v c hv hc=>hr (j+1) v c (by simpa using hv) (by simpa using hc)) hb h2)
         ·cases hf
      exact key vs cs C hl h hf hC
   ·cases h2
  ·have:flat x=vX x:=by
    cases x with
    | cw cs=>exact absurd ⟨cs,rfl⟩ hx
    | _=>rfl
   rw [this] at hf
   exact .inl (vW hf hC h)
 ·exact .inr ⟨vs,cs,h1,rfl,B4 (f:=vX) (R':=oG S' w) (fun _ _ _ _ a b c=>vW a b c) h3 C hf hC⟩
end
def jD (id:Nat):AV->AV×List (Nat×Row)
 | .own e row=>(.ref id,[(id,⟨e,true,false,row⟩)])
 | .box row=>(.addr id 0,[(id,⟨1,false,true,row⟩)])
 | x=>(x,[])
def ib (f:Nat->AV->AV×List (Nat×Row)) (step:Nat):Nat->List AV->List AV×List (Nat×Row)
 | _,[]=>([],[])
 | id,x::l=>((f id x).1::(ib f step (id+step) l).1,(ib f step (id+step) l).2++(f id x).2)
def yb (id:Nat):AV->AV×List (Nat×Row)
 | .agg cs=>(.agg (ib jD 100000 (id+100000) cs).1,(ib jD 100000 (id+100000) cs).2)
 | x=>jD id x
def br (d:Nat):AV->AV×List (Nat×Row)
 | .cw cs=>(.cw (ib yb 1000 (d+1000) cs).1,(ib yb 1000 (d+1000) cs).2)
 | x=>yb d x
section
variable {S0:bn} {w0 w:World} {n:Nat} {a:Act}
def Ext (S0:bn) (w:World) (s s':AS) (φ b_:Nat->Option Nat) (O O':List Nat):Prop :=
 (∀i y,az s.H φ i=some y->az s'.H b_ i=some y)∧(∀b,aP S0 w φ O b->aP S0 w b_ O' b)
theorem Ext.den {s s':AS} {φ b_:Nat->Option Nat} {O O':List Nat} (h:Ext S0 w s s' φ b_ O O') {v:Value} {x:AV} (hd:Den (az s.H φ) (aP S0 w φ O) w v x):Den (az s'.H b_) (aP S0 w b_ O') w v x :=
 hd.mono h.1 (fun b hb=>⟨h.2 b hb,rfl⟩) (fun _ _ _ _ _=>rfl)
theorem Ext.trans {s s1 s2:AS} {φ iM kq:Nat->Option Nat} {O O1 O2:List Nat} (h:Ext S0 w s s1 φ iM O O1) (k:Ext S0 w s1 s2 iM kq O1 O2):Ext S0 w s s2 φ kq O O2 :=
 ⟨fun i y hi=>k.1 i y (h.1 i y hi),fun b hb=>k.2 b (h.2 b hb)⟩
def FF (S0:bn) (w0 w:World) (n:Nat) (a:Act) (R:(Nat->Prop)->Value->AV->List Nat->Prop) (f:Nat->AV->AV×List (Nat×Row)):Prop :=
 ∀(s:AS) (φ:Nat->Option Nat) (O1 O:List Nat) (v:Value) (x:AV) (id:Nat),aI S0 w0 n (O1++O) s a w φ->R (aP S0 w φ (O1++O)) v x O1->(O1++O).Nodup->(∀g∈O1,(w0.heap.size≤g∨S0.X g)∧g<w.heap.size)->(∀i∈(f id x).2.map (·.1),look s.H i=none∧i<1000000000000)->((f id x).2.map (·.1)).Nodup ->
  ∃ b_,aI S0 w0 n O ⟨s.F,(f id x).2++s.H⟩ a w b_∧Den (az ((f id x).2++s.H) b_) (aP S0 w b_ O) w v (f id x).1∧Ext S0 w s ⟨s.F,(f id x).2++s.H⟩ φ b_ (O1++O) O
theorem mS:FF S0 w0 w n a (fun S=>iv S w) jD:=by
 intro s φ O1 O v x id h hg iI mv gu _
 cases hg with
 | rep bU =>
  have hx:jD id x=(x,[]):=by
   cases bU<;>rfl
  rw [hx]
  exact ⟨φ,h,.rep bU,fun _ _ h=>h,fun _ h=>h⟩
 | nil e =>
  have hid:look s.H id=none:=(gu id (by simp [jD])).1
  have h1:=h.sI (id:=id) (r:=⟨e,true,false,[]⟩) hid rfl
  refine ⟨φ,h1,.cm id e ?_,fun i y hi=>?_,fun _ h=>h⟩
  ·show az ((id,⟨e,true,false,[]⟩)::s.H) φ id=_
   rw [bt (r:=⟨e,true,false,[]⟩) (by rw [aD,if_pos rfl]),h.only id hid];rfl
  ·obtain ⟨e',m,b⟩:=y
   obtain ⟨q,hl,h1,h2,h3⟩:=aS hi
   show az ((id,_)::s.H) φ i=_
   have cS:id≠i:=fun e=>by subst e;rw [hid] at hl;cases hl
   rw [bt (r:=q) (by rw [aD,if_neg cS,hl]),h1,h2,h3]
 | own g l c e row cur te fr hg hf hl hc hm hs bU =>
  have hid:look s.H id=none:=(gu id (by simp [jD])).1
  have QF:g ∉ O:=by
   have:=iI
   simp only [List.cons_append,List.nil_append,List.nodup_cons] at this
   exact this.1
  have h1:=aI.x_ (g:=g) (id:=id) (r:=⟨e,true,false,row⟩) h ⟨.inl (gu id (by simp [jD])).2,(mv g (by simp)).1⟩ (mv g (by simp)).2 QF hid ⟨cur,te,fr,hg,hf,by simp only [hl,hs];exact Nat.mul_le_mul_left _ hc,fun h=>(by cases h),fun j u x hu hx=>by show cz _ _ _ _;exact bU j u x hu hx⟩
  refine ⟨_,h1,.ref id e row.length g l c ?_ hl hc hm (by unfold aW;rw [hg];exact hs),fun i y hi=>?_,fun b hb=>(si (h.only id hid) b).1 hb⟩
  ·show az ((id,⟨e,true,false,row⟩)::s.H) _ id=_
   rw [bt (r:=⟨e,true,false,row⟩) (by rw [aD,if_pos rfl])]
   unfold fM;rw [if_pos rfl]
  ·obtain ⟨e',m,b⟩:=y
   obtain ⟨q,hl,h1,h2,h3⟩:=aS hi
   show az ((id,_)::s.H) _ i=_
   have cS:id≠i:=fun e=>by subst e;rw [hid] at hl;cases hl
   rw [bt (r:=q) (by rw [aD,if_neg cS,hl]),h1,h2]
   unfold fM;rw [if_neg (Ne.symm cS),h3]
 | box g row cur te fr hg hf hs bU =>
  have hid:look s.H id=none:=(gu id (by simp [jD])).1
  have QF:g ∉ O:=by
   have:=iI
   simp only [List.cons_append,List.nil_append,List.nodup_cons] at this
   exact this.1
  have h1:=aI.x_ (g:=g) (id:=id) (r:=⟨1,false,true,row⟩) h ⟨.inl (gu id (by simp [jD])).2,(mv g (by simp)).1⟩ (mv g (by simp)).2 QF hid ⟨cur,te,fr,hg,hf,by simp only [hs];exact Nat.le_refl _,fun _=>hs,fun j u x hu hx=>by show Den _ _ _ _ _;exact .rep (bU j u x hu hx)⟩
  refine ⟨_,h1,.addr id 0 1 row.length g ?_,fun i y hi=>?_,fun b hb=>(si (h.only id hid) b).1 hb⟩
  ·show az ((id,⟨1,false,true,row⟩)::s.H) _ id=_
   rw [bt (r:=⟨1,false,true,row⟩) (by rw [aD,if_pos rfl])]
   unfold fM;rw [if_pos rfl]
  ·obtain ⟨e',m,b⟩:=y
   obtain ⟨q,hl,h1,h2,h3⟩:=aS hi
   show az ((id,_)::s.H) _ i=_
   have cS:id≠i:=fun e=>by subst e;rw [hid] at hl;cases hl
   rw [bt (r:=q) (by rw [aD,if_neg cS,hl]),h1,h2]
   unfold fM;rw [if_neg (Ne.symm cS),h3]
theorem kQ {R:(Nat->Prop)->Value->AV->List Nat->Prop} (U8:∀S S' v x O,(∀b,S b->S' b)->R S v x O->R S' v x O) {f:Nat->AV->AV×List (Nat×Row)} (hf:FF S0 w0 w n a R f) (step:Nat):∀(xs:List AV) (vs:List Value) (s:AS) (φ:Nat->Option Nat) (O1 O:List Nat) (id:Nat),aI S0 w0 n (O1++O) s a w φ->ly (R (aP S0 w φ (O1++O))) vs xs O1->(O1++O).Nodup->(∀g∈O1,(w0.heap.size≤g∨S0.X g)∧g<w.heap.size)->(∀i∈(ib f step id xs).2.map (·.1),look s.H i=none∧i<1000000000000)->((ib f step id xs).2.map (·.1)).Nodup ->
  ∃ b_,aI S0 w0 n O ⟨s.F,(ib f step id xs).2++s.H⟩ a w b_∧vs.length=(ib f step id xs).1.length∧(∀(j:Nat) v c,vs[j]?=some v->(ib f step id xs).1[j]?=some c->Den (az ((ib f step id xs).2++s.H) b_) (aP S0 w b_ O) w v c)∧Ext S0 w s ⟨s.F,(ib f step id xs).2++s.H⟩ φ b_ (O1++O) O
 | [],vs,s,φ,O1,O,id,h,hg,iI,mv,gu,hn=>by
  cases hg
  exact ⟨φ,h,rfl,fun j v c hv=>by simp at hv,fun _ _ h=>h,fun _ h=>h⟩
 | x::xs,vs,s,φ,O1,O,id,h,hg,iI,mv,gu,hn=>by
  cases hg with
  | cons hx ht =>
   rename_i v vs Oa Ob
   rw [List.append_assoc] at h iI hx ht
   simp only [ib,List.map_append] at gu hn ⊢
   obtain ⟨iM,h1,Hn,ML⟩:=hf s φ Oa (Ob++O) v x id h hx iI (fun g hg=>mv g (by simp [hg])) (fun i hi=>gu i (by simp [hi])) (List.nodup_append.1 hn).2.1
   have SV:(Ob++O).Nodup:=(List.nodup_append.1 iI).2.1
   obtain ⟨kq,h2,Dj,Av,LJ⟩:=kQ U8 hf step xs vs ⟨s.F,(f id x).2++s.H⟩ iM Ob O (id+step) h1 (ht.imp fun v x O hR=>U8 _ _ v x O (fun b hb=>ML.2 b hb) hR) SV (fun g hg=>mv g (by simp [hg])) (fun i hi=>⟨by
    rw [bL]
    have h3:look (f id x).2 i=none:=by
     have gr:i ∉ (f id x).2.map (·.1):=fun hm=>(List.nodup_append.1 hn).2.2 i hi i hm rfl
     have key:∀(l:List (Nat×Row)),i ∉ l.map (·.1)->look l i=none:=by
      intro l
      induction l with
      | nil=>intro _;rfl
      | cons p l ih =>
       intro hm
       obtain ⟨k,r⟩:=p
       simp only [List.map_cons,List.mem_cons,not_or] at hm
       rw [aD,if_neg (Ne.symm hm.1),ih hm.2]
     exact key _ gr
    rw [h3,(gu i (by simp [hi])).1];rfl,(gu i (by simp [hi])).2⟩) (List.nodup_append.1 hn).1
   have e1:(ib f step (id+step) xs).2++((f id x).2++s.H)=((ib f step (id+step) xs).2++(f id x).2)++s.H:=by rw [List.append_assoc]
   rw [e1] at h2 Av LJ
   rw [List.append_assoc Oa Ob O]
   refine ⟨kq,h2,by simp [Dj],fun j v' c hv hc=>?_,ML.trans LJ⟩
   cases j with
   | zero=>simp at hv hc;subst hv;subst hc;exact LJ.den Hn
   | succ j=>exact Av j v' c (by simpa using hv) (by simpa using hc)
theorem rF:FF S0 w0 w n a (fun S=>oG S w) yb:=by
 intro s φ O1 O v x id h hg iI mv gu hn
 rcases hg with hg|⟨vs,cs,rfl,rfl,hL⟩
 ·by_cases hx:∃cs,x= .agg cs
  ·obtain ⟨cs,rfl⟩:=hx
   cases hg with
   | rep bU=>cases bU with
    | agg vs _ hl bU =>
     have hL:ly (iv (aP S0 w φ ([]++O)) w) vs cs []:=by
      have key:∀(vs:List Value) (cs:List AV),vs.length=cs.length->(∀(j:Nat) v c,vs[j]?=some v->cs[j]?=some c->cz (aP S0 w φ ([]++O)) w v c)->ly (iv (aP S0 w φ ([]++O)) w) vs cs []:=by
       intro vs cs
       induction cs generalizing vs with
       | nil=>intro hl _;cases vs with|nil=>exact .nil|cons=>simp at hl
       | cons c cs ih =>
        intro hl hr
        cases vs with
        | nil=>simp at hl
        | cons v vs=>exact ly.cons (O1:=[]) (O2:=[]) (.rep (hr 0 v c rfl rfl)) (ih vs (by simpa using hl) fun j v c hv hc=>hr (j+1) v c (by simpa using hv) (by simpa using hc))
      exact key vs cs hl bU
     obtain ⟨b_,h1,h2,h3,h4⟩:=kQ (R:=fun S=>iv S w) (fun S S' v x O hS h=>h.mono hS) mS 100000 cs vs s φ [] O (id+100000) h hL iI mv gu hn
     exact ⟨b_,h1,.agg vs _ h2 h3,h4⟩
  ·have:yb id x=jD id x:=by
    cases x with
    | agg cs=>exact absurd ⟨cs,rfl⟩ hx
    | _=>rfl
   rw [this] at gu hn ⊢
   exact mS s φ O1 O v x id h hg iI mv gu hn
 ·obtain ⟨b_,h1,h2,h3,h4⟩:=kQ (R:=fun S=>iv S w) (fun S S' v x O hS h=>h.mono hS) mS 100000 cs vs s φ O1 O (id+100000) h hL iI mv gu hn
  exact ⟨b_,h1,.agg vs _ h2 h3,h4⟩
theorem rE:FF S0 w0 w n a (fun S=>tQ S w) br:=by
 intro s φ O1 O v x id h hg iI mv gu hn
 rcases hg with hg|⟨vs,cs,rfl,rfl,hL⟩
 ·by_cases hx:∃cs,x= .cw cs
  ·obtain ⟨cs,rfl⟩:=hx
   rcases hg with hg|⟨vs,KM,h1,h2,h3⟩
   ·cases hg with
    | rep bU=>cases bU with
     | cw vs _ hl bU =>
      have hL:ly (oG (aP S0 w φ ([]++O)) w) vs cs []:=by
       have key:∀(vs:List Value) (cs:List AV),vs.length=cs.length->(∀(j:Nat) v c,vs[j]?=some v->cs[j]?=some c->cz (aP S0 w φ ([]++O)) w v c)->ly (oG (aP S0 w φ ([]++O)) w) vs cs []:=by
        intro vs cs
        induction cs generalizing vs with
        | nil=>intro hl _;cases vs with|nil=>exact .nil|cons=>simp at hl
        | cons c cs ih =>
         intro hl hr
         cases vs with
         | nil=>simp at hl
         | cons v vs=>exact ly.cons (O1:=[]) (O2:=[]) (.inl (.rep (hr 0 v c rfl rfl))) (ih vs (by simpa using hl) fun j v c hv hc=>hr (j+1) v c (by simpa using hv) (by simpa using hc))
       exact key vs cs hl bU
      obtain ⟨b_,h1,h2,h3,h4⟩:=kQ (R:=fun S=>oG S w) (fun S S' v x O hS h=>h.mono hS) rF 1000 cs vs s φ [] O (id+1000) h hL iI mv gu hn
      exact ⟨b_,h1,.cw vs _ h2 h3,h4⟩
   ·cases h2
  ·have:br id x=yb id x:=by
    cases x with
    | cw cs=>exact absurd ⟨cs,rfl⟩ hx
    | _=>rfl
   rw [this] at gu hn ⊢
   exact rF s φ O1 O v x id h hg iI mv gu hn
 ·obtain ⟨b_,h1,h2,h3,h4⟩:=kQ (R:=fun S=>oG S w) (fun S S' v x O hS h=>h.mono hS) rF 1000 cs vs s φ O1 O (id+1000) h hL iI mv gu hn
  exact ⟨b_,h1,.cw vs _ h2 h3,h4⟩
def aR:AS->List Nat->AS
 | s,[]=>s
 | s,i::l=>aR (ck i s) l
theorem jb:∀(l:List Nat) (s:AS) (φ:Nat->Option Nat) (O:List Nat),aI S0 w0 n O s a w φ-> ∃ b_,aI S0 w0 n O (aR s l) a w b_∧(∀b,aP S0 w φ O b->aP S0 w b_ O b)∧(∀i,look s.H i=none∨i∈l->look (aR s l).H i=none)
 | [],s,φ,O,h=>⟨φ,h,fun _ h=>h,fun i hi=>hi.resolve_right (by simp)⟩
 | i::l,s,φ,O,h=>by
  have h1:aI S0 w0 n O (ck i s) a w (erase φ i):=by
   cases bW:φ i with
   | none=>exact h.jJ i O (by rw [bW])
   | some g=>exact (h.jJ i (g::O) (by rw [bW])).vV
  obtain ⟨b_,h2,h3,h4⟩:=jb l _ _ _ h1
  refine ⟨b_,h2,fun b hb=>h3 b ⟨hb.1,hb.2.1,fun j hj=>?_,hb.2.2.2⟩,fun j hj=>h4 j ?_⟩
  ·unfold erase at hj
   split at hj
   ·cases hj
   ·exact hb.2.2.1 j hj
  ·by_cases e:j=i
   ·subst e;exact .inl (du j)
   ·rcases hj with hj|hj
    ·exact .inl (qE i j hj)
    ·rcases List.mem_cons.1 hj with h|h
     ·exact absurd h e
     ·exact .inr h
theorem oC:∀(O' O:List Nat) (s:AS) (φ:Nat->Option Nat),aI S0 w0 n O s a w φ->(∀g∈O',w.heap.size≤g)->aI S0 w0 n (O'++O) s a w φ
 | [],O,s,φ,h,_=>h
 | g::O',O,s,φ,h,hg=>(oC O' O s φ h fun g hm=>hg g (by simp [hm])).await g (hg g (by simp))
end
def nodupB:List Nat->Bool
 | []=>true
 | i::l=>match l.any (Nat.beq i),Nat.ble i 999999999999 with|false,true=>nodupB l|_,_=>false
theorem gT:∀ {l:List Nat},nodupB l=true->l.Nodup
 | [],_=>List.nodup_nil
 | i::l,h=>by
  simp only [nodupB] at h
  split at h
  ·rename_i hn _
   rw [List.nodup_cons]
   refine ⟨fun hm=>?_,gT h⟩
   have:l.any (Nat.beq i)=true:=List.any_eq_true.2 ⟨i,hm,Nat.beq_refl i⟩
   rw [hn] at this;cases this
  ·cases h
theorem oM:∀ {l:List Nat},nodupB l=true-> ∀i∈l,i<1000000000000
 | [],_,i,h=>by cases h
 | j::l,h,i,hi=>by
  simp only [nodupB] at h
  split at h
  ·rename_i _ hb
   rcases List.mem_cons.1 hi with rfl|hi
   ·have:=Nat.le_of_ble_eq_true hb;omega
   ·exact oM h i hi
  ·cases h
def j9 (s:AS):List AV->Option (List AV)
 | []=>some []
 | x::l=>match view s x,j9 s l with|some y,some m=>some (y::m)|_,_=>none
def yW:AV->Bool
 | .agg cs=>eh cs
 | .arr _=>true
 | x=>iC x
def lX:List AV->Bool
 | []=>true
 | x::l=>match yW x with|true=>lX l|false=>false
def gV (P : Program) (f : FuncId) : Bool := match P.funcs[f]? with | some fn => fn.body.isSome && !(fn.name == "runtime.NumGoroutine") | none => false
theorem pR {P:Program} {f:FuncId} (h:gV P f=true) (args:Array Value) (w:World):(callFunc f args).run P w= .ok (.enter f args) w:=by
 unfold gV at h
 split at h
 ·rename_i fn hf
  simp only [Bool.and_eq_true,Bool.not_eq_true',Option.isSome_iff_exists] at h
  obtain ⟨⟨c,hc⟩,hn⟩:=h
  have tG : ¬ fn.name = "runtime.NumGoroutine" := by simpa using hn
  simp [callFunc,hf,hc,tG]
 ·cases h
def callee (s:AS):Callee->Option FuncId
 | .value (.func f)=>some f
 | .value x=>(match bq s x with| .val (.func (.func f) ⟨[]⟩ ⟨[]⟩)=>some f|_=>none)
 | _=>none
def su (P:Program) (n:Nat) (s:AS) (d:Option Nat) (c:Callee) (args:List Operand) (h:Hint):Option (AS×List Prop) :=
 match callee s c,h.av with
 | some f,some r=>(match gV P f with
  | true=>(match h.b with
   | true=>(match j9 s (args.map (bq s)),flat r,d with
    | some vs,some C,some d=>(match nodupB ((br d r).2.map (·.1)),fO n ⟨(aR s ((br d r).2.map (·.1))).F,(br d r).2++(aR s ((br d r).2.map (·.1))).H⟩ (some d) (br d r).1 with
     | true,some s'=>some (s',bG P f vs r::C)
     | _,_=>none)
    | some vs,some C,none=>some (s,bG P f vs r::C)
    | _,_,_=>none)
   | false=>(match gf s ((args.map (bq s)).flatMap pd) with
    | some s1=>(match lX (args.map (bq s1)),d with
     | true,some d=>(match nodupB ((br d r).2.map (·.1)),fO n ⟨(aR s1 ((br d r).2.map (·.1))).F,(br d r).2++(aR s1 ((br d r).2.map (·.1))).H⟩ (some d) (br d r).1 with
      | true,some s'=>some (s',[bG P f (args.map (bq s1)) r])
      | _,_=>none)
     | true,none=>some (s1,[bG P f (args.map (bq s1)) r])
     | _,_=>none)
    | none=>none))
  | false=>none)
 | _,_=>none
section
variable {P:Program} {n:Nat} {s:AS} {o:Oper} {h:Hint} {q:AS×List Prop}
theorem ma {S0:bn} {w0 w:World} {O:List Nat} {a:Act} {φ:Nat->Option Nat} (hs:aI S0 w0 n O s a w φ):∀(xs:List Operand) (ys:List AV),j9 s (xs.map (bq s))=some ys->ys.length=xs.length∧ ∀(j:Nat) v y,(xs.map a.eval)[j]?=some v->ys[j]?=some y->cz (fun b=>b<w.heap.size) w v y
 | [],ys,h=>by cases h;exact ⟨rfl,fun j v y hv=>by simp at hv⟩
 | x::xs,ys,h=>by
  simp only [List.map_cons,j9] at h
  split at h
  ·rename_i y m hy hm
   cases h
   obtain ⟨h1,h2⟩:=ma hs xs m hm
   refine ⟨by simp [h1],fun j v y' hv Sv=>?_⟩
   cases j with
   | zero=>simp at hv Sv;subst hv;subst Sv;exact yj hs (hs.bq x) hy
   | succ j=>exact h2 j v y' (by simpa using hv) (by simpa using Sv)
  ·cases h
theorem oI {I:Info} {S:Nat->Prop} {w:World} {v:Value} {x:AV} (hd:Den I S w v x) (hr:yW x=true):cz S w v x:=by
 by_cases hc:∃cs,x= .agg cs
 ·obtain ⟨cs,rfl⟩:=hc
  obtain ⟨vs,rfl,hl,hd⟩:=kD hd
  exact .agg vs cs hl fun j v c hv hc=>(e_ (hd j v c hv hc) (iR hr hc)).1
 ·by_cases ha:∃cs,x= .arr cs
  ·obtain ⟨cs,rfl⟩:=ha
   obtain ⟨vs,rfl,hl,hd⟩:=q7 hd
   exact .arr vs cs hl hd
  ·have:yW x=iC x:=by
    cases x with
    | agg cs=>exact absurd ⟨cs,rfl⟩ hc
    | arr cs=>exact absurd ⟨cs,rfl⟩ ha
    | _=>rfl
   rw [this] at hr
   exact (e_ hd hr).1
theorem ml:∀ {l:List AV} {j:Nat} {x:AV},lX l=true->l[j]?=some x->yW x=true
 | [],j,x,_,h=>by simp at h
 | y::l,j,x,hp,h=>by
  simp only [lX] at hp
  split at hp
  ·rename_i hy
   cases j with
   | zero=>simp at h;subst h;exact hy
   | succ j=>exact ml hp (by simpa using h)
  ·cases hp
theorem iX {S0:bn} {w0 w:World} {O:List Nat} {a:Act} {φ:Nat->Option Nat} (hs:aI S0 w0 n O s a w φ) {c:Callee} {f:FuncId} (hc:callee s c=some f) {xs:Array Operand} {ts:Array TypeId} (ho:o.op= .call ⟨c,xs,ts⟩) (hE:gV P f=true) :
  (execOp a.eval o).run P w= .ok (.enter f (xs.map a.eval)) w:=by
 have key:∃x,c= .value x∧a.eval x= .func (.func f) #[] #[]:=by
  unfold callee at hc
  split at hc
  ·cases hc;exact ⟨_,rfl,rfl⟩
  ·rename_i x _
   split at hc
   ·rename_i f' he
    cases hc
    exact ⟨x,rfl,bF (he ▸ hs.bq x)⟩
   ·cases hc
  ·cases hc
 obtain ⟨x,rfl,hx⟩:=key
 unfold execOp
 simp [ho,resolve,hx,Deferred.ofValue,invoke,pR hE]
theorem wG {S0:bn} {w0 w:World} {a:Act} {φ:Nat->Option Nat} {Q:Exit->Act->World->Prop} (hs:aI S0 w0 n [] s a w φ) {f:FuncId} {us:List Value} (bT:(execOp a.eval o).run P w= .ok (.enter f us.toArray) w) {S:Nat->Prop} {args:List AV} {r:AV} (nc:bG P f args r) (hS:∀b,S b->b<w.heap.size) (hl:us.length=args.length) (gZ:∀(j:Nat) v x,us[j]?=some v->args[j]?=some x->cz S w v x)
  (hG:∀w' v O,Below w.heap.size w w'->(∀g∈O,w.heap.size≤g∧g<w'.heap.size)->tQ (fun b=>S b∨(w.heap.size≤b∧b<w'.heap.size∧b ∉ O)) w' v r O->tQ (aP S0 w' φ O) w' v r O) {s':AS}
  (hd:(∃d,o.dst=some d∧nodupB ((br d r).2.map (·.1))=true∧fO n ⟨(aR s ((br d r).2.map (·.1))).F,(br d r).2++(aR s ((br d r).2.map (·.1))).H⟩ (some d) (br d r).1=some s')∨(o.dst=none∧s'=s)) :
  o.wp P a w (fun a' w'=>ie S0 w0 n s' a' w') Q:=by
 unfold Oper.wp
 rw [bT]
 have la:=nc w S us hs.da.ng hS hl gZ
 refine la.mono ?_
 rintro en w' ⟨v,O,rfl,hb,iI,mv,r8⟩
 show ie S0 w0 n s' (a.put o.dst v) w'
 have r8:=hG w' v O hb mv r8
 have h1:=oC O [] s φ hs (fun g hg=>(mv g hg).1)
 rw [List.append_nil] at h1
 have h2:=h1.xn (fun g hg=>.inl (Nat.le_trans hs.da.size (mv g hg).1)) hb.os hb.tape hb.output hb.size (fun b Hp _=>hb.block b Hp)
 rcases hd with ⟨d,hd,tF,ea⟩|⟨hd,rfl⟩
 ·obtain ⟨kq,h3,hF,BG⟩:=jb ((br d r).2.map (·.1)) s φ O h2
  have WV:aI S0 w0 n (O++ []) (aR s ((br d r).2.map (·.1))) a w' kq:=by rw [List.append_nil];exact h3
  obtain ⟨wQ,h4,h5,h6⟩:=rE (aR s ((br d r).2.map (·.1))) kq O [] v r d WV (by rw [List.append_nil];exact r8.mono hF) (by rw [List.append_nil];exact iI) (fun g hg=>⟨.inl (Nat.le_trans hs.da.size (mv g hg).1),(mv g hg).2⟩) (fun i hi=>⟨BG i (.inr hi),oM tF i hi⟩) (gT tF)
  rw [hd]
  exact ⟨wQ,dU h4 h5 ea⟩
 ·rw [hd]
  have key:∀(O:List Nat),aI S0 w0 n O s' a w' φ->aI S0 w0 n [] s' a w' φ:=by
   intro O
   induction O with
   | nil=>exact fun h=>h
   | cons g O ih=>exact fun h=>ih h.vV
  have h3:=key O h2
  exact ⟨φ,⟨h3.j8,h3.ke,h3.da,h3.cC,h3.rows,h3.only,h3.inj,h3.cY,h3.apart,h3.new⟩⟩
theorem ur {S0:bn} {w0 w:World} {a:Act} {φ:Nat->Option Nat} {Q:Exit->Act->World->Prop} (hs:aI S0 w0 n [] s a w φ) {f:FuncId} {xs:Array Operand} (bT:(execOp a.eval o).run P w= .ok (.enter f (xs.map a.eval)) w) {S:Nat->Prop} {args:List AV} {r:AV} (nc:bG P f args r) (hS:∀b,S b->b<w.heap.size) (hl:args.length=xs.toList.length) (gZ:∀(j:Nat) v x,(xs.toList.map a.eval)[j]?=some v->args[j]?=some x->cz S w v x)
  (hG:∀w' v O,Below w.heap.size w w'->(∀g∈O,w.heap.size≤g∧g<w'.heap.size)->tQ (fun b=>S b∨(w.heap.size≤b∧b<w'.heap.size∧b ∉ O)) w' v r O->tQ (aP S0 w' φ O) w' v r O) {s':AS}
  (hd:(∃d,o.dst=some d∧nodupB ((br d r).2.map (·.1))=true∧fO n ⟨(aR s ((br d r).2.map (·.1))).F,(br d r).2++(aR s ((br d r).2.map (·.1))).H⟩ (some d) (br d r).1=some s')∨(o.dst=none∧s'=s)) :
  o.wp P a w (fun a' w'=>ie S0 w0 n s' a' w') Q:=by
 have e:(xs.toList.map a.eval).toArray=xs.map a.eval:=by apply Array.ext';simp
 exact wG hs (us:=xs.toList.map a.eval) (by rw [e];exact bT) nc hS (by simp [hl]) gZ hG hd
theorem xZ {c:Callee} {xs:Array Operand} {ts:Array TypeId} (ho:o.op= .call ⟨c,xs,ts⟩) (hr:su P n s o.dst c xs.toList h=some q):mK P n s o q.1 q.2:=by
 intro hC S0 w0 a w Q ⟨φ,hs⟩
 unfold su at hr
 split at hr
 ·rename_i f r hc _
  split at hr
  ·rename_i hE
   split at hr
   ·
    split at hr
    ·rename_i vs C d hv wN hd
     split at hr
     ·rename_i s' hn hp
      cases hr
      obtain ⟨nc,hC⟩:=hC
      obtain ⟨hl,bU⟩:=ma hs _ _ hv
      exact ur hs (iX hs hc ho hE) nc (S:=fun b=>b<w.heap.size) (fun _ h=>h) hl bU (fun w' v O _ _ hg=>ui wN hC hg) (.inl ⟨d,hd,hn,hp⟩)
     ·cases hr
    ·rename_i vs C hv wN hd
     cases hr
     obtain ⟨nc,hC⟩:=hC
     obtain ⟨hl,bU⟩:=ma hs _ _ hv
     exact ur hs (iX hs hc ho hE) nc (S:=fun b=>b<w.heap.size) (fun _ h=>h) hl bU (fun w' v O _ _ hg=>ui wN hC hg) (.inr ⟨hd,rfl⟩)
    ·cases hr
   ·split at hr
    ·rename_i s1 I1
     obtain ⟨iM,gG⟩:=gb _ _ _ _ I1 hs
     have Us:lX (xs.toList.map (bq s1))=true-> ∀(j:Nat) v x,(xs.toList.map a.eval)[j]?=some v->(xs.toList.map (bq s1))[j]?=some x->cz (aP S0 w iM []) w v x:=by
      intro w6 j v x hv hx
      have NL:=ml w6 hx
      rw [List.getElem?_map] at hv hx
      cases hj:xs.toList[j]? with
      | none=>rw [hj] at hv;cases hv
      | some y =>
       rw [hj] at hv hx
       injection hv with hv;injection hx with hx;subst hv;subst hx
       exact oI (gG.bq y) NL
     have hG:∀w' v O,Below w.heap.size w w'->(∀g∈O,w.heap.size≤g∧g<w'.heap.size)->tQ (fun b=>aP S0 w iM [] b∨(w.heap.size≤b∧b<w'.heap.size∧b ∉ O)) w' v r O->tQ (aP S0 w' iM O) w' v r O:=by
      intro w' v O hb mv hg
      refine hg.mono fun b ld=>?_
      rcases ld with ld|⟨h1,h2,h3⟩
      ·exact ⟨by have:=ld.1;have:=hb.size;omega,fun hm=>by have:=(mv b hm).1;have:=ld.1;omega,ld.2.2⟩
      ·exact ⟨h2,h3,fun i hi=>by have:=(gG.cY i b hi).2;omega,gG.new b (.inl (by have:=gG.da.size;omega))⟩
     split at hr
     ·rename_i d w6 hd
      split at hr
      ·rename_i s' hn hp
       cases hr
       obtain ⟨nc,-⟩:=hC
       exact ur gG (iX hs hc ho hE) nc (fun b hb=>hb.1) (by simp) (Us w6) hG (.inl ⟨d,hd,hn,hp⟩)
      ·cases hr
     ·rename_i w6 hd
      cases hr
      obtain ⟨nc,-⟩:=hC
      exact ur gG (iX hs hc ho hE) nc (fun b hb=>hb.1) (by simp) (Us w6) hG (.inr ⟨hd,rfl⟩)
     ·cases hr
    ·cases hr
  ·cases hr
 ·cases hr
def CX (s:AS) (id:Nat):AS :=
 match look s.H id with
 | some ⟨e,false,f,cs⟩=>(match eh cs with|true=>⟨s.F,(id,⟨e,true,f,cs⟩)::cR s.H id⟩|false=>s)
 | _=>s
theorem Ga {S0:bn} {w0 w:World} {O:List Nat} {a:Act} {φ:Nat->Option Nat} (id:Nat) (hs:aI S0 w0 n O s a w φ):aI S0 w0 n O (CX s id) a w φ:=by
 unfold CX
 split
 ·rename_i e f cs hr
  split
  ·rename_i hp
   have l3:∀i,look ((id,(⟨e,true,f,cs⟩:Row))::cR s.H id) i=if id=i then some ⟨e,true,f,cs⟩ else look s.H i:=by
    intro i
    rw [aD,bH]
    by_cases e:id=i<;>simp [e]
   have hI:az ((id,(⟨e,true,f,cs⟩:Row))::cR s.H id) φ=az s.H φ:=by
    funext i
    unfold az
    rw [l3]
    by_cases e:id=i
    ·subst e;rw [if_pos rfl,hr];rfl
    ·rw [if_neg e]
   refine ⟨hs.j8,hs.ke,hs.da,fun i av hi=>?_,fun i q hq=>?_,fun i hi=>?_,hs.inj,hs.cY,hs.apart,hs.new⟩
   ·simp only [hI];exact hs.cC i av hi
   ·simp only [hI]
    simp only [l3] at hq
    by_cases e:id=i
    ·subst e
     rw [if_pos rfl] at hq;injection hq with hq;subst hq
     have aQ:=hs.rows id _ hr
     unfold bJ at aQ ⊢
     cases bW:φ id with
     | none=>rw [bW] at aQ;exact aQ
     | some g =>
      rw [bW] at aQ
      obtain ⟨cur,te,fr,hg,hf,hl,nr,hc⟩:=aQ
      exact ⟨cur,te,fr,hg,hf,hl,nr,fun j u x hu hx=>(e_ (hc j u x hu hx) (iR hp hx)).1⟩
    ·rw [if_neg e] at hq;exact hs.rows i q hq
   ·simp only [l3] at hi
    by_cases e:id=i
    ·rw [if_pos e] at hi;cases hi
    ·rw [if_neg e] at hi;exact hs.only i hi
  ·exact hs
 ·exact hs
def rO:AS->List Nat->AS
 | s,[]=>s
 | s,i::l=>rO (CX s i) l
theorem qv {S0:bn} {w0 w:World} {O:List Nat} {a:Act} {φ:Nat->Option Nat}:∀(l:List Nat) (s:AS),aI S0 w0 n O s a w φ->aI S0 w0 n O (rO s l) a w φ
 | [],_,h=>h
 | i::l,_,h=>qv l _ (Ga i h)
def DF (n:Nat) (s:AS) (d f:Nat) (xs:List Operand):Option (AS×List Prop) :=
 match gf (rO s ((xs.map (bq s)).flatMap pd)) ((xs.map (bq s)).flatMap pd) with
 | some s1=>(match lX (xs.map (bq s1)),fO n s1 (some d) (.mI f (xs.map (bq s1))) with|true,some s'=>some (s',[])|_,_=>none)
 | none=>none
theorem mW {S0:bn} {w0 w:World} {O:List Nat} {a:Act} {φ:Nat->Option Nat} (hs:aI S0 w0 n O s a w φ) {xs:List Operand} (h:lX (xs.map (bq s))=true) (j:Nat) (v:Value) (x:AV) (hv:(xs.map a.eval)[j]?=some v) (hx:(xs.map (bq s))[j]?=some x):cz (aP S0 w φ O) w v x:=by
 have NL:=ml h hx
 rw [List.getElem?_map] at hv hx
 cases hj:xs[j]? with
 | none=>rw [hj] at hv;cases hv
 | some y =>
  rw [hj] at hv hx
  injection hv with hv;injection hx with hx;subst hv;subst hx
  exact oI (hs.bq y) NL
theorem GL {d f:Nat} {xs:List Operand} (ho:o.op= .makeFunc (.func f) ⟨[]⟩ ⟨xs⟩) (hd:o.dst=some d) (hr:DF n s d f xs=some q):mK P n s o q.1 q.2:=by
 intro hC S0 w0 a w Q ⟨φ,hs⟩
 unfold DF at hr
 split at hr
 ·rename_i s1 I1
  obtain ⟨iM,gG⟩:=gb _ _ _ _ I1 (qv _ _ hs)
  split at hr
  ·rename_i s' w6 hp
   cases hr
   have bT:(execOp a.eval o).run P w= .ok (.value (.func (.func f) #[] (xs.map a.eval).toArray)) w:=by
    unfold execOp;simp [ho,Instr.makeFunc]
   refine cN bT ⟨iM,?_⟩
   rw [hd]
   exact dU gG (.rep (.mI f _ _ (by simp) (mW gG w6))) hp
  ·cases hr
 ·cases hr
def z8 (P:Program) (n:Nat) (s:AS) (d:Option Nat) (c:Callee) (args:List Operand) (h:Hint):Option (AS×List Prop) :=
 match c,h.av,gf s ((args.map (bq s)).flatMap pd) with
 | .value x,some r,some s1=>(match bq s1 x with
  | .mI f l8=>(match gV P f,lX (args.map (bq s1)),d with
   | true,true,some d=>(match nodupB ((br d r).2.map (·.1)),fO n ⟨(aR s1 ((br d r).2.map (·.1))).F,(br d r).2++(aR s1 ((br d r).2.map (·.1))).H⟩ (some d) (br d r).1 with
    | true,some s'=>some (s',[bG P f (args.map (bq s1)++l8) r])
    | _,_=>none)
   | true,true,none=>some (s1,[bG P f (args.map (bq s1)++l8) r])
   | _,_,_=>none)
  | _=>none)
 | _,_,_=>none
theorem EI {S:Nat->Prop} {I:Info} {w:World} {v:Value} {f:Nat} {cs:List AV} (h:Den I S w v (.mI f cs)):∃vs:List Value,v= .func (.func f) #[] vs.toArray∧vs.length=cs.length∧ ∀(j:Nat) v c,vs[j]?=some v->cs[j]?=some c->cz S w v c:=by
 cases h with|rep h=>cases h with|mI f vs cs hl h=>exact ⟨vs,rfl,hl,h⟩
theorem uW {S:Nat->Prop} {w:World} {vs us:List Value} {xs ys:List AV} (hl:vs.length=xs.length) (h1:∀(j:Nat) v x,vs[j]?=some v->xs[j]?=some x->cz S w v x) (h2:∀(j:Nat) v x,us[j]?=some v->ys[j]?=some x->cz S w v x) (j:Nat) (v:Value) (x:AV) (hv:(vs++us)[j]?=some v) (hx:(xs++ys)[j]?=some x):cz S w v x:=by
 rcases Nat.lt_or_ge j vs.length with h|h
 ·rw [List.getElem?_append_left h] at hv
  rw [List.getElem?_append_left ag] at hx
  exact h1 j v x hv hx
 ·rw [List.getElem?_append_right h] at hv
  rw [List.getElem?_append_right ag,←hl] at hx
  exact h2 _ v x hv hx
theorem DQ {c:Callee} {xs:Array Operand} {ts:Array TypeId} (ho:o.op= .call ⟨c,xs,ts⟩) (hr:z8 P n s o.dst c xs.toList h=some q):mK P n s o q.1 q.2:=by
 intro hC S0 w0 a w Q ⟨φ,hs⟩
 unfold z8 at hr
 split at hr
 ·rename_i x r s1 _ I1
  obtain ⟨iM,gG⟩:=gb _ _ _ _ I1 hs
  split at hr
  ·rename_i f l8 fi
   have dx:=gG.bq x
   rw [fi] at dx
   obtain ⟨cv,hv,TC,LM⟩:=EI dx
   have bT:gV P f=true->(execOp a.eval o).run P w= .ok (.enter f (xs.toList.map a.eval++cv).toArray) w:=by
    intro hE
    have e:(xs.toList.map a.eval++cv).toArray= #[]++xs.map a.eval++cv.toArray:=by apply Array.ext';simp
    rw [e]
    unfold execOp
    simp [ho,resolve,hv,Deferred.ofValue,invoke,pR hE]
   have hG:∀w' v O,Below w.heap.size w w'->(∀g∈O,w.heap.size≤g∧g<w'.heap.size)->tQ (fun b=>aP S0 w iM [] b∨(w.heap.size≤b∧b<w'.heap.size∧b ∉ O)) w' v r O->tQ (aP S0 w' iM O) w' v r O:=by
    intro w' v O hb mv hg
    refine hg.mono fun b ld=>?_
    rcases ld with ld|⟨h1,h2,h3⟩
    ·exact ⟨by have:=ld.1;have:=hb.size;omega,fun hm=>by have:=(mv b hm).1;have:=ld.1;omega,ld.2.2⟩
    ·exact ⟨h2,h3,fun i hi=>by have:=(gG.cY i b hi).2;omega,gG.new b (.inl (by have:=gG.da.size;omega))⟩
   have hlen:(xs.toList.map a.eval++cv).length=(xs.toList.map (bq s1)++l8).length:=by simp [TC]
   split at hr
   ·rename_i d hE w6 hd
    split at hr
    ·rename_i s' hn hp
     cases hr
     exact wG gG (bT hE) hC.1 (fun b hb=>hb.1) hlen (uW (by simp) (mW gG w6) LM) hG (.inl ⟨d,hd,hn,hp⟩)
    ·cases hr
   ·rename_i hE w6 hd
    cases hr
    exact wG gG (bT hE) hC.1 (fun b hb=>hb.1) hlen (uW (by simp) (mW gG w6) LM) hG (.inr ⟨hd,rfl⟩)
   ·cases hr
  ·cases hr
 ·cases hr
end
end Go.Proofs.YtjgbhhnghedgdaaGreatDoor
