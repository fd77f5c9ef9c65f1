import Derived.Test.YtjgbhhnghedgdaaGreatDoorZbRQ
import Derived.Test.YtjgbhhnghedgdaaGreatDoorZbRT
set_option linter.all false
namespace Go.Proofs.YtjgbhhnghedgdaaGreatDoor
open Go.RowKit
theorem bk {α:Sort _}{a b:α}(h:a=b:=by kernel_rfl):a=b:=h
structure Wq where
 p:Prop
 h:p
def yI {p:Prop} (h:p):Wq:=⟨p,h⟩
def yB (p:Prop) (h:p):Wq:=⟨p,h⟩
def yR {T:Type} (x:T):Wq:=⟨x=x,rfl⟩
def yF (p:Prop) [Decidable p] (h:¬p:=by omega):Wq:=⟨decide p=false,decide_eq_false h⟩
def yT (p:Prop) [Decidable p] (h:p:=by omega):Wq:=⟨decide p=true,decide_eq_true h⟩
def yO (p:Prop) (h:p:=by omega):Wq:=⟨p,h⟩
def yN (x:Int) (h1: -9223372036854775808≤x:=by omega) (h2:x≤9223372036854775807:=by omega):Wq:=⟨ai (IntKind.i64.wrap x)=ai x,dK h1 h2⟩
def yJ (a b:Int) (h:Value.int .i64 a=Value.int .i64 b):Wq:=⟨_,h⟩
def yK (a b:Int) (h:Value.int .u64 a=Value.int .u64 b):Wq:=⟨_,h⟩
def yL (a b:Nat) (h:Nat.ble a b=true:=by kernel_rfl):Wq:=⟨a≤b,Nat.le_of_ble_eq_true h⟩
def yV (x:AV):Hint:={av:=some x}
def yH (l:List (Nat×Hint)):pB:={hs:=l}
def yM (n:Nat) (w:Wq):List Wq:=List.replicate n w
def yg (l:List Nat):List (Nat×Hint):=l.map fun i=>(i,{g:=false})
def Gn (l:List Wq):List Prop:=l.map Wq.p
theorem ic:∀l:List Wq,bz (Gn l)
 | []=>trivial
 | w::l=>⟨w.h,ic l⟩
section
variable {P:Program} {n:Nat} {c:Code} {Q:Exit->AS->Prop} {s:AS}
theorem zP (k:Nat) (l:List pB) (wl:List Wk) (ws:List Wq) (h:bf P n (qn k c) Q (pN (oc P n l wl c s))) (hk:Nat.beq l.length k=true:=by kernel_rfl) (he:oX (oc P n l wl c s)=some (Gn ws):=by kernel_rfl):bf P n c Q s:=bf.tR k l wl hk he (ic ws) h
theorem zQ (k:Nat) (l:List pB) (ws:List Wq) (h:bf P n (qn k c) Q (pN (kS P n l c s))) (hk:Nat.beq l.length k=true:=by kernel_rfl) (he:oX (kS P n l c s)=some (Gn ws):=by kernel_rfl):bf P n c Q s:=bf.Hg k l hk he (ic ws) h
theorem zX (x:pB) (ws:List Wq) (h:Q .normal (pN (se P n c x s))) (he:oX (se P n c x s)=some (Gn ws):=by kernel_rfl):bf P n c Q s:=bf.QZ x he (ic ws) h
theorem zS (h:bf P n (iq c) (rM (bf P n (dL c) Q) Q) s) (hc:Ar c=true:=by kernel_rfl):bf P n c Q s:=bf.seq hc h
theorem zB (id:Nat) (h:bf P n (fz c) (NT id Q) s) (hc:Jv c=some id:=by kernel_rfl):bf P n c Q s:=bf.block hc h
theorem zK (h:Q .normal s) (hc:Cj c=true:=by kernel_rfl):bf P n c Q s:=bf.skip hc h
theorem zR (h:Q .ret s) (hc:HV c=true:=by kernel_rfl):bf P n c Q s:=bf.ret hc h
theorem zE (id:Nat) (h:Q (.exit id) s) (hc:L3 c=some id:=by kernel_rfl):bf P n c Q s:=bf.exit hc h
theorem zT (t:Nat) (h:bf P n (oE c) Q s) (hc:lh c=some (.tmp t):=by kernel_rfl) (hx:bq s (.tmp t)= .val (.bool true):=by kernel_rfl):bf P n c Q s:=bf.Jn hc hx rfl h
theorem zF (t:Nat) (h:bf P n (oP c) Q s) (hc:lh c=some (.tmp t):=by kernel_rfl) (hx:bq s (.tmp t)= .val (.bool false):=by kernel_rfl):bf P n c Q s:=bf.Jo hc hx rfl h
theorem gU (t:Nat) (p:Prop) [Decidable p] (h:bf P n (oE c) Q s) (hp:p:=by omega) (hc:lh c=some (.tmp t):=by kernel_rfl) (hx:bq s (.tmp t)= .val (.bool (decide p)):=by kernel_rfl):bf P n c Q s:=bf.Jn hc hx (decide_eq_true hp) h
theorem dt (t:Nat) (p:Prop) [Decidable p] (h:bf P n (oP c) Q s) (hp:¬p:=by omega) (hc:lh c=some (.tmp t):=by kernel_rfl) (hx:bq s (.tmp t)= .val (.bool (decide p)):=by kernel_rfl):bf P n c Q s:=bf.Jo hc hx (decide_eq_false hp) h
theorem dB (t:Nat) (b:Bool) (hb:b=true) (h:bf P n (oE c) Q s) (hc:lh c=some (.tmp t):=by kernel_rfl) (hx:bq s (.tmp t)= .val (.bool b):=by kernel_rfl):bf P n c Q s:=bf.Jn hc hx hb h
theorem bn (t:Nat) (b:Bool) (hb:b=false) (h:bf P n (oP c) Q s) (hc:lh c=some (.tmp t):=by kernel_rfl) (hx:bq s (.tmp t)= .val (.bool b):=by kernel_rfl):bf P n c Q s:=bf.Jo hc hx hb h
theorem zD (t:Nat) (p:Prop) [Decidable p] (ht:p->bf P n (oE c) Q s) (hf:¬p->bf P n (oP c) Q s) (hc:lh c=some (.tmp t):=by kernel_rfl) (hx:bq s (.tmp t)= .val (.bool (decide p)):=by kernel_rfl):bf P n c Q s:=bf.Qb hc hx ht hf
theorem zN {α:Type} [BEq α] [LawfulBEq α] (t:Nat) (u v:α) (ht:u≠v->bf P n (oE c) Q s) (hf:u=v->bf P n (oP c) Q s) (hc:lh c=some (.tmp t):=by kernel_rfl) (hx:bq s (.tmp t)= .val (.bool (u != v)):=by kernel_rfl):bf P n c Q s:=bf.Qa hc hx ht hf
theorem zL {ι:Type} (I:ι->AS) (Inv:ι->Prop) (m:ι->Nat) (x0:ι) (h0:Inv x0) (hw:bS s (I x0)) (h:∀x,Inv x->bf P n (fz c) (Round I Inv m Q x) (I x)) (hc:HW c=true:=by kernel_rfl):bf P n c Q s:=bf.loop I Inv m hc x0 h0 hw h
end
theorem zO {P:Program} {f:FuncId} {fn:Func} {args:List AV} {r:AV} (hf:P.funcs[f]?=some fn) (n:Nat) (h:bf P n (dw fn) (vN P fn.results.toList r) ⟨kX 0 args,[]⟩) (hb:fn.body.isSome=true:=by kernel_rfl) (hn:fn.ntmps=n:=by kernel_rfl) (iD:Nat.ble args.length n=true:=by kernel_rfl):bL P f args r:=bL.Hx hf hb n hn iD h
theorem zV {P:Program} {rs:List ResultVar} {r:AV} {s:AS} (ws:List Wq) (he:nM P s rs r=some (Gn ws):=by kernel_rfl):vN P rs r .ret s:=vN.Kd he (ic ws)
theorem zW {s s2:AS} (l:List Wk) (he:wk l s=some s2:=by kernel_rfl):bS s s2:=bS.T4 l he
def Mx:AV->List Prop
 | .val v=>[v=v]
 | .own _ row=>[row=row]
 | .sl _ row=>[row=row]
 | .arr cs=>[cs=cs]
 | .box row=>[row=row]
 | _=>[]
def Ki:AV->List Prop
 | .agg rs=>(rs.map Mx).flatten
 | r=>Mx r
def Mw:AV->List Prop
 | .bt rs=>(rs.map Ki).flatten
 | r=>Ki r
theorem tW {f:AV->List Prop} (h:∀x,bz (f x)):∀l:List AV,bz (l.map f).flatten
 | []=>trivial
 | x::l=>bP.2 ⟨h x,tW h l⟩
theorem z_ (x:AV):bz (Mx x):=by cases x<;>first|exact ⟨rfl,trivial⟩|exact trivial
theorem z8 (x:AV):bz (Ki x):=by
 unfold Ki
 split
 · exact tW z_ _
 · exact z_ _
theorem Hi (x:AV):bz (Mw x):=by
 unfold Mw
 split
 · exact tW z8 _
 · exact z8 _
theorem bR {P:Program} {rs:List ResultVar} {r:AV} {s:AS} (he:nM P s rs r=some (Mw r):=by kernel_rfl):vN P rs r .ret s:=vN.Kd he (Hi r)
theorem a_ {P:Program} {n:Nat} {c:Code} {Q1:AS->Prop} {Q:Exit->AS->Prop} {s:AS} (h:Q1 s) (hc:Cj c=true:=by kernel_rfl):bf P n c (rM Q1 Q) s:=bf.skip hc (aq h)
theorem dn {P:Program} {n:Nat} {c:Code} {Q1:AS->Prop} {Q:Exit->AS->Prop} {s:AS} (h:Q .ret s) (hc:HV c=true:=by kernel_rfl):bf P n c (rM Q1 Q) s:=bf.ret hc (aI h)
theorem zq {P:Program} {n:Nat} {c:Code} {Q:Exit->AS->Prop} {s:AS} (h:bf P n (qn 1 c) Q (pN (kS P n [{}] c s))) (he:oX (kS P n [{}] c s)=some []:=by kernel_rfl):bf P n c Q s:=bf.Hg 1 [{}] (by kernel_rfl) he trivial h
theorem eQ {s s2:AS} (l:List Wk) (fs hs:List Nat) (ws:List Wq) (he:Nq l fs hs s s2=some (s2,Gn ws):=by kernel_rfl):bS s s2:=bS.T5 l fs hs he (ic ws)
theorem zG {P:Program} {rs:List ResultVar} {r:AV} {H':List (Nat×Row)} {s:AS} (l:List Wk) (ws:List Wq) (hw:Qn l s=true:=by kernel_rfl) (he:nL P (Qm l s) rs r H'=some (Gn ws):=by kernel_rfl):lk P rs r H' .ret s:=lk.Kd l (DE hw) he (ic ws)
theorem m6 {P:Program} {f:FuncId} {fn:Func} {args:List AV} {H H':List (Nat×Row)} {r:AV} (hf:P.funcs[f]?=some fn) (n:Nat) (h:bf P n (dw fn) (lk P fn.results.toList r H') ⟨kX 0 args,H⟩) (hb:fn.body.isSome=true:=by kernel_rfl) (hn:fn.ntmps=n:=by kernel_rfl) (iD:Nat.ble args.length n=true:=by kernel_rfl):dh P f args H r H':=dh.Hx hf hb n hn iD h
theorem y8 {P:Program} {n:Nat} {c:Code} {Q:Exit->AS->Prop} {s:AS} (T:Nat) (Ws:List Nat) (hs:List (Nat×Hint)) (ws:List Wq) (h:Q .normal (pN (rq P n T Ws hs c s))) (he:oX (rq P n T Ws hs c s)=some (Gn ws):=by kernel_rfl):bf P n c Q s:=bf.OL T Ws hs (iR he) (ic ws) h
theorem Ql {P:Program} {n:Nat} {c:Code} {Q:Exit->AS->Prop} {s:AS} (T:Nat) (Ks:List Nat) (hs:List (Nat×Hint)) (ws:List Wq) (h:Q .normal (pN (rr P n T Ks hs c s))) (he:oX (rr P n T Ks hs c s)=some (Gn ws):=by kernel_rfl):bf P n c Q s:=bf.OM T Ks hs (iR he) (ic ws) h
theorem zA {P:Program} {n:Nat} {c:Code} {Q:Exit->AS->Prop} {s:AS} (T:Nat) (Ws Fs:List Nat) (hs:List (Nat×Hint)) (ws:List Wq) (h:Q .normal (pN (ya P n T Ws Fs hs c s))) (he:oX (ya P n T Ws Fs hs c s)=some (Gn ws):=by kernel_rfl):bf P n c Q s:=bf.Q2 T Ws Fs hs (iR he) (ic ws) h
theorem SJ {P:Program} {n:Nat} {c:Code} {Q:Exit->AS->Prop} {s:AS} (M q:Nat) (Ws Fs:List Nat) (hs:List (Nat×Hint)) (ws:List Wq) (h:Q .normal (pN (Mu (mI P n M q Ws Fs hs c s)))) (hx:LF (mI P n M q Ws Fs hs c s)=LD (mI P n M q Ws Fs hs c s):=by kernel_rfl) (he:oX (Mu (mI P n M q Ws Fs hs c s))=some (Gn ws):=by kernel_rfl):bf P n c Q s:=bf.Q0 M q Ws Fs hs hx (iR he) (ic ws) h
theorem mP {P:Program} {n:Nat} {ops l:List Oper} {s s':AS} (hs:List (Nat×Hint)) (wl:List Wk) (ws:List Wq) (he:Ns P n ops hs wl l s=some (s',Gn ws):=by kernel_rfl):eN P n ops l s s':=eN.part hs wl he (ic ws)
end Go.Proofs.YtjgbhhnghedgdaaGreatDoor
