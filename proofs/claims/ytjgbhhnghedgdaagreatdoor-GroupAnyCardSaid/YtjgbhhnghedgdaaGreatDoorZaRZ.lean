import Derived.Test.YtjgbhhnghedgdaaGreatDoorZaRQ
import Derived.Test.YtjgbhhnghedgdaaGreatDoorZaRT
set_option linter.all false
namespace Go.Proofs.YtjgbhhnghedgdaaGreatDoor
open Go.RowKit
theorem bh {α:Sort _}{a b:α}(h:a=b:=by kernel_rfl):a=b:=h
structure Wq where
 p:Prop
 h:p
def yI {p:Prop} (h:p):Wq:=⟨p,h⟩
def yB (p:Prop) (h:p):Wq:=⟨p,h⟩
def yR {T:Type} (x:T):Wq:=⟨x=x,rfl⟩
def yF (p:Prop) [Decidable p] (h:¬p:=by omega):Wq:=⟨decide p=false,decide_eq_false h⟩
def yT (p:Prop) [Decidable p] (h:p:=by omega):Wq:=⟨decide p=true,decide_eq_true h⟩
def yO (p:Prop) (h:p:=by omega):Wq:=⟨p,h⟩
def yN (x:Int) (h1: -9223372036854775808≤x:=by omega) (h2:x≤9223372036854775807:=by omega):Wq:=⟨ai (IntKind.i64.wrap x)=ai x,dG h1 h2⟩
def yJ (a b:Int) (h:Value.int .i64 a=Value.int .i64 b):Wq:=⟨_,h⟩
def yK (a b:Int) (h:Value.int .u64 a=Value.int .u64 b):Wq:=⟨_,h⟩
def yL (a b:Nat) (h:Nat.ble a b=true:=by kernel_rfl):Wq:=⟨a≤b,Nat.le_of_ble_eq_true h⟩
def yS (p:Prop) (h:p:=by simp_all):Wq:=⟨p,h⟩
theorem yc {a b:Int} (h:a=b):AV.val (.int .i64 a)=AV.val (.int .i64 b):=congrArg (fun n=>AV.val (.int .i64 n)) h
theorem yd {a b:Int} (h:a=b):AV.val (.int .u64 a)=AV.val (.int .u64 b):=congrArg (fun n=>AV.val (.int .u64 n)) h
def yA {T:Type} [Inhabited T] (f:T->List AV) (l:List T) (k j:Nat) (hk:k<l.length:=by omega) (he:∀x,(f x).length=(f default).length:=by exact fun _=>rfl) (hj:(f (l.getD k default))[j]?=some ((f (l.getD k default)).getD j .dead):=by rfl):Wq:=⟨(af f l)[k*(f default).length+j]?=some ((f (l.getD k default)).getD j .dead),om he hk hj⟩
def yu {T:Type} [Inhabited T] (f:T->List AV) (l:List T) (k j z:Nat) (hk:k<l.length:=by omega) (he:∀x,(f x).length=(f default).length:=by exact fun _=>rfl) (hz:Nat.ble (j+z) (f default).length=true:=by rfl):Wq:=⟨((af f l).drop (k*(f default).length+j)).take z=((f (l.getD k default)).drop j).take z,Ji he hk (Nat.le_of_ble_eq_true hz) rfl⟩
def yV (x:AV):Hint:={av:=some x}
def yH (l:List (Nat×Hint)):pB:={hs:=l}
def yM (n:Nat) (w:Wq):List Wq:=List.replicate n w
def yg (l:List Nat):List (Nat×Hint):=l.map fun i=>(i,{g:=false})
def Gv (l:List Wq):List Prop:=l.map Wq.p
theorem ia:∀l:List Wq,bx (Gv l)
 | []=>trivial
 | w::l=>⟨w.h,ia l⟩
section
variable {P:Program} {n:Nat} {c:Code} {Q:Exit->AS->Prop} {s:AS}
theorem zP (k:Nat) (l:List pB) (wl:List Wk) (ws:List Wq) (h:bf P n (qn k c) Q (pN (ob P n l wl c s))) (hk:Nat.beq l.length k=true:=by kernel_rfl) (he:oY (ob P n l wl c s)=some (Gv ws):=by kernel_rfl):bf P n c Q s:=bf.tQ k l wl hk he (ia ws) h
theorem zQ (k:Nat) (l:List pB) (ws:List Wq) (h:bf P n (qn k c) Q (pN (kP P n l c s))) (hk:Nat.beq l.length k=true:=by kernel_rfl) (he:oY (kP P n l c s)=some (Gv ws):=by kernel_rfl):bf P n c Q s:=bf.Ho k l hk he (ia ws) h
theorem zX (x:pB) (ws:List Wq) (h:Q .normal (pN (se P n c x s))) (he:oY (se P n c x s)=some (Gv ws):=by kernel_rfl):bf P n c Q s:=bf.Rc x he (ia ws) h
theorem zS (h:bf P n (il c) (rL (bf P n (dH c) Q) Q) s) (hc:AE c=true:=by kernel_rfl):bf P n c Q s:=bf.seq hc h
theorem zB (id:Nat) (h:bf P n (ft c) (Od id Q) s) (hc:JG c=some id:=by kernel_rfl):bf P n c Q s:=bf.block hc h
theorem zK (h:Q .normal s) (hc:Cq c=true:=by kernel_rfl):bf P n c Q s:=bf.skip hc h
theorem zR (h:Q .ret s) (hc:H3 c=true:=by kernel_rfl):bf P n c Q s:=bf.ret hc h
theorem zE (id:Nat) (h:Q (.exit id) s) (hc:Mf c=some id:=by kernel_rfl):bf P n c Q s:=bf.exit hc h
theorem zT (t:Nat) (h:bf P n (oF c) Q s) (hc:lf c=some (.tmp t):=by kernel_rfl) (hx:bp s (.tmp t)= .val (.bool true):=by kernel_rfl):bf P n c Q s:=bf.Jw hc hx rfl h
theorem zF (t:Nat) (h:bf P n (oQ c) Q s) (hc:lf c=some (.tmp t):=by kernel_rfl) (hx:bp s (.tmp t)= .val (.bool false):=by kernel_rfl):bf P n c Q s:=bf.Jx hc hx rfl h
theorem gT (t:Nat) (p:Prop) [Decidable p] (h:bf P n (oF c) Q s) (hp:p:=by omega) (hc:lf c=some (.tmp t):=by kernel_rfl) (hx:bp s (.tmp t)= .val (.bool (decide p)):=by kernel_rfl):bf P n c Q s:=bf.Jw hc hx (decide_eq_true hp) h
theorem dp (t:Nat) (p:Prop) [Decidable p] (h:bf P n (oQ c) Q s) (hp:¬p:=by omega) (hc:lf c=some (.tmp t):=by kernel_rfl) (hx:bp s (.tmp t)= .val (.bool (decide p)):=by kernel_rfl):bf P n c Q s:=bf.Jx hc hx (decide_eq_false hp) h
theorem du (t:Nat) (b:Bool) (hb:b=true) (h:bf P n (oF c) Q s) (hc:lf c=some (.tmp t):=by kernel_rfl) (hx:bp s (.tmp t)= .val (.bool b):=by kernel_rfl):bf P n c Q s:=bf.Jw hc hx hb h
theorem bj (t:Nat) (b:Bool) (hb:b=false) (h:bf P n (oQ c) Q s) (hc:lf c=some (.tmp t):=by kernel_rfl) (hx:bp s (.tmp t)= .val (.bool b):=by kernel_rfl):bf P n c Q s:=bf.Jx hc hx hb h
theorem zD (t:Nat) (p:Prop) [Decidable p] (ht:p->bf P n (oF c) Q s) (hf:¬p->bf P n (oQ c) Q s) (hc:lf c=some (.tmp t):=by kernel_rfl) (hx:bp s (.tmp t)= .val (.bool (decide p)):=by kernel_rfl):bf P n c Q s:=bf.Qo hc hx ht hf
theorem zN {α:Type} [BEq α] [LawfulBEq α] (t:Nat) (u v:α) (ht:u≠v->bf P n (oF c) Q s) (hf:u=v->bf P n (oQ c) Q s) (hc:lf c=some (.tmp t):=by kernel_rfl) (hx:bp s (.tmp t)= .val (.bool (u != v)):=by kernel_rfl):bf P n c Q s:=bf.Qn hc hx ht hf
theorem zL {ι:Type} (I:ι->AS) (Inv:ι->Prop) (m:ι->Nat) (x0:ι) (h0:Inv x0) (hw:bS s (I x0)) (h:∀x,Inv x->bf P n (ft c) (Round I Inv m Q x) (I x)) (hc:H4 c=true:=by kernel_rfl):bf P n c Q s:=bf.loop I Inv m hc x0 h0 hw h
end
theorem zO {P:Program} {f:FuncId} {fn:Func} {args:List AV} {r:AV} (hf:P.funcs[f]?=some fn) (n:Nat) (h:bf P n (dt fn) (vO P fn.results.toList r) ⟨kV 0 args,[]⟩) (hb:fn.body.isSome=true:=by kernel_rfl) (hn:fn.ntmps=n:=by kernel_rfl) (iC:Nat.ble args.length n=true:=by kernel_rfl):bK P f args r:=bK.HE hf hb n hn iC h
theorem zV {P:Program} {rs:List ResultVar} {r:AV} {s:AS} (ws:List Wq) (he:nL P s rs r=some (Gv ws):=by kernel_rfl):vO P rs r .ret s:=vO.Kt he (ia ws)
theorem zW {s s2:AS} (l:List Wk) (he:wk l s=some s2:=by kernel_rfl):bS s s2:=bS.Uh l he
def MK:AV->List Prop
 | .val v=>[v=v]
 | .own _ row=>[row=row]
 | .sl _ row=>[row=row]
 | .arr cs=>[cs=cs]
 | .box row=>[row=row]
 | _=>[]
def Ky:AV->List Prop
 | .agg rs=>(rs.map MK).flatten
 | r=>MK r
def MJ:AV->List Prop
 | .bq rs=>(rs.map Ky).flatten
 | r=>Ky r
theorem tV {f:AV->List Prop} (h:∀x,bx (f x)):∀l:List AV,bx (l.map f).flatten
 | []=>trivial
 | x::l=>bQ.2 ⟨h x,tV h l⟩
theorem Ak (x:AV):bx (MK x):=by cases x<;>first|exact ⟨rfl,trivial⟩|exact trivial
theorem Aj (x:AV):bx (Ky x):=by
 unfold Ky
 split
 · exact tV Ak _
 · exact Ak _
theorem Hq (x:AV):bx (MJ x):=by
 unfold MJ
 split
 · exact tV Aj _
 · exact Aj _
theorem bV {P:Program} {rs:List ResultVar} {r:AV} {s:AS} (he:nL P s rs r=some (MJ r):=by kernel_rfl):vO P rs r .ret s:=vO.Kt he (Hq r)
theorem a_ {P:Program} {n:Nat} {c:Code} {Q1:AS->Prop} {Q:Exit->AS->Prop} {s:AS} (h:Q1 s) (hc:Cq c=true:=by kernel_rfl):bf P n c (rL Q1 Q) s:=bf.skip hc (ak h)
theorem dk {P:Program} {n:Nat} {c:Code} {Q1:AS->Prop} {Q:Exit->AS->Prop} {s:AS} (h:Q .ret s) (hc:H3 c=true:=by kernel_rfl):bf P n c (rL Q1 Q) s:=bf.ret hc (aI h)
theorem zq {P:Program} {n:Nat} {c:Code} {Q:Exit->AS->Prop} {s:AS} (h:bf P n (qn 1 c) Q (pN (kP P n [{}] c s))) (he:oY (kP P n [{}] c s)=some []:=by kernel_rfl):bf P n c Q s:=bf.Ho 1 [{}] (by kernel_rfl) he trivial h
theorem eK {s s2:AS} (l:List Wk) (fs hs:List Nat) (ws:List Wq) (he:ND l fs hs s s2=some (s2,Gv ws):=by kernel_rfl):bS s s2:=bS.Ui l fs hs he (ia ws)
theorem zG {P:Program} {rs:List ResultVar} {r:AV} {H':List (Nat×Row)} {s:AS} (l:List Wk) (ws:List Wq) (hw:QB l s=true:=by kernel_rfl) (he:nK P (QA l s) rs r H'=some (Gv ws):=by kernel_rfl):lh P rs r H' .ret s:=lh.Kt l (DM hw) he (ia ws)
theorem m5 {P:Program} {f:FuncId} {fn:Func} {args:List AV} {H H':List (Nat×Row)} {r:AV} (hf:P.funcs[f]?=some fn) (n:Nat) (h:bf P n (dt fn) (lh P fn.results.toList r H') ⟨kV 0 args,H⟩) (hb:fn.body.isSome=true:=by kernel_rfl) (hn:fn.ntmps=n:=by kernel_rfl) (iC:Nat.ble args.length n=true:=by kernel_rfl):ga P f args H r H':=ga.HE hf hb n hn iC h
theorem y9 {P:Program} {n:Nat} {c:Code} {Q:Exit->AS->Prop} {s:AS} (T:Nat) (Ws:List Nat) (hs:List (Nat×Hint)) (ws:List Wq) (h:Q .normal (pN (rq P n T Ws hs c s))) (he:oY (rq P n T Ws hs c s)=some (Gv ws):=by kernel_rfl):bf P n c Q s:=bf.OZ T Ws hs (iR he) (ia ws) h
theorem Qz {P:Program} {n:Nat} {c:Code} {Q:Exit->AS->Prop} {s:AS} (T:Nat) (Ks:List Nat) (hs:List (Nat×Hint)) (ws:List Wq) (h:Q .normal (pN (rr P n T Ks hs c s))) (he:oY (rr P n T Ks hs c s)=some (Gv ws):=by kernel_rfl):bf P n c Q s:=bf.O3 T Ks hs (iR he) (ia ws) h
theorem zA {P:Program} {n:Nat} {c:Code} {Q:Exit->AS->Prop} {s:AS} (T:Nat) (Ws Fs:List Nat) (hs:List (Nat×Hint)) (ws:List Wq) (h:Q .normal (pN (yj P n T Ws Fs hs c s))) (he:oY (yj P n T Ws Fs hs c s)=some (Gv ws):=by kernel_rfl):bf P n c Q s:=bf.Re T Ws Fs hs (iR he) (ia ws) h
theorem SZ {P:Program} {n:Nat} {c:Code} {Q:Exit->AS->Prop} {s:AS} (M q:Nat) (Ws Fs:List Nat) (hs:List (Nat×Hint)) (ws:List Wq) (h:Q .normal (pN (MH (mH P n M q Ws Fs hs c s)))) (hx:LU (mH P n M q Ws Fs hs c s)=LS (mH P n M q Ws Fs hs c s):=by kernel_rfl) (he:oY (MH (mH P n M q Ws Fs hs c s))=some (Gv ws):=by kernel_rfl):bf P n c Q s:=bf.Rd M q Ws Fs hs hx (iR he) (ia ws) h
theorem mO {P:Program} {n:Nat} {ops l:List Oper} {s s':AS} (hs:List (Nat×Hint)) (wl:List Wk) (ws:List Wq) (he:NG P n ops hs wl l s=some (s',Gv ws):=by kernel_rfl):eJ P n ops l s s':=eJ.part hs wl he (ia ws)
end Go.Proofs.YtjgbhhnghedgdaaGreatDoor
