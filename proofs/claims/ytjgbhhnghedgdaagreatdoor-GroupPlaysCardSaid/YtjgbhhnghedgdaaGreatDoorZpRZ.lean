import Derived.Test.YtjgbhhnghedgdaaGreatDoorZpRQ
import Derived.Test.YtjgbhhnghedgdaaGreatDoorZpRT
set_option linter.all false
namespace Go.Proofs.YtjgbhhnghedgdaaGreatDoor
open Go.RowKit
theorem bD {α:Sort _}{a b:α}(h:a=b:=by kernel_rfl):a=b:=h
structure Wq where
 p:Prop
 h:p
def yI {p:Prop} (h:p):Wq:=⟨p,h⟩
def yB (p:Prop) (h:p):Wq:=⟨p,h⟩
def yR {T:Type} (x:T):Wq:=⟨x=x,rfl⟩
def yF (p:Prop) [Decidable p] (h:¬p:=by omega):Wq:=⟨decide p=false,decide_eq_false h⟩
def yT (p:Prop) [Decidable p] (h:p:=by omega):Wq:=⟨decide p=true,decide_eq_true h⟩
def yO (p:Prop) (h:p:=by omega):Wq:=⟨p,h⟩
def yN (x:Int) (h1: -9223372036854775808≤x:=by omega) (h2:x≤9223372036854775807:=by omega):Wq:=⟨ai (IntKind.i64.wrap x)=ai x,d_ h1 h2⟩
def yJ (a b:Int) (h:Value.int .i64 a=Value.int .i64 b):Wq:=⟨_,h⟩
def yK (a b:Int) (h:Value.int .u64 a=Value.int .u64 b):Wq:=⟨_,h⟩
def yL (a b:Nat) (h:Nat.ble a b=true:=by kernel_rfl):Wq:=⟨a≤b,Nat.le_of_ble_eq_true h⟩
def yS (p:Prop) (h:p:=by simp_all):Wq:=⟨p,h⟩
theorem yc {a b:Int} (h:a=b):AV.val (.int .i64 a)=AV.val (.int .i64 b):=congrArg (fun n=>AV.val (.int .i64 n)) h
theorem yd {a b:Int} (h:a=b):AV.val (.int .u64 a)=AV.val (.int .u64 b):=congrArg (fun n=>AV.val (.int .u64 n)) h
def yA {T:Type} [Inhabited T] (f:T->List AV) (l:List T) (k j:Nat) (hk:k<l.length:=by omega) (he:∀x,(f x).length=(f default).length:=by exact fun _=>rfl) (hj:(f (l.getD k default))[j]?=some ((f (l.getD k default)).getD j .dead):=by rfl):Wq:=⟨(af f l)[k*(f default).length+j]?=some ((f (l.getD k default)).getD j .dead),nZ he hk hj⟩
def yu {T:Type} [Inhabited T] (f:T->List AV) (l:List T) (k j z:Nat) (hk:k<l.length:=by omega) (he:∀x,(f x).length=(f default).length:=by exact fun _=>rfl) (hz:Nat.ble (j+z) (f default).length=true:=by rfl):Wq:=⟨((af f l).drop (k*(f default).length+j)).take z=((f (l.getD k default)).drop j).take z,IW he hk (Nat.le_of_ble_eq_true hz) rfl⟩
def yV (x:AV):Hint:={av:=some x}
def yH (l:List (Nat×Hint)):pn:={hs:=l}
def yM (n:Nat) (w:Wq):List Wq:=List.replicate n w
def yg (l:List Nat):List (Nat×Hint):=l.map fun i=>(i,{g:=false})
def F1 (l:List Wq):List Prop:=l.map Wq.p
theorem h_:∀l:List Wq,bx (F1 l)
 | []=>trivial
 | w::l=>⟨w.h,h_ l⟩
section
variable {P:Program} {n:Nat} {c:Code} {Q:Exit->AS->Prop} {s:AS}
theorem zP (k:Nat) (l:List pn) (wl:List Wk) (ws:List Wq) (h:bf P n (qf k c) Q (pF (nT P n l wl c s))) (hk:Nat.beq l.length k=true:=by kernel_rfl) (he:oP (nT P n l wl c s)=some (F1 ws):=by kernel_rfl):bf P n c Q s:=bf.tI k l wl hk he (h_ ws) h
theorem zQ (k:Nat) (l:List pn) (ws:List Wq) (h:bf P n (qf k c) Q (pF (kJ P n l c s))) (hk:Nat.beq l.length k=true:=by kernel_rfl) (he:oP (kJ P n l c s)=some (F1 ws):=by kernel_rfl):bf P n c Q s:=bf.GZ k l hk he (h_ ws) h
theorem zX (x:pn) (ws:List Wq) (h:Q .normal (pF (r5 P n c x s))) (he:oP (r5 P n c x s)=some (F1 ws):=by kernel_rfl):bf P n c Q s:=bf.QQ x he (h_ ws) h
theorem zS (h:bf P n (iq c) (rD (bf P n (dA c) Q) Q) s) (hc:Ao c=true:=by kernel_rfl):bf P n c Q s:=bf.seq hc h
theorem zB (id:Nat) (h:bf P n (ft c) (ND id Q) s) (hc:Jj c=some id:=by kernel_rfl):bf P n c Q s:=bf.block hc h
theorem zK (h:Q .normal s) (hc:B_ c=true:=by kernel_rfl):bf P n c Q s:=bf.skip hc h
theorem zR (h:Q .ret s) (hc:HF c=true:=by kernel_rfl):bf P n c Q s:=bf.ret hc h
theorem zE (id:Nat) (h:Q (.exit id) s) (hc:LO c=some id:=by kernel_rfl):bf P n c Q s:=bf.exit hc h
theorem zT (t:Nat) (h:bf P n (ox c) Q s) (hc:k_ c=some (.tmp t):=by kernel_rfl) (hx:bp s (.tmp t)= .val (.bool true):=by kernel_rfl):bf P n c Q s:=bf.I_ hc hx rfl h
theorem zF (t:Nat) (h:bf P n (oH c) Q s) (hc:k_ c=some (.tmp t):=by kernel_rfl) (hx:bp s (.tmp t)= .val (.bool false):=by kernel_rfl):bf P n c Q s:=bf.Ja hc hx rfl h
theorem ib (t:Nat) (p:Prop) [Decidable p] (h:bf P n (ox c) Q s) (hp:p:=by omega) (hc:k_ c=some (.tmp t):=by kernel_rfl) (hx:bp s (.tmp t)= .val (.bool (decide p)):=by kernel_rfl):bf P n c Q s:=bf.I_ hc hx (decide_eq_true hp) h
theorem dp (t:Nat) (p:Prop) [Decidable p] (h:bf P n (oH c) Q s) (hp:¬p:=by omega) (hc:k_ c=some (.tmp t):=by kernel_rfl) (hx:bp s (.tmp t)= .val (.bool (decide p)):=by kernel_rfl):bf P n c Q s:=bf.Ja hc hx (decide_eq_false hp) h
theorem dr (t:Nat) (b:Bool) (hb:b=true) (h:bf P n (ox c) Q s) (hc:k_ c=some (.tmp t):=by kernel_rfl) (hx:bp s (.tmp t)= .val (.bool b):=by kernel_rfl):bf P n c Q s:=bf.I_ hc hx hb h
theorem bj (t:Nat) (b:Bool) (hb:b=false) (h:bf P n (oH c) Q s) (hc:k_ c=some (.tmp t):=by kernel_rfl) (hx:bp s (.tmp t)= .val (.bool b):=by kernel_rfl):bf P n c Q s:=bf.Ja hc hx hb h
theorem zD (t:Nat) (p:Prop) [Decidable p] (ht:p->bf P n (ox c) Q s) (hf:¬p->bf P n (oH c) Q s) (hc:k_ c=some (.tmp t):=by kernel_rfl) (hx:bp s (.tmp t)= .val (.bool (decide p)):=by kernel_rfl):bf P n c Q s:=bf.PX hc hx ht hf
theorem zN {α:Type} [BEq α] [LawfulBEq α] (t:Nat) (u v:α) (ht:u≠v->bf P n (ox c) Q s) (hf:u=v->bf P n (oH c) Q s) (hc:k_ c=some (.tmp t):=by kernel_rfl) (hx:bp s (.tmp t)= .val (.bool (u != v)):=by kernel_rfl):bf P n c Q s:=bf.PW hc hx ht hf
theorem zL {ι:Type} (I:ι->AS) (Inv:ι->Prop) (m:ι->Nat) (x0:ι) (h0:Inv x0) (hw:bR s (I x0)) (h:∀x,Inv x->bf P n (ft c) (Round I Inv m Q x) (I x)) (hc:HG c=true:=by kernel_rfl):bf P n c Q s:=bf.loop I Inv m hc x0 h0 hw h
end
theorem zO {P:Program} {f:FuncId} {fn:Func} {args:List AV} {r:AV} (hf:P.funcs[f]?=some fn) (n:Nat) (h:bf P n (dm fn) (vG P fn.results.toList r) ⟨kP 0 args,[]⟩) (hb:fn.body.isSome=true:=by kernel_rfl) (hn:fn.ntmps=n:=by kernel_rfl) (iC:Nat.ble args.length n=true:=by kernel_rfl):bK P f args r:=bK.Hg hf hb n hn iC h
theorem zV {P:Program} {rs:List ResultVar} {r:AV} {s:AS} (ws:List Wq) (he:nA P s rs r=some (F1 ws):=by kernel_rfl):vG P rs r .ret s:=vG.J3 he (h_ ws)
theorem zW {s s2:AS} (l:List Wk) (he:wk l s=some s2:=by kernel_rfl):bR s s2:=bR.TV l he
def Mj:AV->List Prop
 | .val v=>[v=v]
 | .own _ row=>[row=row]
 | .sl _ row=>[row=row]
 | .arr cs=>[cs=cs]
 | .box row=>[row=row]
 | _=>[]
def J8:AV->List Prop
 | .agg rs=>(rs.map Mj).flatten
 | r=>Mj r
def Mi:AV->List Prop
 | .br rs=>(rs.map J8).flatten
 | r=>J8 r
theorem tN {f:AV->List Prop} (h:∀x,bx (f x)):∀l:List AV,bx (l.map f).flatten
 | []=>trivial
 | x::l=>bQ.2 ⟨h x,tN h l⟩
theorem z6 (x:AV):bx (Mj x):=by cases x<;>first|exact ⟨rfl,trivial⟩|exact trivial
theorem z1 (x:AV):bx (J8 x):=by
 unfold J8
 split
 · exact tN z6 _
 · exact z6 _
theorem G2 (x:AV):bx (Mi x):=by
 unfold Mi
 split
 · exact tN z1 _
 · exact z1 _
theorem bU {P:Program} {rs:List ResultVar} {r:AV} {s:AS} (he:nA P s rs r=some (Mi r):=by kernel_rfl):vG P rs r .ret s:=vG.J3 he (G2 r)
theorem a7 {P:Program} {n:Nat} {c:Code} {Q1:AS->Prop} {Q:Exit->AS->Prop} {s:AS} (h:Q1 s) (hc:B_ c=true:=by kernel_rfl):bf P n c (rD Q1 Q) s:=bf.skip hc (ak h)
theorem dt {P:Program} {n:Nat} {c:Code} {Q1:AS->Prop} {Q:Exit->AS->Prop} {s:AS} (h:Q .ret s) (hc:HF c=true:=by kernel_rfl):bf P n c (rD Q1 Q) s:=bf.ret hc (aK h)
theorem zq {P:Program} {n:Nat} {c:Code} {Q:Exit->AS->Prop} {s:AS} (h:bf P n (qf 1 c) Q (pF (kJ P n [{}] c s))) (he:oP (kJ P n [{}] c s)=some []:=by kernel_rfl):bf P n c Q s:=bf.GZ 1 [{}] (by kernel_rfl) he trivial h
theorem eJ {s s2:AS} (l:List Wk) (fs hs:List Nat) (ws:List Wq) (he:M_ l fs hs s s2=some (s2,F1 ws):=by kernel_rfl):bR s s2:=bR.TW l fs hs he (h_ ws)
theorem zG {P:Program} {rs:List ResultVar} {r:AV} {H':List (Nat×Row)} {s:AS} (l:List Wk) (ws:List Wq) (hw:Qa l s=true:=by kernel_rfl) (he:nz P (P_ l s) rs r H'=some (F1 ws):=by kernel_rfl):lb P rs r H' .ret s:=lb.J3 l (Dt hw) he (h_ ws)
theorem mV {P:Program} {f:FuncId} {fn:Func} {args:List AV} {H H':List (Nat×Row)} {r:AV} (hf:P.funcs[f]?=some fn) (n:Nat) (h:bf P n (dm fn) (lb P fn.results.toList r H') ⟨kP 0 args,H⟩) (hb:fn.body.isSome=true:=by kernel_rfl) (hn:fn.ntmps=n:=by kernel_rfl) (iC:Nat.ble args.length n=true:=by kernel_rfl):gk P f args H r H':=gk.Hg hf hb n hn iC h
theorem Bu {P:Program} {n:Nat} {c:Code} {Q:Exit->AS->Prop} {s:AS} (T:Nat) (Ws:List Nat) (hs:List (Nat×Hint)) (ws:List Wq) (h:Q .normal (pF (ra P n T Ws hs c s))) (he:oP (ra P n T Ws hs c s)=some (F1 ws):=by kernel_rfl):bf P n c Q s:=bf.Oy T Ws hs (iP he) (h_ ws) h
theorem P9 {P:Program} {n:Nat} {c:Code} {Q:Exit->AS->Prop} {s:AS} (T:Nat) (Ks:List Nat) (hs:List (Nat×Hint)) (ws:List Wq) (h:Q .normal (pF (rb P n T Ks hs c s))) (he:oP (rb P n T Ks hs c s)=some (F1 ws):=by kernel_rfl):bf P n c Q s:=bf.Oz T Ks hs (iP he) (h_ ws) h
theorem zA {P:Program} {n:Nat} {c:Code} {Q:Exit->AS->Prop} {s:AS} (T:Nat) (Ws Fs:List Nat) (hs:List (Nat×Hint)) (ws:List Wq) (h:Q .normal (pF (xZ P n T Ws Fs hs c s))) (he:oP (xZ P n T Ws Fs hs c s)=some (F1 ws):=by kernel_rfl):bf P n c Q s:=bf.QS T Ws Fs hs (iP he) (h_ ws) h
theorem QL {P:Program} {n:Nat} {c:Code} {Q:Exit->AS->Prop} {s:AS} (M q:Nat) (Ws Fs:List Nat) (hs:List (Nat×Hint)) (ws:List Wq) (h:Q .normal (pF (Mg (my P n M q Ws Fs hs c s)))) (hx:Lu (my P n M q Ws Fs hs c s)=Lt (my P n M q Ws Fs hs c s):=by kernel_rfl) (he:oP (Mg (my P n M q Ws Fs hs c s))=some (F1 ws):=by kernel_rfl):bf P n c Q s:=bf.QR M q Ws Fs hs hx (iP he) (h_ ws) h
theorem mE {P:Program} {n:Nat} {ops l:List Oper} {s s':AS} (hs:List (Nat×Hint)) (wl:List Wk) (ws:List Wq) (he:Nb P n ops hs wl l s=some (s',F1 ws):=by kernel_rfl):eG P n ops l s s':=eG.part hs wl he (h_ ws)
end Go.Proofs.YtjgbhhnghedgdaaGreatDoor
