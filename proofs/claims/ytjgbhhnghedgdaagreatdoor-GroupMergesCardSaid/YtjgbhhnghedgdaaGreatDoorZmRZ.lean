import Derived.Test.YtjgbhhnghedgdaaGreatDoorZmRQ
import Derived.Test.YtjgbhhnghedgdaaGreatDoorZmRT
set_option linter.all false
namespace Go.Proofs.YtjgbhhnghedgdaaGreatDoor
open Go.RowKit
theorem bt {α:Sort _}{a b:α}(h:a=b:=by kernel_rfl):a=b:=h
structure Wq where
 p:Prop
 h:p
def yI {p:Prop} (h:p):Wq:=⟨p,h⟩
def yB (p:Prop) (h:p):Wq:=⟨p,h⟩
def yR {T:Type} (x:T):Wq:=⟨x=x,rfl⟩
def yF (p:Prop) [Decidable p] (h:¬p:=by omega):Wq:=⟨decide p=false,decide_eq_false h⟩
def yT (p:Prop) [Decidable p] (h:p:=by omega):Wq:=⟨decide p=true,decide_eq_true h⟩
def yO (p:Prop) (h:p:=by omega):Wq:=⟨p,h⟩
def yN (x:Int) (h1: -9223372036854775808≤x:=by omega) (h2:x≤9223372036854775807:=by omega):Wq:=⟨ai (IntKind.i64.wrap x)=ai x,dE h1 h2⟩
def yJ (a b:Int) (h:Value.int .i64 a=Value.int .i64 b):Wq:=⟨_,h⟩
def yK (a b:Int) (h:Value.int .u64 a=Value.int .u64 b):Wq:=⟨_,h⟩
def yL (a b:Nat) (h:Nat.ble a b=true:=by kernel_rfl):Wq:=⟨a≤b,Nat.le_of_ble_eq_true h⟩
def yS (p:Prop) (h:p:=by simp_all):Wq:=⟨p,h⟩
theorem yc {a b:Int} (h:a=b):AV.val (.int .i64 a)=AV.val (.int .i64 b):=congrArg (fun n=>AV.val (.int .i64 n)) h
theorem yd {a b:Int} (h:a=b):AV.val (.int .u64 a)=AV.val (.int .u64 b):=congrArg (fun n=>AV.val (.int .u64 n)) h
def yA {T:Type} [Inhabited T] (f:T->List AV) (l:List T) (k j:Nat) (hk:k<l.length:=by omega) (he:∀x,(f x).length=(f default).length:=by exact fun _=>rfl) (hj:(f (l.getD k default))[j]?=some ((f (l.getD k default)).getD j .dead):=by rfl):Wq:=⟨(ae f l)[k*(f default).length+j]?=some ((f (l.getD k default)).getD j .dead),mS he hk hj⟩
def yu {T:Type} [Inhabited T] (f:T->List AV) (l:List T) (k j z:Nat) (hk:k<l.length:=by omega) (he:∀x,(f x).length=(f default).length:=by exact fun _=>rfl) (hz:Nat.ble (j+z) (f default).length=true:=by rfl):Wq:=⟨((ae f l).drop (k*(f default).length+j)).take z=((f (l.getD k default)).drop j).take z,JK he hk (Nat.le_of_ble_eq_true hz) rfl⟩
def yV (x:AV):Hint:={av:=some x}
def yH (l:List (Nat×Hint)):pP:={hs:=l}
def yM (n:Nat) (w:Wq):List Wq:=List.replicate n w
def yg (l:List Nat):List (Nat×Hint):=l.map fun i=>(i,{g:=false})
def G6 (l:List Wq):List Prop:=l.map Wq.p
theorem ic:∀l:List Wq,bz (G6 l)
 | []=>trivial
 | w::l=>⟨w.h,ic l⟩
section
variable {P:Program} {n:Nat} {c:Code} {Q:Exit->AS->Prop} {s:AS}
theorem zP (k:Nat) (l:List pP) (wl:List Wk) (ws:List Wq) (h:bf P n (qD k c) Q (pZ (ot P n l wl c s))) (hk:Nat.beq l.length k=true:=by kernel_rfl) (he:pd (ot P n l wl c s)=some (G6 ws):=by kernel_rfl):bf P n c Q s:=bf.ue k l wl hk he (ic ws) h
theorem zQ (k:Nat) (l:List pP) (ws:List Wq) (h:bf P n (qD k c) Q (pZ (kT P n l c s))) (hk:Nat.beq l.length k=true:=by kernel_rfl) (he:pd (kT P n l c s)=some (G6 ws):=by kernel_rfl):bf P n c Q s:=bf.HS k l hk he (ic ws) h
theorem zX (x:pP) (ws:List Wq) (h:Q .normal (pZ (sD P n c x s))) (he:pd (sD P n c x s)=some (G6 ws):=by kernel_rfl):bf P n c Q s:=bf.RB x he (ic ws) h
theorem zS (h:bf P n (iu c) (r6 (bf P n (dI c) Q) Q) s) (hc:Bf c=true:=by kernel_rfl):bf P n c Q s:=bf.seq hc h
theorem zB (id:Nat) (h:bf P n (fA c) (OB id Q) s) (hc:J5 c=some id:=by kernel_rfl):bf P n c Q s:=bf.block hc h
theorem zK (h:Q .normal s) (hc:C4 c=true:=by kernel_rfl):bf P n c Q s:=bf.skip hc h
theorem zR (h:Q .ret s) (hc:Ix c=true:=by kernel_rfl):bf P n c Q s:=bf.ret hc h
theorem zE (id:Nat) (h:Q (.exit id) s) (hc:MB c=some id:=by kernel_rfl):bf P n c Q s:=bf.exit hc h
theorem zT (t:Nat) (h:bf P n (oP c) Q s) (hc:ll c=some (.tmp t):=by kernel_rfl) (hx:bp s (.tmp t)= .val (.bool true):=by kernel_rfl):bf P n c Q s:=bf.JX hc hx rfl h
theorem zF (t:Nat) (h:bf P n (oZ c) Q s) (hc:ll c=some (.tmp t):=by kernel_rfl) (hx:bp s (.tmp t)= .val (.bool false):=by kernel_rfl):bf P n c Q s:=bf.JY hc hx rfl h
theorem gN (t:Nat) (p:Prop) [Decidable p] (h:bf P n (oP c) Q s) (hp:p:=by omega) (hc:ll c=some (.tmp t):=by kernel_rfl) (hx:bp s (.tmp t)= .val (.bool (decide p)):=by kernel_rfl):bf P n c Q s:=bf.JX hc hx (decide_eq_true hp) h
theorem dq (t:Nat) (p:Prop) [Decidable p] (h:bf P n (oZ c) Q s) (hp:¬p:=by omega) (hc:ll c=some (.tmp t):=by kernel_rfl) (hx:bp s (.tmp t)= .val (.bool (decide p)):=by kernel_rfl):bf P n c Q s:=bf.JY hc hx (decide_eq_false hp) h
theorem dm (t:Nat) (b:Bool) (hb:b=true) (h:bf P n (oP c) Q s) (hc:ll c=some (.tmp t):=by kernel_rfl) (hx:bp s (.tmp t)= .val (.bool b):=by kernel_rfl):bf P n c Q s:=bf.JX hc hx hb h
theorem bj (t:Nat) (b:Bool) (hb:b=false) (h:bf P n (oZ c) Q s) (hc:ll c=some (.tmp t):=by kernel_rfl) (hx:bp s (.tmp t)= .val (.bool b):=by kernel_rfl):bf P n c Q s:=bf.JY hc hx hb h
theorem zD (t:Nat) (p:Prop) [Decidable p] (ht:p->bf P n (oP c) Q s) (hf:¬p->bf P n (oZ c) Q s) (hc:ll c=some (.tmp t):=by kernel_rfl) (hx:bp s (.tmp t)= .val (.bool (decide p)):=by kernel_rfl):bf P n c Q s:=bf.QH hc hx ht hf
theorem zN {α:Type} [BEq α] [LawfulBEq α] (t:Nat) (u v:α) (ht:u≠v->bf P n (oP c) Q s) (hf:u=v->bf P n (oZ c) Q s) (hc:ll c=some (.tmp t):=by kernel_rfl) (hx:bp s (.tmp t)= .val (.bool (u != v)):=by kernel_rfl):bf P n c Q s:=bf.QG hc hx ht hf
theorem zL {ι:Type} (I:ι->AS) (Inv:ι->Prop) (m:ι->Nat) (x0:ι) (h0:Inv x0) (hw:bU s (I x0)) (h:∀x,Inv x->bf P n (fA c) (Round I Inv m Q x) (I x)) (hc:Iy c=true:=by kernel_rfl):bf P n c Q s:=bf.loop I Inv m hc x0 h0 hw h
end
theorem zO {P:Program} {f:FuncId} {fn:Func} {args:List AV} {r:AV} (hf:P.funcs[f]?=some fn) (n:Nat) (h:bf P n (du fn) (wy P fn.results.toList r) ⟨k7 0 args,[]⟩) (hb:fn.body.isSome=true:=by kernel_rfl) (hn:fn.ntmps=n:=by kernel_rfl) (iE:Nat.ble args.length n=true:=by kernel_rfl):bC P f args r:=bC.H8 hf hb n hn iE h
theorem zV {P:Program} {rs:List ResultVar} {r:AV} {s:AS} (ws:List Wq) (he:nU P s rs r=some (G6 ws):=by kernel_rfl):wy P rs r .ret s:=wy.KQ he (ic ws)
theorem zW {s s2:AS} (l:List Wk) (he:wk l s=some s2:=by kernel_rfl):bU s s2:=bU.UG l he
def M7:AV->List Prop
 | .val v=>[v=v]
 | .own _ row=>[row=row]
 | .sl _ row=>[row=row]
 | .arr cs=>[cs=cs]
 | .box row=>[row=row]
 | _=>[]
def KV:AV->List Prop
 | .agg rs=>(rs.map M7).flatten
 | r=>M7 r
def M6:AV->List Prop
 | .bk rs=>(rs.map KV).flatten
 | r=>KV r
theorem uk {f:AV->List Prop} (h:∀x,bz (f x)):∀l:List AV,bz (l.map f).flatten
 | []=>trivial
 | x::l=>bT.2 ⟨h x,uk h l⟩
theorem AW (x:AV):bz (M7 x):=by cases x<;>first|exact ⟨rfl,trivial⟩|exact trivial
theorem AU (x:AV):bz (KV x):=by
 unfold KV
 split
 · exact uk AW _
 · exact AW _
theorem HU (x:AV):bz (M6 x):=by
 unfold M6
 split
 · exact uk AU _
 · exact AU _
theorem bL {P:Program} {rs:List ResultVar} {r:AV} {s:AS} (he:nU P s rs r=some (M6 r):=by kernel_rfl):wy P rs r .ret s:=wy.KQ he (HU r)
theorem aW {P:Program} {n:Nat} {c:Code} {Q1:AS->Prop} {Q:Exit->AS->Prop} {s:AS} (h:Q1 s) (hc:C4 c=true:=by kernel_rfl):bf P n c (r6 Q1 Q) s:=bf.skip hc (ak h)
theorem dd {P:Program} {n:Nat} {c:Code} {Q1:AS->Prop} {Q:Exit->AS->Prop} {s:AS} (h:Q .ret s) (hc:Ix c=true:=by kernel_rfl):bf P n c (r6 Q1 Q) s:=bf.ret hc (aN h)
theorem zq {P:Program} {n:Nat} {c:Code} {Q:Exit->AS->Prop} {s:AS} (h:bf P n (qD 1 c) Q (pZ (kT P n [{}] c s))) (he:pd (kT P n [{}] c s)=some []:=by kernel_rfl):bf P n c Q s:=bf.HS 1 [{}] (by kernel_rfl) he trivial h
theorem eu {s s2:AS} (l:List Wk) (fs hs:List Nat) (ws:List Wq) (he:N8 l fs hs s s2=some (s2,G6 ws):=by kernel_rfl):bU s s2:=bU.UH l fs hs he (ic ws)
theorem zG {P:Program} {rs:List ResultVar} {r:AV} {H':List (Nat×Row)} {s:AS} (l:List Wk) (ws:List Wq) (hw:QW l s=true:=by kernel_rfl) (he:nT P (QV l s) rs r H'=some (G6 ws):=by kernel_rfl):lq P rs r H' .ret s:=lq.KQ l (Ej hw) he (ic ws)
theorem nj {P:Program} {f:FuncId} {fn:Func} {args:List AV} {H H':List (Nat×Row)} {r:AV} (hf:P.funcs[f]?=some fn) (n:Nat) (h:bf P n (du fn) (lq P fn.results.toList r H') ⟨k7 0 args,H⟩) (hb:fn.body.isSome=true:=by kernel_rfl) (hn:fn.ntmps=n:=by kernel_rfl) (iE:Nat.ble args.length n=true:=by kernel_rfl):gm P f args H r H':=gm.H8 hf hb n hn iE h
theorem wz {P:Program} {n:Nat} {c:Code} {Q:Exit->AS->Prop} {s:AS} (T:Nat) (Ws:List Nat) (hs:List (Nat×Hint)) (ws:List Wq) (h:Q .normal (pZ (rK P n T Ws hs c s))) (he:pd (rK P n T Ws hs c s)=some (G6 ws):=by kernel_rfl):bf P n c Q s:=bf.Po T Ws hs (iS he) (ic ws) h
theorem QU {P:Program} {n:Nat} {c:Code} {Q:Exit->AS->Prop} {s:AS} (T:Nat) (Ks:List Nat) (hs:List (Nat×Hint)) (ws:List Wq) (h:Q .normal (pZ (rL P n T Ks hs c s))) (he:pd (rL P n T Ks hs c s)=some (G6 ws):=by kernel_rfl):bf P n c Q s:=bf.Pp T Ks hs (iS he) (ic ws) h
theorem zA {P:Program} {n:Nat} {c:Code} {Q:Exit->AS->Prop} {s:AS} (T:Nat) (Ws Fs:List Nat) (hs:List (Nat×Hint)) (ws:List Wq) (h:Q .normal (pZ (y_ P n T Ws Fs hs c s))) (he:pd (y_ P n T Ws Fs hs c s)=some (G6 ws):=by kernel_rfl):bf P n c Q s:=bf.RD T Ws Fs hs (iS he) (ic ws) h
theorem Tt {P:Program} {n:Nat} {c:Code} {Q:Exit->AS->Prop} {s:AS} (M q:Nat) (Ws Fs:List Nat) (hs:List (Nat×Hint)) (ws:List Wq) (h:Q .normal (pZ (M4 (mQ P n M q Ws Fs hs c s)))) (hx:Mh (mQ P n M q Ws Fs hs c s)=Mg (mQ P n M q Ws Fs hs c s):=by kernel_rfl) (he:pd (M4 (mQ P n M q Ws Fs hs c s))=some (G6 ws):=by kernel_rfl):bf P n c Q s:=bf.RC M q Ws Fs hs hx (iS he) (ic ws) h
theorem mZ {P:Program} {n:Nat} {ops l:List Oper} {s s':AS} (hs:List (Nat×Hint)) (wl:List Wk) (ws:List Wq) (he:N_ P n ops hs wl l s=some (s',G6 ws):=by kernel_rfl):eN P n ops l s s':=eN.part hs wl he (ic ws)
end Go.Proofs.YtjgbhhnghedgdaaGreatDoor
