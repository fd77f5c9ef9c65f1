import Derived.Test.YtjgbhhnghedgdaaGreatDoorZsRQ
import Derived.Test.YtjgbhhnghedgdaaGreatDoorZsRT
set_option linter.all false
namespace Go.Proofs.YtjgbhhnghedgdaaGreatDoor
open Go.RowKit
theorem bH {α:Sort _}{a b:α}(h:a=b:=by kernel_rfl):a=b:=h
structure Wq where
 p:Prop
 h:p
def yI {p:Prop} (h:p):Wq:=⟨p,h⟩
def yB (p:Prop) (h:p):Wq:=⟨p,h⟩
def yR {T:Type} (x:T):Wq:=⟨x=x,rfl⟩
def yF (p:Prop) [Decidable p] (h:¬p:=by omega):Wq:=⟨decide p=false,decide_eq_false h⟩
def yT (p:Prop) [Decidable p] (h:p:=by omega):Wq:=⟨decide p=true,decide_eq_true h⟩
def yO (p:Prop) (h:p:=by omega):Wq:=⟨p,h⟩
def yN (x:Int) (h1: -9223372036854775808≤x:=by omega) (h2:x≤9223372036854775807:=by omega):Wq:=⟨ai (IntKind.i64.wrap x)=ai x,eZ h1 h2⟩
def yJ (a b:Int) (h:Value.int .i64 a=Value.int .i64 b):Wq:=⟨_,h⟩
def yK (a b:Int) (h:Value.int .u64 a=Value.int .u64 b):Wq:=⟨_,h⟩
def yL (a b:Nat) (h:Nat.ble a b=true:=by kernel_rfl):Wq:=⟨a≤b,Nat.le_of_ble_eq_true h⟩
def yS (p:Prop) (h:p:=by simp_all):Wq:=⟨p,h⟩
theorem yc {a b:Int} (h:a=b):AV.val (.int .i64 a)=AV.val (.int .i64 b):=congrArg (fun n=>AV.val (.int .i64 n)) h
theorem yd {a b:Int} (h:a=b):AV.val (.int .u64 a)=AV.val (.int .u64 b):=congrArg (fun n=>AV.val (.int .u64 n)) h
def yA {T:Type} [Inhabited T] (f:T->List AV) (l:List T) (k j:Nat) (hk:k<l.length:=by omega) (he:∀x,(f x).length=(f default).length:=by exact fun _=>rfl) (hj:(f (l.getD k default))[j]?=some ((f (l.getD k default)).getD j .dead):=by rfl):Wq:=⟨(af f l)[k*(f default).length+j]?=some ((f (l.getD k default)).getD j .dead),nP he hk hj⟩
def yu {T:Type} [Inhabited T] (f:T->List AV) (l:List T) (k j z:Nat) (hk:k<l.length:=by omega) (he:∀x,(f x).length=(f default).length:=by exact fun _=>rfl) (hz:Nat.ble (j+z) (f default).length=true:=by rfl):Wq:=⟨((af f l).drop (k*(f default).length+j)).take z=((f (l.getD k default)).drop j).take z,IE he hk (Nat.le_of_ble_eq_true hz) rfl⟩
def yV (x:AV):Hint:={av:=some x}
def yH (l:List (Nat×Hint)):oY:={hs:=l}
def yM (n:Nat) (w:Wq):List Wq:=List.replicate n w
def yg (l:List Nat):List (Nat×Hint):=l.map fun i=>(i,{g:=false})
def FN (l:List Wq):List Prop:=l.map Wq.p
theorem gT:∀l:List Wq,bu (FN l)
 | []=>trivial
 | w::l=>⟨w.h,gT l⟩
section
variable {P:Program} {n:Nat} {c:Code} {Q:Exit->AS->Prop} {s:AS}
theorem zP (k:Nat) (l:List oY) (wl:List Wk) (ws:List Wq) (h:a7 P n (pW k c) Q (pg (nL P n l wl c s))) (hk:Nat.beq l.length k=true:=by kernel_rfl) (he:oD (nL P n l wl c s)=some (FN ws):=by kernel_rfl):a7 P n c Q s:=a7.tC k l wl hk he (gT ws) h
theorem zQ (k:Nat) (l:List oY) (ws:List Wq) (h:a7 P n (pW k c) Q (pg (kI P n l c s))) (hk:Nat.beq l.length k=true:=by kernel_rfl) (he:oD (kI P n l c s)=some (FN ws):=by kernel_rfl):a7 P n c Q s:=a7.GI k l hk he (gT ws) h
theorem zX (x:oY) (ws:List Wq) (h:Q .normal (pg (rS P n c x s))) (he:oD (rS P n c x s)=some (FN ws):=by kernel_rfl):a7 P n c Q s:=a7.QU x he (gT ws) h
theorem zS (h:a7 P n (hU c) (rv (a7 P n (dk c) Q) Q) s) (hc:zY c=true:=by kernel_rfl):a7 P n c Q s:=a7.seq hc h
theorem zB (id:Nat) (h:a7 P n (fc c) (NL id Q) s) (hc:I8 c=some id:=by kernel_rfl):a7 P n c Q s:=a7.block hc h
theorem zK (h:Q .normal s) (hc:BQ c=true:=by kernel_rfl):a7 P n c Q s:=a7.skip hc h
theorem zR (h:Q .ret s) (hc:Ht c=true:=by kernel_rfl):a7 P n c Q s:=a7.ret hc h
theorem zE (id:Nat) (h:Q (.exit id) s) (hc:LO c=some id:=by kernel_rfl):a7 P n c Q s:=a7.exit hc h
theorem zT (t:Nat) (h:a7 P n (oe c) Q s) (hc:kX c=some (.tmp t):=by kernel_rfl) (hx:bj s (.tmp t)= .val (.bool true):=by kernel_rfl):a7 P n c Q s:=a7.IY hc hx rfl h
theorem zF (t:Nat) (h:a7 P n (ou c) Q s) (hc:kX c=some (.tmp t):=by kernel_rfl) (hx:bj s (.tmp t)= .val (.bool false):=by kernel_rfl):a7 P n c Q s:=a7.IZ hc hx rfl h
theorem jO (t:Nat) (p:Prop) [Decidable p] (h:a7 P n (oe c) Q s) (hp:p:=by omega) (hc:kX c=some (.tmp t):=by kernel_rfl) (hx:bj s (.tmp t)= .val (.bool (decide p)):=by kernel_rfl):a7 P n c Q s:=a7.IY hc hx (decide_eq_true hp) h
theorem dK (t:Nat) (p:Prop) [Decidable p] (h:a7 P n (ou c) Q s) (hp:¬p:=by omega) (hc:kX c=some (.tmp t):=by kernel_rfl) (hx:bj s (.tmp t)= .val (.bool (decide p)):=by kernel_rfl):a7 P n c Q s:=a7.IZ hc hx (decide_eq_false hp) h
theorem dQ (t:Nat) (b:Bool) (hb:b=true) (h:a7 P n (oe c) Q s) (hc:kX c=some (.tmp t):=by kernel_rfl) (hx:bj s (.tmp t)= .val (.bool b):=by kernel_rfl):a7 P n c Q s:=a7.IY hc hx hb h
theorem bo (t:Nat) (b:Bool) (hb:b=false) (h:a7 P n (ou c) Q s) (hc:kX c=some (.tmp t):=by kernel_rfl) (hx:bj s (.tmp t)= .val (.bool b):=by kernel_rfl):a7 P n c Q s:=a7.IZ hc hx hb h
theorem zD (t:Nat) (p:Prop) [Decidable p] (ht:p->a7 P n (oe c) Q s) (hf:¬p->a7 P n (ou c) Q s) (hc:kX c=some (.tmp t):=by kernel_rfl) (hx:bj s (.tmp t)= .val (.bool (decide p)):=by kernel_rfl):a7 P n c Q s:=a7.PV hc hx ht hf
theorem zN {α:Type} [BEq α] [LawfulBEq α] (t:Nat) (u v:α) (ht:u≠v->a7 P n (oe c) Q s) (hf:u=v->a7 P n (ou c) Q s) (hc:kX c=some (.tmp t):=by kernel_rfl) (hx:bj s (.tmp t)= .val (.bool (u != v)):=by kernel_rfl):a7 P n c Q s:=a7.PU hc hx ht hf
theorem zL {ι:Type} (I:ι->AS) (Inv:ι->Prop) (m:ι->Nat) (x0:ι) (h0:Inv x0) (hw:bN s (I x0)) (h:∀x,Inv x->a7 P n (fc c) (Round I Inv m Q x) (I x)) (hc:Hu c=true:=by kernel_rfl):a7 P n c Q s:=a7.loop I Inv m hc x0 h0 hw h
end
theorem zO {P:Program} {f:FuncId} {fn:Func} {args:List AV} {r:AV} (hf:P.funcs[f]?=some fn) (n:Nat) (h:a7 P n (db fn) (vw P fn.results.toList r) ⟨kO 0 args,[]⟩) (hb:fn.body.isSome=true:=by kernel_rfl) (hn:fn.ntmps=n:=by kernel_rfl) (iq:Nat.ble args.length n=true:=by kernel_rfl):bK P f args r:=bK.G3 hf hb n hn iq h
theorem zV {P:Program} {rs:List ResultVar} {r:AV} {s:AS} (ws:List Wq) (he:nt P s rs r=some (FN ws):=by kernel_rfl):vw P rs r .ret s:=vw.JW he (gT ws)
theorem zW {s s2:AS} (l:List Wk) (he:wk l s=some s2:=by kernel_rfl):bN s s2:=bN.TY l he
def Mm:AV->List Prop
 | .val v=>[v=v]
 | .own _ row=>[row=row]
 | .sl _ row=>[row=row]
 | .arr cs=>[cs=cs]
 | .box row=>[row=row]
 | _=>[]
def J1:AV->List Prop
 | .agg rs=>(rs.map Mm).flatten
 | r=>Mm r
def Ml:AV->List Prop
 | .br rs=>(rs.map J1).flatten
 | r=>J1 r
theorem tH {f:AV->List Prop} (h:∀x,bu (f x)):∀l:List AV,bu (l.map f).flatten
 | []=>trivial
 | x::l=>bM.2 ⟨h x,tH h l⟩
theorem zm (x:AV):bu (Mm x):=by cases x<;>first|exact ⟨rfl,trivial⟩|exact trivial
theorem zl (x:AV):bu (J1 x):=by
 unfold J1
 split
 · exact tH zm _
 · exact zm _
theorem GK (x:AV):bu (Ml x):=by
 unfold Ml
 split
 · exact tH zl _
 · exact zl _
theorem cE {P:Program} {rs:List ResultVar} {r:AV} {s:AS} (he:nt P s rs r=some (Ml r):=by kernel_rfl):vw P rs r .ret s:=vw.JW he (GK r)
theorem a8 {P:Program} {n:Nat} {c:Code} {Q1:AS->Prop} {Q:Exit->AS->Prop} {s:AS} (h:Q1 s) (hc:BQ c=true:=by kernel_rfl):a7 P n c (rv Q1 Q) s:=a7.skip hc (ak h)
theorem dW {P:Program} {n:Nat} {c:Code} {Q1:AS->Prop} {Q:Exit->AS->Prop} {s:AS} (h:Q .ret s) (hc:Ht c=true:=by kernel_rfl):a7 P n c (rv Q1 Q) s:=a7.ret hc (aW h)
theorem zq {P:Program} {n:Nat} {c:Code} {Q:Exit->AS->Prop} {s:AS} (h:a7 P n (pW 1 c) Q (pg (kI P n [{}] c s))) (he:oD (kI P n [{}] c s)=some []:=by kernel_rfl):a7 P n c Q s:=a7.GI 1 [{}] (by kernel_rfl) he trivial h
theorem e_ {s s2:AS} (l:List Wk) (fs hs:List Nat) (ws:List Wq) (he:Nh l fs hs s s2=some (s2,FN ws):=by kernel_rfl):bN s s2:=bN.TZ l fs hs he (gT ws)
theorem zG {P:Program} {rs:List ResultVar} {r:AV} {H':List (Nat×Row)} {s:AS} (l:List Wk) (ws:List Wq) (hw:P9 l s=true:=by kernel_rfl) (he:ns P (P8 l s) rs r H'=some (FN ws):=by kernel_rfl):kZ P rs r H' .ret s:=kZ.JW l (C7 hw) he (gT ws)
theorem mN {P:Program} {f:FuncId} {fn:Func} {args:List AV} {H H':List (Nat×Row)} {r:AV} (hf:P.funcs[f]?=some fn) (n:Nat) (h:a7 P n (db fn) (kZ P fn.results.toList r H') ⟨kO 0 args,H⟩) (hb:fn.body.isSome=true:=by kernel_rfl) (hn:fn.ntmps=n:=by kernel_rfl) (iq:Nat.ble args.length n=true:=by kernel_rfl):gb P f args H r H':=gb.G3 hf hb n hn iq h
theorem FM {P:Program} {n:Nat} {c:Code} {Q:Exit->AS->Prop} {s:AS} (T:Nat) (Ws:List Nat) (hs:List (Nat×Hint)) (ws:List Wq) (h:Q .normal (pg (qW P n T Ws hs c s))) (he:oD (qW P n T Ws hs c s)=some (FN ws):=by kernel_rfl):a7 P n c Q s:=a7.OB T Ws hs (iH he) (gT ws) h
theorem P7 {P:Program} {n:Nat} {c:Code} {Q:Exit->AS->Prop} {s:AS} (T:Nat) (Ks:List Nat) (hs:List (Nat×Hint)) (ws:List Wq) (h:Q .normal (pg (qX P n T Ks hs c s))) (he:oD (qX P n T Ks hs c s)=some (FN ws):=by kernel_rfl):a7 P n c Q s:=a7.OC T Ks hs (iH he) (gT ws) h
theorem zA {P:Program} {n:Nat} {c:Code} {Q:Exit->AS->Prop} {s:AS} (T:Nat) (Ws Fs:List Nat) (hs:List (Nat×Hint)) (ws:List Wq) (h:Q .normal (pg (xG P n T Ws Fs hs c s))) (he:oD (xG P n T Ws Fs hs c s)=some (FN ws):=by kernel_rfl):a7 P n c Q s:=a7.QW T Ws Fs hs (iH he) (gT ws) h
theorem QO {P:Program} {n:Nat} {c:Code} {Q:Exit->AS->Prop} {s:AS} (M q:Nat) (Ws Fs:List Nat) (hs:List (Nat×Hint)) (ws:List Wq) (h:Q .normal (pg (Mj (mo P n M q Ws Fs hs c s)))) (hx:Lq (mo P n M q Ws Fs hs c s)=Lp (mo P n M q Ws Fs hs c s):=by kernel_rfl) (he:oD (Mj (mo P n M q Ws Fs hs c s))=some (FN ws):=by kernel_rfl):a7 P n c Q s:=a7.QV M q Ws Fs hs hx (iH he) (gT ws) h
theorem mz {P:Program} {n:Nat} {ops l:List Oper} {s s':AS} (hs:List (Nat×Hint)) (wl:List Wk) (ws:List Wq) (he:Nj P n ops hs wl l s=some (s',FN ws):=by kernel_rfl):d_ P n ops l s s':=d_.part hs wl he (gT ws)
end Go.Proofs.YtjgbhhnghedgdaaGreatDoor
