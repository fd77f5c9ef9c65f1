import Derived.Test.YtjgbhhnghedgdaaGreatDoorZvRT
set_option linter.all false
namespace Go.Proofs.YtjgbhhnghedgdaaGreatDoor
open Go.RowKit
theorem bu {α:Sort _}{a b:α}(h:a=b:=by kernel_rfl):a=b:=h
structure Wq where
 p:Prop
 h:p
def yI {p:Prop} (h:p):Wq:=⟨p,h⟩
def yB (p:Prop) (h:p):Wq:=⟨p,h⟩
def yR {T:Type} (x:T):Wq:=⟨x=x,rfl⟩
def yF (p:Prop) [Decidable p] (h:¬p:=by omega):Wq:=⟨decide p=false,decide_eq_false h⟩
def yT (p:Prop) [Decidable p] (h:p:=by omega):Wq:=⟨decide p=true,decide_eq_true h⟩
def yO (p:Prop) (h:p:=by omega):Wq:=⟨p,h⟩
def yN (x:Int) (h1: -9223372036854775808≤x:=by omega) (h2:x≤9223372036854775807:=by omega):Wq:=⟨ai (IntKind.i64.wrap x)=ai x,eN h1 h2⟩
def yJ (a b:Int) (h:Value.int .i64 a=Value.int .i64 b):Wq:=⟨_,h⟩
def yK (a b:Int) (h:Value.int .u64 a=Value.int .u64 b):Wq:=⟨_,h⟩
def yL (a b:Nat) (h:Nat.ble a b=true:=by kernel_rfl):Wq:=⟨a≤b,Nat.le_of_ble_eq_true h⟩
def yS (p:Prop) (h:p:=by simp_all):Wq:=⟨p,h⟩
theorem yc {a b:Int} (h:a=b):AV.val (.int .i64 a)=AV.val (.int .i64 b):=congrArg (fun n=>AV.val (.int .i64 n)) h
theorem yd {a b:Int} (h:a=b):AV.val (.int .u64 a)=AV.val (.int .u64 b):=congrArg (fun n=>AV.val (.int .u64 n)) h
def yA {T:Type} [Inhabited T] (f:T->List AV) (l:List T) (k j:Nat) (hk:k<l.length:=by omega) (he:∀x,(f x).length=(f default).length:=by exact fun _=>rfl) (hj:(f (l.getD k default))[j]?=some ((f (l.getD k default)).getD j .dead):=by rfl):Wq:=⟨(af f l)[k*(f default).length+j]?=some ((f (l.getD k default)).getD j .dead),o7 he hk hj⟩
def yu {T:Type} [Inhabited T] (f:T->List AV) (l:List T) (k j z:Nat) (hk:k<l.length:=by omega) (he:∀x,(f x).length=(f default).length:=by exact fun _=>rfl) (hz:Nat.ble (j+z) (f default).length=true:=by rfl):Wq:=⟨((af f l).drop (k*(f default).length+j)).take z=((f (l.getD k default)).drop j).take z,JX he hk (Nat.le_of_ble_eq_true hz) rfl⟩
def yV (x:AV):Hint:={av:=some x}
def yC {P:Program} {f:FuncId} {args:List AV} {r:AV} (_:bG P f args r):Hint:={av:=some r}
def yD {P:Program} {f:FuncId} {args:List AV} {r:AV} (_:bG P f args r):Hint:={av:=some r,b:=false}
def yE {P:Program} {f:FuncId} {args:List AV} {H H':List (Nat×Row)} {r:AV} (ln:List (Nat×Nat)) (_:gn P f args H r H'):Hint:={av:=some r,ln:=ln,ho:=H'}
def yH (l:List (Nat×Hint)):qa:={hs:=l}
def yM (n:Nat) (w:Wq):List Wq:=List.replicate n w
def yg (l:List Nat):List (Nat×Hint):=l.map fun i=>(i,{g:=false})
def Hd (l:List Wq):List Prop:=l.map Wq.p
theorem ix:∀l:List Wq,bx (Hd l)
 | []=>trivial
 | w::l=>⟨w.h,ix l⟩
section
variable {P:Program} {n:Nat} {c:Code} {Q:Exit->AS->Prop} {s:AS}
theorem zP (k:Nat) (l:List qa) (wl:List Wk) (ws:List Wq) (h:bg P n (qY k c) Q (ql (oW P n l wl c s))) (hk:Nat.beq l.length k=true:=by kernel_rfl) (he:pI (oW P n l wl c s)=some (Hd ws):=by kernel_rfl):bg P n c Q s:=bg.uY k l wl hk he (ix ws) h
theorem zQ (k:Nat) (l:List qa) (ws:List Wq) (h:bg P n (qY k c) Q (ql (lj P n l c s))) (hk:Nat.beq l.length k=true:=by kernel_rfl) (he:pI (lj P n l c s)=some (Hd ws):=by kernel_rfl):bg P n c Q s:=bg.H6 k l hk he (ix ws) h
theorem zX (x:qa) (ws:List Wq) (h:Q .normal (ql (tl P n c x s))) (he:pI (tl P n c x s)=some (Hd ws):=by kernel_rfl):bg P n c Q s:=bg.Sc x he (ix ws) h
theorem zS (h:bg P n (iK c) (sK (bg P n (dV c) Q) Q) s) (hc:Bx c=true:=by kernel_rfl):bg P n c Q s:=bg.seq hc h
theorem zB (id:Nat) (h:bg P n (fL c) (OX id Q) s) (hc:Kj c=some id:=by kernel_rfl):bg P n c Q s:=bg.block hc h
theorem zK (h:Q .normal s) (hc:Da c=true:=by kernel_rfl):bg P n c Q s:=bg.skip hc h
theorem zR (h:Q .ret s) (hc:IL c=true:=by kernel_rfl):bg P n c Q s:=bg.ret hc h
theorem zE (id:Nat) (h:Q (.exit id) s) (hc:MP c=some id:=by kernel_rfl):bg P n c Q s:=bg.exit hc h
theorem zT (t:Nat) (h:bg P n (pn c) Q s) (hc:lO c=some (.tmp t):=by kernel_rfl) (hx:bq s (.tmp t)= .val (.bool true):=by kernel_rfl):bg P n c Q s:=bg.Ka hc hx rfl h
theorem zF (t:Nat) (h:bg P n (pC c) Q s) (hc:lO c=some (.tmp t):=by kernel_rfl) (hx:bq s (.tmp t)= .val (.bool false):=by kernel_rfl):bg P n c Q s:=bg.Kb hc hx rfl h
theorem iw (t:Nat) (p:Prop) [Decidable p] (h:bg P n (pn c) Q s) (hp:p:=by omega) (hc:lO c=some (.tmp t):=by kernel_rfl) (hx:bq s (.tmp t)= .val (.bool (decide p)):=by kernel_rfl):bg P n c Q s:=bg.Ka hc hx (decide_eq_true hp) h
theorem dF (t:Nat) (p:Prop) [Decidable p] (h:bg P n (pC c) Q s) (hp:¬p:=by omega) (hc:lO c=some (.tmp t):=by kernel_rfl) (hx:bq s (.tmp t)= .val (.bool (decide p)):=by kernel_rfl):bg P n c Q s:=bg.Kb hc hx (decide_eq_false hp) h
theorem dB (t:Nat) (b:Bool) (hb:b=true) (h:bg P n (pn c) Q s) (hc:lO c=some (.tmp t):=by kernel_rfl) (hx:bq s (.tmp t)= .val (.bool b):=by kernel_rfl):bg P n c Q s:=bg.Ka hc hx hb h
theorem bk (t:Nat) (b:Bool) (hb:b=false) (h:bg P n (pC c) Q s) (hc:lO c=some (.tmp t):=by kernel_rfl) (hx:bq s (.tmp t)= .val (.bool b):=by kernel_rfl):bg P n c Q s:=bg.Kb hc hx hb h
theorem zD (t:Nat) (p:Prop) [Decidable p] (ht:p->bg P n (pn c) Q s) (hf:¬p->bg P n (pC c) Q s) (hc:lO c=some (.tmp t):=by kernel_rfl) (hx:bq s (.tmp t)= .val (.bool (decide p)):=by kernel_rfl):bg P n c Q s:=bg.Re hc hx ht hf
theorem zN {α:Type} [BEq α] [LawfulBEq α] (t:Nat) (u v:α) (ht:u≠v->bg P n (pn c) Q s) (hf:u=v->bg P n (pC c) Q s) (hc:lO c=some (.tmp t):=by kernel_rfl) (hx:bq s (.tmp t)= .val (.bool (u != v)):=by kernel_rfl):bg P n c Q s:=bg.Rd hc hx ht hf
theorem zL {ι:Type} (I:ι->AS) (Inv:ι->Prop) (m:ι->Nat) (x0:ι) (h0:Inv x0) (hw:bQ s (I x0)) (h:∀x,Inv x->bg P n (fL c) (Round I Inv m Q x) (I x)) (hc:IM c=true:=by kernel_rfl):bg P n c Q s:=bg.loop I Inv m hc x0 h0 hw h
end
theorem zO {P:Program} {f:FuncId} {fn:Func} {args:List AV} {r:AV} (hf:P.funcs[f]?=some fn) (n:Nat) (h:bg P n (dE fn) (xf P fn.results.toList r) ⟨lx 0 args,[]⟩) (hb:fn.body.isSome=true:=by kernel_rfl) (hn:fn.ntmps=n:=by kernel_rfl) (gZ:Nat.ble args.length n=true:=by kernel_rfl):bG P f args r:=bG.Im hf hb n hn gZ h
theorem zV {P:Program} {rs:List ResultVar} {r:AV} {s:AS} (ws:List Wq) (he:ov P s rs r=some (Hd ws):=by kernel_rfl):xf P rs r .ret s:=xf.K6 he (ix ws)
theorem zW {s s2:AS} (l:List Wk) (he:wk l s=some s2:=by kernel_rfl):bQ s s2:=bQ.Vt l he
def Nq:AV->List Prop
 | .val v=>[v=v]
 | .own _ row=>[row=row]
 | .sl _ row=>[row=row]
 | .arr cs=>[cs=cs]
 | .box row=>[row=row]
 | _=>[]
def K_:AV->List Prop
 | .agg rs=>(rs.map Nq).flatten
 | r=>Nq r
def Np:AV->List Prop
 | .cw rs=>(rs.map K_).flatten
 | r=>K_ r
theorem u7 {f:AV->List Prop} (h:∀x,bx (f x)):∀l:List AV,bx (l.map f).flatten
 | []=>trivial
 | x::l=>bO.2 ⟨h x,u7 h l⟩
theorem Bf (x:AV):bx (Nq x):=by cases x<;>first|exact ⟨rfl,trivial⟩|exact trivial
theorem Be (x:AV):bx (K_ x):=by
 unfold K_
 split
 · exact u7 Bf _
 · exact Bf _
theorem H8 (x:AV):bx (Np x):=by
 unfold Np
 split
 · exact u7 Be _
 · exact Be _
theorem bP {P:Program} {rs:List ResultVar} {r:AV} {s:AS} (he:ov P s rs r=some (Np r):=by kernel_rfl):xf P rs r .ret s:=xf.K6 he (H8 r)
theorem a_ {P:Program} {n:Nat} {c:Code} {Q1:AS->Prop} {Q:Exit->AS->Prop} {s:AS} (h:Q1 s) (hc:Da c=true:=by kernel_rfl):bg P n c (sK Q1 Q) s:=bg.skip hc (al h)
theorem dC {P:Program} {n:Nat} {c:Code} {Q1:AS->Prop} {Q:Exit->AS->Prop} {s:AS} (h:Q .ret s) (hc:IL c=true:=by kernel_rfl):bg P n c (sK Q1 Q) s:=bg.ret hc (aK h)
theorem zq {P:Program} {n:Nat} {c:Code} {Q:Exit->AS->Prop} {s:AS} (h:bg P n (qY 1 c) Q (ql (lj P n [{}] c s))) (he:pI (lj P n [{}] c s)=some []:=by kernel_rfl):bg P n c Q s:=bg.H6 1 [{}] (by kernel_rfl) he trivial h
theorem eS {s s2:AS} (l:List Wk) (fs hs:List Nat) (ws:List Wq) (he:Ov l fs hs s s2=some (s2,Hd ws):=by kernel_rfl):bQ s s2:=bQ.Vu l fs hs he (ix ws)
theorem zG {P:Program} {rs:List ResultVar} {r:AV} {H':List (Nat×Row)} {s:AS} (l:List Wk) (ws:List Wq) (hw:Rr l s=true:=by kernel_rfl) (he:ou P (Rq l s) rs r H'=some (Hd ws):=by kernel_rfl):lQ P rs r H' .ret s:=lQ.K6 l (Er hw) he (ix ws)
theorem nC {P:Program} {f:FuncId} {fn:Func} {args:List AV} {H H':List (Nat×Row)} {r:AV} (hf:P.funcs[f]?=some fn) (n:Nat) (h:bg P n (dE fn) (lQ P fn.results.toList r H') ⟨lx 0 args,H⟩) (hb:fn.body.isSome=true:=by kernel_rfl) (hn:fn.ntmps=n:=by kernel_rfl) (gZ:Nat.ble args.length n=true:=by kernel_rfl):gn P f args H r H':=gn.Im hf hb n hn gZ h
theorem Ax {P:Program} {n:Nat} {c:Code} {Q:Exit->AS->Prop} {s:AS} (T:Nat) (Ws:List Nat) (hs:List (Nat×Hint)) (ws:List Wq) (h:Q .normal (ql (sj P n T Ws hs c s))) (he:pI (sj P n T Ws hs c s)=some (Hd ws):=by kernel_rfl):bg P n c Q s:=bg.PJ T Ws hs (jd he) (ix ws) h
theorem Rp {P:Program} {n:Nat} {c:Code} {Q:Exit->AS->Prop} {s:AS} (T:Nat) (Ks:List Nat) (hs:List (Nat×Hint)) (ws:List Wq) (h:Q .normal (ql (sk P n T Ks hs c s))) (he:pI (sk P n T Ks hs c s)=some (Hd ws):=by kernel_rfl):bg P n c Q s:=bg.PK T Ks hs (jd he) (ix ws) h
theorem zA {P:Program} {n:Nat} {c:Code} {Q:Exit->AS->Prop} {s:AS} (T:Nat) (Ws Fs:List Nat) (hs:List (Nat×Hint)) (ws:List Wq) (h:Q .normal (ql (zC P n T Ws Fs hs c s))) (he:pI (zC P n T Ws Fs hs c s)=some (Hd ws):=by kernel_rfl):bg P n c Q s:=bg.Se T Ws Fs hs (jd he) (ix ws) h
theorem R8 {P:Program} {n:Nat} {c:Code} {Q:Exit->AS->Prop} {s:AS} (M q:Nat) (Ws Fs:List Nat) (hs:List (Nat×Hint)) (ws:List Wq) (h:Q .normal (ql (Nl (nh P n M q Ws Fs hs c s)))) (hx:Ms (nh P n M q Ws Fs hs c s)=Mr (nh P n M q Ws Fs hs c s):=by kernel_rfl) (he:pI (Nl (nh P n M q Ws Fs hs c s))=some (Hd ws):=by kernel_rfl):bg P n c Q s:=bg.Sd M q Ws Fs hs hx (jd he) (ix ws) h
theorem mL {P:Program} {n:Nat} {ops l:List Oper} {s s':AS} (hs:List (Nat×Hint)) (wl:List Wk) (ws:List Wq) (he:Ox P n ops hs wl l s=some (s',Hd ws):=by kernel_rfl):dj P n ops l s s':=dj.part hs wl he (ix ws)
end Go.Proofs.YtjgbhhnghedgdaaGreatDoor
