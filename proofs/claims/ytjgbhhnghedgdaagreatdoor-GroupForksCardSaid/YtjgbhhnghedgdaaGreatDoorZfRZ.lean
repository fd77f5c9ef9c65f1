import Derived.Test.YtjgbhhnghedgdaaGreatDoorZfRQ
import Derived.Test.YtjgbhhnghedgdaaGreatDoorZfRT
set_option linter.all false
namespace Go.Proofs.YtjgbhhnghedgdaaGreatDoor
open Go.RowKit
theorem bC {α:Sort _}{a b:α}(h:a=b:=by kernel_rfl):a=b:=h
structure Wq where
 p:Prop
 h:p
def yI {p:Prop} (h:p):Wq:=⟨p,h⟩
def yB (p:Prop) (h:p):Wq:=⟨p,h⟩
def yR {T:Type} (x:T):Wq:=⟨x=x,rfl⟩
def yF (p:Prop) [Decidable p] (h:¬p:=by omega):Wq:=⟨decide p=false,decide_eq_false h⟩
def yT (p:Prop) [Decidable p] (h:p:=by omega):Wq:=⟨decide p=true,decide_eq_true h⟩
def yO (p:Prop) (h:p:=by omega):Wq:=⟨p,h⟩
def yN (x:Int) (h1: -9223372036854775808≤x:=by omega) (h2:x≤9223372036854775807:=by omega):Wq:=⟨ai (IntKind.i64.wrap x)=ai x,eG h1 h2⟩
def yJ (a b:Int) (h:Value.int .i64 a=Value.int .i64 b):Wq:=⟨_,h⟩
def yK (a b:Int) (h:Value.int .u64 a=Value.int .u64 b):Wq:=⟨_,h⟩
def yL (a b:Nat) (h:Nat.ble a b=true:=by kernel_rfl):Wq:=⟨a≤b,Nat.le_of_ble_eq_true h⟩
def yS (p:Prop) (h:p:=by simp_all):Wq:=⟨p,h⟩
theorem yc {a b:Int} (h:a=b):AV.val (.int .i64 a)=AV.val (.int .i64 b):=congrArg (fun n=>AV.val (.int .i64 n)) h
theorem yd {a b:Int} (h:a=b):AV.val (.int .u64 a)=AV.val (.int .u64 b):=congrArg (fun n=>AV.val (.int .u64 n)) h
def yA {T:Type} [Inhabited T] (f:T->List AV) (l:List T) (k j:Nat) (hk:k<l.length:=by omega) (he:∀x,(f x).length=(f default).length:=by exact fun _=>rfl) (hj:(f (l.getD k default))[j]?=some ((f (l.getD k default)).getD j .dead):=by rfl):Wq:=⟨(ae f l)[k*(f default).length+j]?=some ((f (l.getD k default)).getD j .dead),m_ he hk hj⟩
def yu {T:Type} [Inhabited T] (f:T->List AV) (l:List T) (k j z:Nat) (hk:k<l.length:=by omega) (he:∀x,(f x).length=(f default).length:=by exact fun _=>rfl) (hz:Nat.ble (j+z) (f default).length=true:=by rfl):Wq:=⟨((ae f l).drop (k*(f default).length+j)).take z=((f (l.getD k default)).drop j).take z,CB he hk (Nat.le_of_ble_eq_true hz) rfl⟩
def yV (x:AV):Hint:={av:=some x}
def yC {P:Program} {f:FuncId} {args:List AV} {r:AV} (_:bA P f args r):Hint:={av:=some r}
def yD {P:Program} {f:FuncId} {args:List AV} {r:AV} (_:bA P f args r):Hint:={av:=some r,b:=false}
def yE {P:Program} {f:FuncId} {args:List AV} {H H':List (Nat×Row)} {r:AV} (ln:List (Nat×Nat)) (_:gw P f args H r H'):Hint:={av:=some r,ln:=ln,ho:=H'}
def yH (l:List (Nat×Hint)):qd:={hs:=l}
def yM (n:Nat) (w:Wq):List Wq:=List.replicate n w
def yg (l:List Nat):List (Nat×Hint):=l.map fun i=>(i,{g:=false})
def HS (l:List Wq):List Prop:=l.map Wq.p
theorem iv:∀l:List Wq,bw (HS l)
 | []=>trivial
 | w::l=>⟨w.h,iv l⟩
section
variable {P:Program} {n:Nat} {c:Code} {Q:Exit->AS->Prop} {s:AS}
theorem zP (k:Nat) (l:List qd) (wl:List Wk) (ws:List Wq) (h:bf P n (q8 k c) Q (qs (oP P n l wl c s))) (hk:Nat.beq l.length k=true:=by kernel_rfl) (he:pI (oP P n l wl c s)=some (HS ws):=by kernel_rfl):bf P n c Q s:=bf.uY k l wl hk he (iv ws) h
theorem zQ (k:Nat) (l:List qd) (ws:List Wq) (h:bf P n (q8 k c) Q (qs (lg P n l c s))) (hk:Nat.beq l.length k=true:=by kernel_rfl) (he:pI (lg P n l c s)=some (HS ws):=by kernel_rfl):bf P n c Q s:=bf.IJ k l hk he (iv ws) h
theorem zX (x:qd) (ws:List Wq) (h:Q .normal (qs (tq P n c x s))) (he:pI (tq P n c x s)=some (HS ws):=by kernel_rfl):bf P n c Q s:=bf.SP x he (iv ws) h
theorem zS (h:bf P n (iG c) (sQ (bf P n (dO c) Q) Q) s) (hc:BP c=true:=by kernel_rfl):bf P n c Q s:=bf.seq hc h
theorem zB (id:Nat) (h:bf P n (fN c) (PN id Q) s) (hc:K0 c=some id:=by kernel_rfl):bf P n c Q s:=bf.block hc h
theorem zK (h:Q .normal s) (hc:DJ c=true:=by kernel_rfl):bf P n c Q s:=bf.skip hc h
theorem zR (h:Q .ret s) (hc:Jq c=true:=by kernel_rfl):bf P n c Q s:=bf.ret hc h
theorem zE (id:Nat) (h:Q (.exit id) s) (hc:NC c=some id:=by kernel_rfl):bf P n c Q s:=bf.exit hc h
theorem zT (t:Nat) (h:bf P n (pc c) Q s) (hc:lJ c=some (.tmp t):=by kernel_rfl) (hx:bq s (.tmp t)= .val (.bool true):=by kernel_rfl):bf P n c Q s:=bf.KR hc hx rfl h
theorem zF (t:Nat) (h:bf P n (pw c) Q s) (hc:lJ c=some (.tmp t):=by kernel_rfl) (hx:bq s (.tmp t)= .val (.bool false):=by kernel_rfl):bf P n c Q s:=bf.KS hc hx rfl h
theorem gX (t:Nat) (p:Prop) [Decidable p] (h:bf P n (pc c) Q s) (hp:p:=by omega) (hc:lJ c=some (.tmp t):=by kernel_rfl) (hx:bq s (.tmp t)= .val (.bool (decide p)):=by kernel_rfl):bf P n c Q s:=bf.KR hc hx (decide_eq_true hp) h
theorem dm (t:Nat) (p:Prop) [Decidable p] (h:bf P n (pw c) Q s) (hp:¬p:=by omega) (hc:lJ c=some (.tmp t):=by kernel_rfl) (hx:bq s (.tmp t)= .val (.bool (decide p)):=by kernel_rfl):bf P n c Q s:=bf.KS hc hx (decide_eq_false hp) h
theorem du (t:Nat) (b:Bool) (hb:b=true) (h:bf P n (pc c) Q s) (hc:lJ c=some (.tmp t):=by kernel_rfl) (hx:bq s (.tmp t)= .val (.bool b):=by kernel_rfl):bf P n c Q s:=bf.KR hc hx hb h
theorem bj (t:Nat) (b:Bool) (hb:b=false) (h:bf P n (pw c) Q s) (hc:lJ c=some (.tmp t):=by kernel_rfl) (hx:bq s (.tmp t)= .val (.bool b):=by kernel_rfl):bf P n c Q s:=bf.KS hc hx hb h
theorem zD (t:Nat) (p:Prop) [Decidable p] (ht:p->bf P n (pc c) Q s) (hf:¬p->bf P n (pw c) Q s) (hc:lJ c=some (.tmp t):=by kernel_rfl) (hx:bq s (.tmp t)= .val (.bool (decide p)):=by kernel_rfl):bf P n c Q s:=bf.RX hc hx ht hf
theorem zN {α:Type} [BEq α] [LawfulBEq α] (t:Nat) (u v:α) (ht:u≠v->bf P n (pc c) Q s) (hf:u=v->bf P n (pw c) Q s) (hc:lJ c=some (.tmp t):=by kernel_rfl) (hx:bq s (.tmp t)= .val (.bool (u != v)):=by kernel_rfl):bf P n c Q s:=bf.RW hc hx ht hf
theorem zL {ι:Type} (I:ι->AS) (Inv:ι->Prop) (m:ι->Nat) (x0:ι) (h0:Inv x0) (hw:bO s (I x0)) (h:∀x,Inv x->bf P n (fN c) (Round I Inv m Q x) (I x)) (hc:Jr c=true:=by kernel_rfl):bf P n c Q s:=bf.loop I Inv m hc x0 h0 hw h
end
theorem zO {P:Program} {f:FuncId} {fn:Func} {args:List AV} {r:AV} (hf:P.funcs[f]?=some fn) (n:Nat) (h:bf P n (dz fn) (xl P fn.results.toList r) ⟨lq 0 args,[]⟩) (hb:fn.body.isSome=true:=by kernel_rfl) (hn:fn.ntmps=n:=by kernel_rfl) (iS:Nat.ble args.length n=true:=by kernel_rfl):bA P f args r:=bA.I3 hf hb n hn iS h
theorem zV {P:Program} {rs:List ResultVar} {r:AV} {s:AS} (ws:List Wq) (he:oq P s rs r=some (HS ws):=by kernel_rfl):xl P rs r .ret s:=xl.LL he (iv ws)
theorem zW {s s2:AS} (l:List Wk) (he:wk l s=some s2:=by kernel_rfl):bO s s2:=bO.VP l he
def Oi:AV->List Prop
 | .val v=>[v=v]
 | .own _ row=>[row=row]
 | .sl _ row=>[row=row]
 | .arr cs=>[cs=cs]
 | .box row=>[row=row]
 | _=>[]
def LQ:AV->List Prop
 | .agg rs=>(rs.map Oi).flatten
 | r=>Oi r
def Oh:AV->List Prop
 | .b_ rs=>(rs.map LQ).flatten
 | r=>LQ r
theorem u7 {f:AV->List Prop} (h:∀x,bw (f x)):∀l:List AV,bw (l.map f).flatten
 | []=>trivial
 | x::l=>bN.2 ⟨h x,u7 h l⟩
theorem Bu (x:AV):bw (Oi x):=by cases x<;>first|exact ⟨rfl,trivial⟩|exact trivial
theorem Bt (x:AV):bw (LQ x):=by
 unfold LQ
 split
 · exact u7 Bu _
 · exact Bu _
theorem IL (x:AV):bw (Oh x):=by
 unfold Oh
 split
 · exact u7 Bt _
 · exact Bt _
theorem bL {P:Program} {rs:List ResultVar} {r:AV} {s:AS} (he:oq P s rs r=some (Oh r):=by kernel_rfl):xl P rs r .ret s:=xl.LL he (IL r)
theorem a6 {P:Program} {n:Nat} {c:Code} {Q1:AS->Prop} {Q:Exit->AS->Prop} {s:AS} (h:Q1 s) (hc:DJ c=true:=by kernel_rfl):bf P n c (sQ Q1 Q) s:=bf.skip hc (al h)
theorem dk {P:Program} {n:Nat} {c:Code} {Q1:AS->Prop} {Q:Exit->AS->Prop} {s:AS} (h:Q .ret s) (hc:Jq c=true:=by kernel_rfl):bf P n c (sQ Q1 Q) s:=bf.ret hc (aI h)
theorem zq {P:Program} {n:Nat} {c:Code} {Q:Exit->AS->Prop} {s:AS} (h:bf P n (q8 1 c) Q (qs (lg P n [{}] c s))) (he:pI (lg P n [{}] c s)=some []:=by kernel_rfl):bf P n c Q s:=bf.IJ 1 [{}] (by kernel_rfl) he trivial h
theorem eX {s s2:AS} (l:List Wk) (fs hs:List Nat) (ws:List Wq) (he:Pl l fs hs s s2=some (s2,HS ws):=by kernel_rfl):bO s s2:=bO.VQ l fs hs he (iv ws)
theorem zG {P:Program} {rs:List ResultVar} {r:AV} {H':List (Nat×Row)} {s:AS} (l:List Wk) (ws:List Wq) (hw:R_ l s=true:=by kernel_rfl) (he:oo P (R9 l s) rs r H'=some (HS ws):=by kernel_rfl):lL P rs r H' .ret s:=lL.LL l (E3 hw) he (iv ws)
theorem nw {P:Program} {f:FuncId} {fn:Func} {args:List AV} {H H':List (Nat×Row)} {r:AV} (hf:P.funcs[f]?=some fn) (n:Nat) (h:bf P n (dz fn) (lL P fn.results.toList r H') ⟨lq 0 args,H⟩) (hb:fn.body.isSome=true:=by kernel_rfl) (hn:fn.ntmps=n:=by kernel_rfl) (iS:Nat.ble args.length n=true:=by kernel_rfl):gw P f args H r H':=gw.I3 hf hb n hn iS h
theorem yw {P:Program} {n:Nat} {c:Code} {Q:Exit->AS->Prop} {s:AS} (T:Nat) (Ws:List Nat) (hs:List (Nat×Hint)) (ws:List Wq) (h:Q .normal (qs (sr P n T Ws hs c s))) (he:pI (sr P n T Ws hs c s)=some (HS ws):=by kernel_rfl):bf P n c Q s:=bf.QB T Ws hs (i_ he) (iv ws) h
theorem R8 {P:Program} {n:Nat} {c:Code} {Q:Exit->AS->Prop} {s:AS} (T:Nat) (Ks:List Nat) (hs:List (Nat×Hint)) (ws:List Wq) (h:Q .normal (qs (su P n T Ks hs c s))) (he:pI (su P n T Ks hs c s)=some (HS ws):=by kernel_rfl):bf P n c Q s:=bf.QC T Ks hs (i_ he) (iv ws) h
theorem zA {P:Program} {n:Nat} {c:Code} {Q:Exit->AS->Prop} {s:AS} (T:Nat) (Ws Fs:List Nat) (hs:List (Nat×Hint)) (ws:List Wq) (h:Q .normal (qs (Aa P n T Ws Fs hs c s))) (he:pI (Aa P n T Ws Fs hs c s)=some (HS ws):=by kernel_rfl):bf P n c Q s:=bf.SR T Ws Fs hs (i_ he) (iv ws) h
theorem UE {P:Program} {n:Nat} {c:Code} {Q:Exit->AS->Prop} {s:AS} (M q:Nat) (Ws Fs:List Nat) (hs:List (Nat×Hint)) (ws:List Wq) (h:Q .normal (qs (Of (m9 P n M q Ws Fs hs c s)))) (hx:Ng (m9 P n M q Ws Fs hs c s)=Nf (m9 P n M q Ws Fs hs c s):=by kernel_rfl) (he:pI (Of (m9 P n M q Ws Fs hs c s))=some (HS ws):=by kernel_rfl):bf P n c Q s:=bf.SQ M q Ws Fs hs hx (i_ he) (iv ws) h
theorem nj {P:Program} {n:Nat} {ops l:List Oper} {s s':AS} (hs:List (Nat×Hint)) (wl:List Wk) (ws:List Wq) (he:Pn P n ops hs wl l s=some (s',HS ws):=by kernel_rfl):fe P n ops l s s':=fe.part hs wl he (iv ws)
end Go.Proofs.YtjgbhhnghedgdaaGreatDoor
