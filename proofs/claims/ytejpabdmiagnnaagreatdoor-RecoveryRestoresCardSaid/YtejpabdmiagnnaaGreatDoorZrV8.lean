import Derived.Test.YtejpabdmiagnnaaGreatDoorZrRC
import Derived.Test.YtejpabdmiagnnaaGreatDoorProg
import Derived.Shelf.Unicode.ValidAny
set_option linter.all false
namespace Go.Proofs.YtejpabdmiagnnaaGreatDoor
open Go.RowKit Go.Shelf Go.Lib
theorem rv8 {S:Nat->Prop} {w:World} {v u:Value} (h:Rep S w v (.val u)):v=u:=by cases h;rfl
def v8ren:Ren:=⟨fun|196=>121|259=>175|n=>n,fun|9=>9|4=>4|3=>3|5=>5|12=>12|119=>196|0=>0|46=>74|139=>199|138=>198|53=>23|n=>n,fun|3=>0|4=>1|n=>n⟩
theorem v8lays:Lays.n196 Tryz.prog v8ren:={
 mixed:=by kernel_rfl
 f196:=Tryz.func121.trans (congrArg some (by kernel_rfl))
 f259:=Tryz.func175.trans (congrArg some (by kernel_rfl))
 t0:=Tryz.underlying0
 a0:=Tryz.isAgg0
 z0:=Tryz.sizeOf0
 v0:=Tryz.zeroValue0
 t3:=Tryz.underlying3
 a3:=Tryz.isAgg3
 z3:=Tryz.sizeOf3
 v3:=Tryz.zeroValue3
 t4:=Tryz.underlying4
 a4:=Tryz.isAgg4
 z4:=Tryz.sizeOf4
 v4:=Tryz.zeroValue4
 t5:=Tryz.underlying5
 a5:=Tryz.isAgg5
 z5:=Tryz.sizeOf5
 v5:=Tryz.zeroValue5
 t9:=Tryz.underlying9
 a9:=Tryz.isAgg9
 z9:=Tryz.sizeOf9
 v9:=Tryz.zeroValue9
 t12:=Tryz.underlying12
 a12:=Tryz.isAgg12
 z12:=Tryz.sizeOf12
 v12:=Tryz.zeroValue12
 t46:=Tryz.underlying74
 a46:=Tryz.isAgg74
 z46:=Tryz.sizeOf74
 v46:=Tryz.zeroValue74
 t53:=Tryz.underlying23
 a53:=Tryz.isAgg23
 z53:=Tryz.sizeOf23
 v53:=Tryz.zeroValue23
 t119:=Tryz.underlying196
 a119:=Tryz.isAgg196
 z119:=Tryz.sizeOf196
 t138:=Tryz.underlying198
 a138:=Tryz.isAgg198
 z138:=Tryz.sizeOf198
 v138:=Tryz.zeroValue198
 t139:=Tryz.underlying199
 a139:=Tryz.isAgg199
 z139:=Tryz.sizeOf199
 v139:=Tryz.zeroValue199
 g3:=by kernel_rfl
 g4:=by kernel_rfl}
theorem valid_ret (s:List UInt8) (hs:s.length≤9223372036854775807):Ret Tryz.prog 121 [as_ s] (ao (Lib.validD s)):=by
 intro w S vs hgood hS hl hr
 obtain ⟨v,rfl⟩:=List.length_eq_one_iff.1 hl
 have e:=rv8 (hr 0 v _ rfl rfl)
 subst e
 refine (Any.utf8_ValidString v8lays ⟨s.toArray⟩ w (by simpa [ByteArray.size] using hs) hgood).mono fun e w' ⟨he,hb⟩=>?_
 exact ⟨_,[],he,hb,List.nodup_nil,by simp,.inl (.inl (.rep (.val _)))⟩
end Go.Proofs.YtejpabdmiagnnaaGreatDoor
namespace Go.Proofs.YtejpabdmiagnnaaGreatDoor
open Go.RowKit
theorem avw_div (x y:UInt64):AV.val (.int .u64 (IntKind.u64.wrap ((wv x).tdiv (wv y))))=aw (x/y):=by
 have e:(wv x).tdiv (wv y)=wv (x/y):=by
  unfold wv;rw [UInt64.toNat_div,Int.tdiv_eq_ediv_of_nonneg (by omega)];rfl
 rw [e];exact avw_self _
theorem avw_mod (x y:UInt64):AV.val (.int .u64 ((wv x).tmod (wv y)))=aw (x%y):=by
 have e:(wv x).tmod (wv y)=wv (x%y):=by
  unfold wv;rw [UInt64.toNat_mod,Int.tmod_eq_emod_of_nonneg (by omega)];rfl
 rw [e]
def msk (a:Int) (m:Nat):Nat:=(BitVec.ofInt IntKind.i64.bits a&&&BitVec.ofInt IntKind.i64.bits (m:Int)).toNat
theorem msk_le (a:Int) (m:Nat) (hm:m≤9223372036854775807):msk a m≤m:=by
 have e:(BitVec.ofInt IntKind.i64.bits (m:Int)).toNat=m:=by
  rw [BitVec.toNat_ofInt]
  show ((m:Int)%(2^64:Nat)).toNat=m
  omega
 have h:msk a m≤(BitVec.ofInt IntKind.i64.bits (m:Int)).toNat:=by unfold msk;rw [BitVec.toNat_and];exact Nat.and_le_right
 omega
theorem avi_msk (a:Int) (m:Nat) (hm:m≤9223372036854775807):AV.val (.int .i64 (IntKind.i64.wrap ((BitVec.ofInt IntKind.i64.bits a&&&BitVec.ofInt IntKind.i64.bits (m:Int)).toNat:Nat)))=ai (msk a m):=by
 have h:=msk_le a m hm
 exact av_i64 (n:=((msk a m:Nat):Int)) (by omega) (by omega)
abbrev au0:AV:=.val (.int .u64 0)
def evRegsP (P:Program) (n:Nat) (l:List Said) (wl:List Wk) (c:Code) (s:AS):Option (AS×List Prop) :=
 match evRegs P n l c s with
 | some (s1,C)=>(match wk wl s1 with|some s2=>some (s2,C)|none=>none)
 | none=>none
theorem AWP.regsP {P:Program} {n:Nat} {c:Code} {Q:Exit->AS->Prop} {s s':AS} {C:List Prop} (k:Nat) (l:List Said) (wl:List Wk) (hk:Nat.beq l.length k=true) (he:evRegsP P n l wl c s=some (s',C)) (hC:AllP C) (h:AWP P n (dropC k c) Q s'):AWP P n c Q s:=by
 unfold evRegsP at he
 split at he
 ·rename_i s1 C1 h1
  split at he
  ·rename_i s2 h2
   cases he
   exact AWP.regsK k l hk h1 hC (AWP.wk wl h2 h)
  ·cases he
 ·cases he
def resS (r:Option (AS×List Prop)):AS:=match r with|some (s',_)=>s'|none=>⟨[],[]⟩
def resC (r:Option (AS×List Prop)):Option (List Prop):=match r with|some (_,C)=>some C|none=>none
theorem res_some {r:Option (AS×List Prop)} {C:List Prop} (h:resC r=some C):r=some (resS r,C):=by
 unfold resC at h
 split at h
 ·cases h;rfl
 ·cases h
def wkS (l:List Wk) (s:AS):AS:=match wk l s with|some s'=>s'|none=>⟨[],[]⟩
def wkB (l:List Wk) (s:AS):Bool:=(wk l s).isSome
theorem wk_some {l:List Wk} {s:AS} (h:wkB l s=true):wk l s=some (wkS l s):=by
 unfold wkB at h
 unfold wkS
 cases hw:wk l s with
 | some _=>rfl
 | none=>rw [hw] at h;cases h
section
variable {P:Program} {n:Nat} {c:Code} {Q:Exit->AS->Prop} {s:AS} {C:List Prop}
theorem AWP.wkX (l:List Wk) (he:wkB l s=true) (h:AWP P n c Q (wkS l s)):AWP P n c Q s:=AWP.wk l (wk_some he) h
theorem AWP.regsKX (k:Nat) (l:List Said) (hk:Nat.beq l.length k=true) (he:resC (evRegs P n l c s)=some C) (hC:AllP C) (h:AWP P n (dropC k c) Q (resS (evRegs P n l c s))):AWP P n c Q s:=AWP.regsK k l hk (res_some he) hC h
theorem AWP.regsPX (k:Nat) (l:List Said) (wl:List Wk) (hk:Nat.beq l.length k=true) (he:resC (evRegsP P n l wl c s)=some C) (hC:AllP C) (h:AWP P n (dropC k c) Q (resS (evRegsP P n l wl c s))):AWP P n c Q s:=AWP.regsP k l wl hk (res_some he) hC h
theorem AWP.regX (x:Said) (he:resC (evReg P n c x s)=some C) (hC:AllP C) (h:Q .normal (resS (evReg P n c x s))):AWP P n c Q s:=AWP.reg x (res_some he) hC h
end
theorem Weaks.ofX {s s2:AS} (l:List Wk) (he:wk l s=some s2):Weaks s s2:=Weaks.of l he rfl
structure Wq where
 p:Prop
 h:p
def yI {p:Prop} (h:p):Wq:=⟨p,h⟩
def yB (p:Prop) (h:p):Wq:=⟨p,h⟩
def yR {T:Type} (x:T):Wq:=⟨x=x,rfl⟩
def yF (p:Prop) [Decidable p] (h:¬p:=by omega):Wq:=⟨decide p=false,decide_eq_false h⟩
def yT (p:Prop) [Decidable p] (h:p:=by omega):Wq:=⟨decide p=true,decide_eq_true h⟩
def yO (p:Prop) (h:p:=by omega):Wq:=⟨p,h⟩
def yN (x:Int) (h1: -9223372036854775808≤x:=by omega) (h2:x≤9223372036854775807:=by omega):Wq:=⟨ai (IntKind.i64.wrap x)=ai x,av_i64 h1 h2⟩
def yJ (a b:Int) (h:Value.int .i64 a=Value.int .i64 b):Wq:=⟨_,h⟩
def yK (a b:Int) (h:Value.int .u64 a=Value.int .u64 b):Wq:=⟨_,h⟩
def yL (a b:Nat) (h:Nat.ble a b=true:=by kernel_rfl):Wq:=⟨a≤b,Nat.le_of_ble_eq_true h⟩
def yV (x:AV):Hint:={av:=some x}
def yH (l:List (Nat×Hint)):Said:={hs:=l}
def wqs (l:List Wq):List Prop:=l.map Wq.p
theorem wqs_all:∀l:List Wq,AllP (wqs l)
 | []=>trivial
 | w::l=>⟨w.h,wqs_all l⟩
section
variable {P:Program} {n:Nat} {c:Code} {Q:Exit->AS->Prop} {s:AS}
theorem zP (k:Nat) (l:List Said) (wl:List Wk) (ws:List Wq) (h:AWP P n (dropC k c) Q (resS (evRegsP P n l wl c s))) (hk:Nat.beq l.length k=true:=by kernel_rfl) (he:resC (evRegsP P n l wl c s)=some (wqs ws):=by kernel_rfl):AWP P n c Q s:=AWP.regsPX k l wl hk he (wqs_all ws) h
theorem zQ (k:Nat) (l:List Said) (ws:List Wq) (h:AWP P n (dropC k c) Q (resS (evRegs P n l c s))) (hk:Nat.beq l.length k=true:=by kernel_rfl) (he:resC (evRegs P n l c s)=some (wqs ws):=by kernel_rfl):AWP P n c Q s:=AWP.regsKX k l hk he (wqs_all ws) h
theorem zX (x:Said) (ws:List Wq) (h:Q .normal (resS (evReg P n c x s))) (he:resC (evReg P n c x s)=some (wqs ws):=by kernel_rfl):AWP P n c Q s:=AWP.regX x he (wqs_all ws) h
theorem zS (h:AWP P n (fstC c) (Then (AWP P n (sndC c) Q) Q) s) (hc:isSeq c=true:=by kernel_rfl):AWP P n c Q s:=AWP.seq hc h
theorem zB (id:Nat) (h:AWP P n (bodyC c) (InB id Q) s) (hc:blockC c=some id:=by kernel_rfl):AWP P n c Q s:=AWP.block hc h
theorem zK (h:Q .normal s) (hc:isSkip c=true:=by kernel_rfl):AWP P n c Q s:=AWP.skip hc h
theorem zR (h:Q .ret s) (hc:isRet c=true:=by kernel_rfl):AWP P n c Q s:=AWP.ret hc h
theorem zE (id:Nat) (h:Q (.exit id) s) (hc:exitC c=some id:=by kernel_rfl):AWP P n c Q s:=AWP.exit hc h
theorem zT (t:Nat) (h:AWP P n (thenC c) Q s) (hc:condC c=some (.tmp t):=by kernel_rfl) (hx:opd s (.tmp t)= .val (.bool true):=by kernel_rfl):AWP P n c Q s:=AWP.condT hc hx rfl h
theorem zF (t:Nat) (h:AWP P n (elseC c) Q s) (hc:condC c=some (.tmp t):=by kernel_rfl) (hx:opd s (.tmp t)= .val (.bool false):=by kernel_rfl):AWP P n c Q s:=AWP.condF hc hx rfl h
theorem zTd (t:Nat) (p:Prop) [Decidable p] (h:AWP P n (thenC c) Q s) (hp:p:=by omega) (hc:condC c=some (.tmp t):=by kernel_rfl) (hx:opd s (.tmp t)= .val (.bool (decide p)):=by kernel_rfl):AWP P n c Q s:=AWP.condT hc hx (decide_eq_true hp) h
theorem zFd (t:Nat) (p:Prop) [Decidable p] (h:AWP P n (elseC c) Q s) (hp:¬p:=by omega) (hc:condC c=some (.tmp t):=by kernel_rfl) (hx:opd s (.tmp t)= .val (.bool (decide p)):=by kernel_rfl):AWP P n c Q s:=AWP.condF hc hx (decide_eq_false hp) h
theorem zTb (t:Nat) (b:Bool) (hb:b=true) (h:AWP P n (thenC c) Q s) (hc:condC c=some (.tmp t):=by kernel_rfl) (hx:opd s (.tmp t)= .val (.bool b):=by kernel_rfl):AWP P n c Q s:=AWP.condT hc hx hb h
theorem zFb (t:Nat) (b:Bool) (hb:b=false) (h:AWP P n (elseC c) Q s) (hc:condC c=some (.tmp t):=by kernel_rfl) (hx:opd s (.tmp t)= .val (.bool b):=by kernel_rfl):AWP P n c Q s:=AWP.condF hc hx hb h
theorem zD (t:Nat) (p:Prop) [Decidable p] (ht:p->AWP P n (thenC c) Q s) (hf:¬p->AWP P n (elseC c) Q s) (hc:condC c=some (.tmp t):=by kernel_rfl) (hx:opd s (.tmp t)= .val (.bool (decide p)):=by kernel_rfl):AWP P n c Q s:=AWP.condD hc hx ht hf
theorem zN {α:Type} [BEq α] [LawfulBEq α] (t:Nat) (u v:α) (ht:u≠v->AWP P n (thenC c) Q s) (hf:u=v->AWP P n (elseC c) Q s) (hc:condC c=some (.tmp t):=by kernel_rfl) (hx:opd s (.tmp t)= .val (.bool (u != v)):=by kernel_rfl):AWP P n c Q s:=AWP.condN hc hx ht hf
theorem zL {ι:Type} (I:ι->AS) (Inv:ι->Prop) (m:ι->Nat) (x0:ι) (h0:Inv x0) (hw:Weaks s (I x0)) (h:∀x,Inv x->AWP P n (bodyC c) (Round I Inv m Q x) (I x)) (hc:isLoop c=true:=by kernel_rfl):AWP P n c Q s:=AWP.loop I Inv m hc x0 h0 hw h
end
theorem zO {P:Program} {f:FuncId} {fn:Func} {args:List AV} {r:AV} (hf:P.funcs[f]?=some fn) (n:Nat) (h:AWP P n (bodyOf fn) (Done P fn.results.toList r) ⟨argsF 0 args,[]⟩) (hb:fn.body.isSome=true:=by kernel_rfl) (hn:fn.ntmps=n:=by kernel_rfl) (hargs:Nat.ble args.length n=true:=by kernel_rfl):Ret P f args r:=Ret.of_fn hf hb n hn hargs h
theorem zV {P:Program} {rs:List ResultVar} {r:AV} {s:AS} (ws:List Wq) (he:evRes P s rs r=some (wqs ws):=by kernel_rfl):Done P rs r .ret s:=Done.ret_ he (wqs_all ws)
theorem zW {s s2:AS} (l:List Wk) (he:wk l s=some s2:=by kernel_rfl):Weaks s s2:=Weaks.ofX l he
end Go.Proofs.YtejpabdmiagnnaaGreatDoor
