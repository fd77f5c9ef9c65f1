import Derived.Test.YtjgbhhnghedgdaaGreatDoorZsDR
import Derived.Lib.AppendZerosOnto
import Derived.Lib.SliceRun
import Derived.Test.YtjgbhhnghedgdaaGreatDoorZsV8
import Derived.Test.YtjgbhhnghedgdaaGreatDoorZsRQ
import Derived.Test.YtjgbhhnghedgdaaGreatDoorProg
import Derived.Test.YtjgbhhnghedgdaaGreatDoorZsRJ
import Derived.KernelRfl
import Derived.Test.YtjgbhhnghedgdaaGreatDoorZsRC
import Derived.Lib.Mul64
import Derived.Test.YtjgbhhnghedgdaaGreatDoorZsRF
import Derived.MapKept
import Derived.Test.YtjgbhhnghedgdaaGreatDoorZsCl
set_option linter.all false
namespace Go.Proofs.YtjgbhhnghedgdaaGreatDoor
open Go.RowKit
set_option maxHeartbeats 4000000 in
theorem grow_any (n:Nat) (w:World) (h0:0<n) (hn:n≤70368744177664) :
  Calls Tryz.prog 90 #[.slice none 0 0,.int .i64 n] w fun e w'=>NewBytes w e w' []:=by
 obtain ⟨i0,hi0,hz0,hs0,hb0⟩:∃i:TypeInfo,Tryz.prog.info? 5=some i∧i.zero=some (.int .u8 0)∧i.size=1∧i.bytes=1:=by
  have h:=info8
  cases hp:Tryz.prog.info? 5 with
  | none=>rw [hp] at h;cases h
  | some i=>rw [hp] at h;simp at h;exact ⟨i,rfl,h⟩
 have hold:(Builtin.firstCells i0.size 0 (.slice none 0 0)).run Tryz.prog w.drew= .ok (([]:List Value)).toArray w.drew:=run_firstCells_none w.drew i0.size 0 0 0
 have hrz:∀ty,(Builtin.append_ #[25,3] ty #[.slice none 0 0,.int .i64 n]).run Tryz.prog w =
   .ok (.slice (some ⟨w.heap.size,0,none⟩) n (grownCap w n 0 5)) (w.drew.alloc (.cells (#[]++Builtin.zeroCells (Value.int .u8 0).cells n++Builtin.zeroCells (Value.int .u8 0).cells (grownCap w n 0 5-n)) 5)):=fun ty=>by
  have h:=Lib.run_append_grow_zeros w 25 3 ty 5 i0 (.int .u8 0) .i64 .i64 Tryz.underlying25 Tryz.underlying3 hi0 hz0 none 0 0 [] hold n h0 (by omega) (by omega) (by omega) (by rw [hb0];omega)
   (by have:=growslice_fits (bytes:=i0.bytes) (show 0<0+n by omega) (by rw [hb0];omega);exact this)
  simpa using h
 have hGn:n≤grownCap w n 0 5:=grownCap_ge w _ _ _
 obtain ⟨G,hG⟩:∃G,G=grownCap w n 0 5:=⟨_,rfl⟩
 rw [←hG] at hrz hGn
 have hG63:G≤9223372036854775807:=by
  have:=grownCap_le_maxLen w n 0 5 (by unfold maxLen;omega)
  rw [←hG] at this
  unfold maxLen at this
  omega
 clear hold hG
 have h1:¬((n:Int)<0):=by omega
 have h3:wrap64 ((n:Int)-0)=(n:Int):=by unfold wrap64;omega
 have h4:(n:Int)>0:=by omega
 go_enter Tryz.func90,Tryz.ntmps90
 go_wp2_with (at_builtin;refine Lib.wpList_append_run _ rfl _ _ _ _ rfl _ _ rfl rfl _ _ (hrz _) ?_)
 all_goals (go_ret;exact ⟨_,rfl,.inr ⟨w.heap.size,G,_,_,(0,0),rfl,Nat.le_refl _,heap_alloc_new w.drew _,by simp [bvs],by unfold maxLen;omega,by simp [Builtin.zeroCells];omega,by simp [bvs],by simp⟩,rfl,rfl,rfl,by simp,fun b hb=>Below.heap_alloc w.drew _ b hb⟩)
theorem grow0_any (w:World) :
  Calls Tryz.prog 90 #[.slice none 0 0,.int .i64 0] w fun e w'=>NewBytes w e w' []:=by
 go_enter Tryz.func90,Tryz.ntmps90
 go_wp2
 go_ret
 exact ⟨_,rfl,.inl ⟨rfl,rfl⟩,Below.refl _ _⟩
theorem grow_ret (n:Nat) (hn:n≤70368744177664):Ret Tryz.prog 90 [.nil,ai n] (.own 1 (bytesA [])):=by
 refine Ret.of_bytes fun w vs hl hr=>?_
 obtain ⟨a,b,rfl⟩:=args2 hl rfl
 have h0:=hr 0 a _ rfl rfl
 have ha:a= .slice none 0 0:=by cases h0;rfl
 rw [ha,rep_val (hr 1 b _ rfl rfl)]
 by_cases h:n=0
 ·subst h;exact grow0_any w
 ·exact grow_any n w (by omega) hn
end Go.Proofs.YtjgbhhnghedgdaaGreatDoor
namespace Go.Proofs.YtjgbhhnghedgdaaGreatDoor
open Go.RowKit
set_option maxRecDepth 100000
set_option maxHeartbeats 4000000
set_option linter.unusedVariables false
def bytesC (b:List UInt8):List AV:=[.sl 1 (bytesA b)]
def lensum (l:List (List UInt8)):Nat:=(l.map List.length).foldr (· + ·) 0
theorem lensum_take (l:List (List UInt8)) (i:Nat) (h:i<l.length):lensum (l.take (i+1))=lensum (l.take i)+(l.getD i default).length:=by
 induction l generalizing i with
 | nil=>simp at h
 | cons a l ih =>
  cases i with
  | zero=>simp [lensum]
  | succ i =>
   have:=ih i (by simpa using h)
   simp [lensum] at this ⊢
   omega
theorem lensum_le (l:List (List UInt8)) (i:Nat):lensum (l.take i)≤lensum l:=by
 induction l generalizing i with
 | nil=>simp [lensum]
 | cons a l ih =>
  cases i with
  | zero=>simp [lensum]
  | succ i=>have:=ih i;simp [lensum] at this ⊢;omega
theorem flat_take (l:List (List UInt8)) (i:Nat) (h:i<l.length):(l.take i).flatten++l.getD i default=(l.take (i+1)).flatten:=by
 rw [List.take_add_one,List.flatten_append]
 simp [h]
theorem flat_len (l:List (List UInt8)):l.flatten.length=lensum l:=by
 induction l with
 | nil=>rfl
 | cons a l ih=>simp [lensum,ih]
theorem concat_ret (l:List (List UInt8)) (h:lensum l≤70368744177664) (h2:l.length≤1000):Ret Tryz.prog 45 [.sl 1 (encA bytesC l)] (.own 1 (bytesA l.flatten)):=by
 have hl:(encA bytesC l).length=l.length:=by rw [encA_len (e:=1) (fun _=>rfl),Nat.mul_one]
 have hat:∀i,i<l.length->(encA bytesC l)[i]?=some (.sl 1 (bytesA (l.getD i default))):=fun i hi=>by
  have:=encA_at (f:=bytesC) (e:=1) (fun _=>rfl) (j:=0) hi rfl
  rwa [Nat.mul_one,Nat.add_zero] at this
 have ht:l.take l.length=l:=List.take_of_length_le (Nat.le_refl _)
 refine zO Tryz.func45 36 ?_
 refine zQ 2 [{},{}] [] ?_
 refine zS ?_
 refine zQ 1 [yH [(1,{k:=(encA bytesC l).length})]] [yR ((encA bytesC l).length)] ?_
 refine zB 0 ?_
 refine zL (fun (i:Nat)=>(⟨[(10,ai (↑(encA bytesC l).length:Int)),(9,AV.sl 1 (encA bytesC l)),(2,AV.nil),(0,AV.sl 1 (encA bytesC l)),(11,ai i),(3,ai (lensum (l.take i)))],[]⟩:AS)) (fun i=>(i≤l.length)) (fun i=>(l.length-i)) (0) ?_ (zW [.keep [10,9,2,0,11,3] []]) ?_
 ·omega
 intro i hi
 have hle:=lensum_le l i
 have hle1:=lensum_le l (i+1)
 refine zQ 1 [{}] [] ?_
 refine zS ?_
 refine zD 12 ((↑i:Int)<(↑(encA bytesC l).length:Int)) (fun h3=>?_) (fun h3=>?_)
 ·have hi':i<l.length:=by omega
  have h4:=lensum_take l i hi'
  refine zK ?_
  refine then_n ?_
  refine zS ?_
  refine zB 1 ?_
  refine zP 3 [yH [(0,{k:=i}),(1,yV (AV.sl 1 (bytesA (l.getD i default))))],yH [(2,{k:=(l.getD i default).length}),(3,yV (ai ((↑(lensum (List.take i l)):Int)+(↑(l.getD i default).length:Int))))],{}] [.keep [20,3,5,12,10,9,2,0,11] []] [yR (↑i:Int),yO (i<(encA bytesC l).length),yB ((encA bytesC l)[i]?=some (AV.sl 1 (bytesA (l.getD i default)))) (hat i (by omega)),yI (bytesA_len (l.getD i default)),yN ((↑(lensum (List.take i l)):Int)+(↑(l.getD i default).length:Int))] ?_
  refine zFd 20 ((↑(lensum (List.take i l)):Int)+(↑(l.getD i default).length:Int)<0) ?_
  refine zK ?_
  refine inb_n ?_
  refine then_n ?_
  refine zX (yH [(0,yV (ai ((↑i:Int)+1)))]) [yN ((↑i:Int)+1)] ?_
  refine round_n (i+1) (by assumption) (by omega) (Weaks.of [.keep [10,9,2,0,11,3] []] (s1:=AS.mk [(10,ai (↑(encA bytesC l).length:Int)),(9,AV.sl 1 (encA bytesC l)),(2,AV.nil),(0,AV.sl 1 (encA bytesC l)),(11,ai ((↑i:Int)+1)),(3,ai ((↑(lensum (List.take i l)):Int)+(↑(l.getD i default).length:Int)))] []) (by kernel_rfl) (as_eq (f_cons rfl (f_cons rfl (f_cons rfl (f_cons rfl (f_cons (congrArg (fun n=>AV.val (.int .i64 n)) (by omega)) (f_cons (congrArg (fun n=>AV.val (.int .i64 n)) (by omega)) rfl)))))) rfl))
 ·have e:i=l.length:=by omega
  subst e
  rw [ht]
  refine zE 0 ?_
  refine then_e ?_
  refine round_e ?_
  refine inb_e ?_
  refine then_n ?_
  refine zP 1 [yH [(1,yV (AV.own 1 (bytesA [])))]] [.keep [6,12,10,9,2,0,11,3] [24]] [yI (grow_ret (lensum l) (by assumption)),yI (valR_bytes [])] ?_
  refine zS ?_
  refine zQ 1 [yH [(1,{k:=(encA bytesC l).length})]] [yR ((encA bytesC l).length)] ?_
  refine zB 2 ?_
  refine zL (fun (i:Nat)=>(⟨[(26,ai (↑(encA bytesC l).length:Int)),(25,AV.sl 1 (encA bytesC l)),(12,ao (decide ((↑l.length:Int)<(↑(encA bytesC l).length:Int)))),(10,ai (↑(encA bytesC l).length:Int)),(9,AV.sl 1 (encA bytesC l)),(2,AV.nil),(0,AV.sl 1 (encA bytesC l)),(11,ai (↑l.length:Int)),(3,ai (↑(lensum l):Int)),(27,ai i),(6,AV.ref 33)],[(33,⟨1,true,false,bytesA (l.take i).flatten⟩)]⟩:AS)) (fun i=>(i≤l.length)) (fun i=>(l.length-i)) (0) ?_ (zW [.ren 24 33,.keep [26,25,12,10,9,2,0,11,3,27,6] [33]]) ?_
  ·omega
  intro i hi
  have hle:=lensum_le l i
  have hle1:=lensum_le l (i+1)
  have hfl:=flat_len (l.take i)
  refine zQ 1 [{}] [] ?_
  refine zS ?_
  refine zD 28 ((↑i:Int)<(↑(encA bytesC l).length:Int)) (fun h3=>?_) (fun h3=>?_)
  ·have hi':i<l.length:=by omega
   have h4:=lensum_take l i hi'
   have h5:=flat_take l i hi'
   refine zK ?_
   refine then_n ?_
   refine zS ?_
   refine zB 3 ?_
   refine zP 1 [yH [(0,{k:=i}),(1,yV (AV.sl 1 (bytesA (l.getD i default))))]] [.keep [8,28,26,25,12,10,9,2,0,11,3,27,6] [33]] [yR (↑i:Int),yO (i<(encA bytesC l).length),yB ((encA bytesC l)[i]?=some (AV.sl 1 (bytesA (l.getD i default)))) (hat i (by omega))] ?_
   refine zX (yH [(2,{av:=some (AV.arr (bytesA ((List.take i l).flatten++l.getD i default))),b:=false})]) [yB (bytesA (List.take i l).flatten++bytesA (l.getD i default)=bytesA ((List.take i l).flatten++l.getD i default)) (bytesA_app _ _),yB (plainR (bytesA (l.getD i default))) (plainR_bytes _),yB (((bytesA (List.take i l).flatten).length+(bytesA (l.getD i default)).length)*(1:Nat)≤(140737488355328:Nat)) (by simp only [bytesA_len];omega)] ?_
   refine inb_n ?_
   refine then_n ?_
   refine zX (yH [(0,yV (ai ((↑i:Int)+1)))]) [yN ((↑i:Int)+1)] ?_
   refine round_n (i+1) (by assumption) (by omega) (Weaks.of [.keep [26,25,12,10,9,2,0,11,3,27,6] [33]] (s1:=AS.mk [(26,ai (↑(encA bytesC l).length:Int)),(25,AV.sl 1 (encA bytesC l)),(12,ao (decide ((↑l.length:Int)<(↑(encA bytesC l).length:Int)))),(10,ai (↑(encA bytesC l).length:Int)),(9,AV.sl 1 (encA bytesC l)),(2,AV.nil),(0,AV.sl 1 (encA bytesC l)),(11,ai (↑l.length:Int)),(3,ai (↑(lensum l):Int)),(27,ai ((↑i:Int)+1)),(6,AV.ref 33)] [(33,Row.mk 1 true false (bytesA ((List.take i l).flatten++l.getD i default)))]) (by kernel_rfl) (as_eq (f_cons rfl (f_cons rfl (f_cons rfl (f_cons rfl (f_cons rfl (f_cons rfl (f_cons rfl (f_cons rfl (f_cons rfl (f_cons rfl (f_cons rfl rfl))))))))))) (h_cons (congrArg bytesA h5) rfl)))
  ·have e:i=l.length:=by omega
   subst e
   refine zE 2 ?_
   refine then_e ?_
   refine round_e ?_
   refine inb_e ?_
   refine then_n ?_
   refine zQ 1 [{}] [] ?_
   refine zR ?_
   refine zV [yB (bytesA (List.take l.length l).flatten=bytesA l.flatten) (by rw [ht])]
end Go.Proofs.YtjgbhhnghedgdaaGreatDoor
namespace Go.Proofs.YtjgbhhnghedgdaaGreatDoor
open Go.RowKit
set_option maxRecDepth 100000
set_option maxHeartbeats 4000000
set_option linter.unusedVariables false
structure MS where
 a:UInt8
 b:UInt8
 p:UInt8
def mstep (s:MS):MS:=⟨if s.a&&&128≠0 then (s.a<<<1)^^^27 else s.a<<<1,s.b>>>1,if s.b&&&1≠0 then s.p^^^s.a else s.p⟩
def msteps (s:MS):Nat->MS
 | 0=>s
 | k+1=>mstep (msteps s k)
def gmul (a b:UInt8):UInt8:=(msteps ⟨a,b,0⟩ 8).p
end Go.Proofs.YtjgbhhnghedgdaaGreatDoor
namespace Go.Proofs.YtjgbhhnghedgdaaGreatDoor
open Go.RowKit
set_option maxRecDepth 100000
set_option maxHeartbeats 4000000
set_option linter.unusedVariables false
def hst (rnd:List UInt8) (L j:Nat) (x:UInt8) (need:Nat):Nat->UInt8
 | 0=>0
 | m+1=>gmul (hst rnd L j x need m^^^rnd.getD ((need-1-m-1)*L+j) 0) x
end Go.Proofs.YtjgbhhnghedgdaaGreatDoor
namespace Go.Proofs.YtjgbhhnghedgdaaGreatDoor
open Go.RowKit
set_option maxRecDepth 100000
set_option maxHeartbeats 4000000
set_option linter.unusedVariables false
def strC (s:List UInt8):List AV:=[as_ s]
structure Dep where
 pub:UInt64
 peer:UInt64
 box:List UInt8
 holders:List (List UInt8)
 digests:List UInt64
 need:Int
 target:UInt64
def depC (d:Dep):List AV:=[aw d.pub,aw d.peer,.sl 1 (bytesA d.box),.sl 1 (encA strC d.holders),.sl 1 (wordsA d.digests),ai d.need,aw d.target]
theorem str_le (h:List UInt8) (hh:h.length≤1000):(⟨h.toArray⟩:ByteArray).size≤maxLen:=by
 show h.toArray.size≤_
 unfold maxLen
 simp;omega
theorem strs_at {l:List (List UInt8)} {i:Nat} (h:i<l.length):(encA strC l)[i]?=some (as_ (l.getD i default)):=by
 have:=encA_at (f:=strC) (e:=1) (l:=l) (k:=i) (j:=0) (fun _=>rfl) h (c:=as_ (l.getD i default)) rfl
 simpa using this
structure Mem where
 name:List UInt8
 h:Int
 r:UInt64
 used:UInt64
def memC (m:Mem):List AV:=[as_ m.name,ai m.h,aw m.r,aw m.used]
structure Grp where
 epoch:Int
 head:UInt64
 thr:Int
 mems:List Mem
 deps:List Dep
def grpC (g:Grp):List AV:=[ai g.epoch,aw g.head,ai g.thr,.sl 4 (encA memC g.mems),.sl 7 (encA depC g.deps)]
instance:Inhabited Dep:=⟨⟨0,0,[],[],[],0,0⟩⟩
instance:Inhabited Mem:=⟨⟨[],0,0,0⟩⟩
end Go.Proofs.YtjgbhhnghedgdaaGreatDoor
namespace Go.Proofs.YtjgbhhnghedgdaaGreatDoor
open Go.RowKit
set_option maxRecDepth 100000
set_option maxHeartbeats 4000000
set_option linter.unusedVariables false
def kr (U u:UInt64):UInt64:=UInt64.ofNat ((U.toNat*4294967296+u.toNat)%18446744073709551608)
end Go.Proofs.YtjgbhhnghedgdaaGreatDoor
namespace Go.Proofs.YtjgbhhnghedgdaaGreatDoor
open Go.RowKit
set_option maxRecDepth 100000
set_option maxHeartbeats 4000000
set_option linter.unusedVariables false
def badP (p:UInt64):Prop:=wv p<2∨wv p>2305843009213693949
instance (p:UInt64):Decidable (badP p):=inferInstanceAs (Decidable (_∨_))
end Go.Proofs.YtjgbhhnghedgdaaGreatDoor
namespace Go.Proofs.YtjgbhhnghedgdaaGreatDoor
open Go.RowKit
section
variable {P:Program} {n:Nat} {c:Code}
def mkMapB:Code->Option (TypeId×Nat×Nat)
 | .region _ ⟨[⟨some d,.makeMap t none,_,_,_,none⟩,⟨some e,.assign (.tmp d'),_,_,_,none⟩]⟩ false=>if d'=d then some (t,d,e) else none
 | _=>none
def lookB:Code->Option (TypeId×Nat×Nat×Nat×Nat×Nat)
 | .region _ ⟨[⟨some d1,.move (.tmp m),_,_,_,none⟩,⟨some d2,.move (.tmp k),_,_,_,none⟩,⟨some d3,.lookup t (.tmp e1) (.tmp e2) false,_,_,_,none⟩]⟩ false=>if e1=d1∧e2=d2∧d1≠d2∧d1≠k then some (t,m,k,d1,d2,d3) else none
 | _=>none
end
end Go.Proofs.YtjgbhhnghedgdaaGreatDoor
namespace Go.Proofs.YtjgbhhnghedgdaaGreatDoor
open Go.RowKit
def valsA (us:List Value):List AV:=us.map AV.val
theorem valsA_len (us:List Value):(valsA us).length=us.length:=by simp [valsA]
theorem rep_vals {S:Nat->Prop} {w:World} {v:Value} {bs:List Value} (h:Rep S w v (.sl 1 (valsA bs))) (hS:∀b,S b->b<w.heap.size):SliceAt w v bs:=by
 cases h with
 | sl A n c e us row hl hn hc hm ha h =>
  have hus:us=bs:=by
   apply List.ext_getElem?
   intro j
   cases hu:us[j]? with
   | none =>
    have:us.length≤j:=List.getElem?_eq_none_iff.1 hu
    rw [List.getElem?_eq_none (by rw [valsA_len] at hl;omega)]
   | some u =>
    have hj:j<bs.length:=by have:=(List.getElem?_eq_some_iff.1 hu).1;rw [hl,valsA_len] at this;exact this
    have hx:(valsA bs)[j]?=some (.val bs[j]):=by simp [valsA,hj]
    have:=h j u _ hu hx
    cases this
    simp [hj]
  subst hus
  rw [valsA_len] at hn ha
  have hn':us.length=n:=by omega
  subst hn'
  exact ⟨A,c,rfl,hc,hm,rfl,fun h0=>by
   obtain ⟨ad,e,hs,hcell⟩:=ha h0
   exact ⟨ad,e,hS _ hs,hcell⟩⟩
def NewVals (w:World) (e:Ending) (w':World) (us:List Value):Prop:=∃v,e= .returned v∧Own w' w.heap.size v us∧Below w.heap.size w w'
theorem Ret.of_vals {P:Program} {f:FuncId} {args:List AV} {us:List Value} (h:∀(w:World) (vs:List Value),vs.length=args.length->(∀(j:Nat) v x,vs[j]?=some v->args[j]?=some x->Rep (fun b=>b<w.heap.size) w v x) ->
  Calls P f vs.toArray w fun e w'=>NewVals w e w' us):Ret P f args (.own 1 (valsA us)):=by
 intro w S vs _ hS hl hr
 refine (h w vs hl fun j v x hv hx=>(hr j v x hv hx).mono fun b hb=>⟨hS b hb,rfl⟩).mono fun e w' ⟨v,he,ho,hb⟩=>?_
 rcases ho with ⟨rfl,hn⟩|⟨g,cap,cur,te,fr,rfl,hg0,hg,hlc,hcm,hcs,htk,hfr⟩
 ·subst hn
  exact ⟨_,[],he,hb,List.nodup_nil,by simp,.inl (.inl (.nil 1))⟩
 ·have hlt:g<w'.heap.size:=by
   rcases Nat.lt_or_ge g w'.heap.size with h|h
   ·exact h
   ·rw [Array.getElem?_eq_none h] at hg;cases hg
  refine ⟨_,[g],he,hb,by simp,by simp [hg0,hlt],.inl (.inl (.own g _ cap 1 (valsA us) cur te fr hg (fun j hj=>hfr j (by omega)) (by rw [valsA_len,Nat.one_mul]) hlc hcm (by omega) ?_))⟩
  intro j u x hu hx
  have hj:j<us.length:=by have:=(List.getElem?_eq_some_iff.1 hx).1;rwa [valsA_len] at this
  have hx':x= .val us[j]:=by simp [valsA,hj] at hx;exact hx.symm
  subst hx'
  have hu2:us[j]?=some u:=by
   rw [←htk,List.getElem?_take_of_lt hj];simpa using hu
  have:u=us[j]:=by simp [hj] at hu2;exact hu2.symm
  subst this
  exact .val _
theorem infoStr:(Tryz.prog.info? 9).map (fun i=>(i.zero,i.size,i.bytes))=some (some (.string ⟨#[]⟩),1,16):=by kernel_rfl
theorem EStr:ElemT Tryz.prog 26 9 (.string ⟨#[]⟩) 16:=by
 obtain ⟨i,h,h1,h2,h3⟩:=info_parts infoStr
 exact ⟨Tryz.underlying26,⟨i,h,h1,h2,h3⟩,rfl,by decide⟩
set_option maxRecDepth 100000 in
theorem sclone_any (v:Value) (l:List Value) (w:World) (h:SliceAt w v l) (h1:∀u∈l,u.oneCell'=true) (hl:l.length≤1000000) :
  Calls Tryz.prog 101 #[v] w fun e w'=>NewVals w e w' l:=by
 have h':=h
 obtain ⟨A,c,rfl,hc,hm,hr⟩:=h
 rcases A with _|ad
 ·have hl0:l= []:=by
   rcases Nat.eq_zero_or_pos l.length with h0|h0
   ·exact List.length_eq_zero_iff.1 h0
   ·obtain ⟨ad,h,_⟩:=hr.2 h0
    cases h
  clear h' hr
  have hq:= @run_nil_eq Tryz.prog w 26 9 Tryz.underlying26 none l.length c
  have HL:=Lib.hid hl0
  clear hl0
  go_enter Tryz.func101,Tryz.ntmps101
  go_wp2
  go_ret
  exact ⟨_,rfl,.inl ⟨rfl,HL.out⟩,Below.refl _ _⟩
 ·have HSL:=Lib.hid h'
  clear h' hr
  have hq:= @run_nil_eq Tryz.prog w 26 9 Tryz.underlying26 (some ad) l.length c
  go_enter Tryz.func101,Tryz.ntmps101
  go_wp2_with (at_builtin;refine wpList_app _ rfl _ _ 26 rfl EStr w.heap.size _ _ rfl (Own.none_new w _) _ l rfl (HSL.out.below ((Below.refl _ _).alloc (Nat.le_refl _) _)) h1 (by simp;omega) (by simp) ?_;intro v2 w2 ho2 hg2 _)
  go_ret
  exact ⟨_,rfl,by simpa using ho2,((Below.refl w.heap.size w).alloc (Nat.le_refl _) _).thenApp (Own.none_new w _) hg2⟩
theorem sclone_ret (l:List (List UInt8)) (hl:l.length≤1000000):Ret Tryz.prog 101 [.sl 1 (encA (fun s=>[as_ s]) l)] (.own 1 (encA (fun s=>[as_ s]) l)):=by
 have e:encA (fun s:List UInt8=>[as_ s]) l=valsA (l.map fun s=>.string ⟨s.toArray⟩):=by
  induction l with
  | nil=>rfl
  | cons x l ih=>rw [encA_cons,ih (by simp at hl;omega)];rfl
 rw [e]
 refine Ret.of_vals fun w vs h1 hr=>?_
 obtain ⟨a,rfl⟩:=args1 h1 rfl
 exact sclone_any a _ w (rep_vals (hr 0 a _ rfl rfl) fun _ h=>h) (by simp [Value.oneCell']) (by simpa using hl)
end Go.Proofs.YtjgbhhnghedgdaaGreatDoor
namespace Go.Proofs.YtjgbhhnghedgdaaGreatDoor
open Go.RowKit
def xt (a:UInt8):UInt8:=if a&&&128≠0 then (a<<<1)^^^27 else a<<<1
end Go.Proofs.YtjgbhhnghedgdaaGreatDoor
namespace Go.Proofs.YtjgbhhnghedgdaaGreatDoor
open Go.RowKit
set_option maxRecDepth 100000
set_option maxHeartbeats 4000000
set_option linter.unusedVariables false
def ff (E:Nat->Int):Nat->Int
 | 0=>0
 | n+1=>if ff E n≠0 then ff E n else E n
theorem ff_stay {E:Nat->Int} {m:Nat} {e:Int} (he:e≠0) (h:ff E m=e):∀n,m≤n->ff E n=e
 | 0,hn=>by
  have:m=0:=by omega
  subst this;exact h
 | n+1,hn=>by
  by_cases hm:m=n+1
  ·subst hm;exact h
  ·have:=ff_stay he h n (by omega)
   unfold ff
   rw [this,if_pos he]
def nmE (x:List UInt8):Int:=if x.length<1∨32<x.length then 9 else if Lib.validD x=false then 6 else 0
theorem nm_short {x:List UInt8} (h:x.length<1∨32<x.length):nmE x=9:=by unfold nmE;rw [if_pos h]
theorem nm_text {x:List UInt8} (h:¬(x.length<1∨32<x.length)) (hv:Lib.validD x=false):nmE x=6:=by unfold nmE;rw [if_neg h,if_pos hv]
theorem nm_ok {x:List UInt8} (h:¬(x.length<1∨32<x.length)) (hv:Lib.validD x=true):nmE x=0:=by unfold nmE;rw [if_neg h,if_neg (by simp [hv])]
def badN (n:Nat) (need:Int):Prop:=n<1∨8<n∨need<1∨(n:Int)<need
instance (n:Nat) (need:Int):Decidable (badN n need):=inferInstanceAs (Decidable (_∨_∨_∨_))
def depO (d:Dep):List AV:=[aw d.pub,aw d.peer,.own 1 (bytesA d.box),.own 1 (encA strC d.holders),.own 1 (wordsA d.digests),ai d.need,aw d.target]
def part {T:Type} (f:Nat->T) (z:T) (n i:Nat):List T:=(List.range n).map fun k=>if k<i then f k else z
end Go.Proofs.YtjgbhhnghedgdaaGreatDoor
namespace Go.Proofs.YtjgbhhnghedgdaaGreatDoor
open Go.RowKit
def nib (m:UInt64) (k:Nat):Nat:=m.toNat/2^(60-4*k)%16
def nibSum (m:UInt64):Nat->Nat
 | 0=>0
 | k+1=>nibSum m k+(15-nib m k)
def digs (m:UInt64):List Int:=(List.range 16).map (fun k=>(nib m k:Int))++ [((nibSum m 16/16:Nat):Int),((nibSum m 16%16:Nat):Int)]
theorem nib_lt (m:UInt64) (k:Nat):nib m k<16:=Nat.mod_lt _ (by decide)
theorem nibSum_le (m:UInt64) (k:Nat):nibSum m k≤15*k:=by
 induction k with
 | zero=>simp [nibSum]
 | succ k ih=>simp only [nibSum];omega
theorem digs_len (m:UInt64):(digs m).length=18:=by simp [digs]
def stepC (leaf chain:Int) (p:Int) (x:UInt64):UInt64:=hash 1 (words [u64 leaf,u64 chain,u64 p,x])
def runC (leaf chain:Int) (p:Int) (x:UInt64):Nat->UInt64
 | 0=>x
 | n+1=>stepC leaf chain (p+n) (runC leaf chain p x n)
theorem runC_succ (leaf chain:Int) (p:Int) (x:UInt64) (n:Nat):runC leaf chain p x (n+1)=hash 1 (words [u64 leaf,u64 chain,u64 (p+n),runC leaf chain p x n]):=rfl
def run (leaf chain src dst:Int) (x:UInt64):UInt64:=runC leaf chain (max src 0) x (min dst 15-max src 0).toNat
theorem runC_add (leaf chain p:Int) (x:UInt64) (a b:Nat):runC leaf chain p x (a+b)=runC leaf chain (p+a) (runC leaf chain p x a) b:=by
 induction b with
 | zero=>rfl
 | succ b ih =>
  show runC leaf chain p x (a+b+1)=_
  rw [runC_succ,runC_succ,ih,show p+((a+b:Nat):Int)=p+a+b by omega]
theorem run_split (leaf chain p q r:Int) (x:UInt64) (h0:0≤p) (h1:p≤q) (h2:q≤r) (hp:p≤15):run leaf chain p r x=run leaf chain q r (run leaf chain p q x):=by
 unfold run
 rw [show max p 0=p by omega,show max q 0=q by omega]
 by_cases hq:q≤15
 ·have e:(min r 15-p).toNat=(q-p).toNat+(min r 15-q).toNat:=by omega
  rw [e,runC_add,show min q 15=q by omega,show p+((q-p).toNat:Int)=q by omega]
 ·rw [show (min r 15-q).toNat=0 by omega,show min r 15=15 by omega,show min q 15=15 by omega];rfl
def secret (seed:UInt64) (leaf c:Int):UInt64:=mac seed 1 (words [u64 leaf,u64 c])
def combine (leaf:Int) (l:List UInt64):UInt64:=hash 2 (words (u64 leaf::l))
def pubEnds (seed:UInt64) (leaf:Int) (n:Nat):List UInt64:=(List.range n).map fun (i:Nat)=>run leaf i 0 15 (secret seed leaf i)
def signL (seed:UInt64) (leaf:Int) (m:UInt64) (n:Nat):List UInt64:=(List.range n).map fun (i:Nat)=>run leaf i 0 ((digs m).getD i 0) (secret seed leaf i)
def recL (leaf:Int) (m:UInt64) (s:List UInt64) (n:Nat):List UInt64:=(List.range n).map fun (i:Nat)=>run leaf i ((digs m).getD i 0) 15 (s.getD i 0)
theorem pubEnds_len (seed:UInt64) (leaf:Int) (n:Nat):(pubEnds seed leaf n).length=n:=by simp [pubEnds]
theorem signL_len (seed:UInt64) (leaf:Int) (m:UInt64) (n:Nat):(signL seed leaf m n).length=n:=by simp [signL]
theorem recL_len (leaf:Int) (m:UInt64) (s:List UInt64) (n:Nat):(recL leaf m s n).length=n:=by simp [recL]
theorem pubEnds_succ (seed:UInt64) (leaf:Int) (n:Nat):pubEnds seed leaf (n+1)=pubEnds seed leaf n++ [run leaf n 0 15 (secret seed leaf n)]:=by simp [pubEnds,List.range_succ]
theorem digs_bd (m:UInt64) (i:Nat):0≤(digs m).getD i 0∧(digs m).getD i 0≤15:=by
 have hs:=nibSum_le m 16
 by_cases h:i<16
 ·have:=nib_lt m i
  have e:(digs m).getD i 0=(nib m i:Int):=by simp [digs,List.getElem?_append,h]
  omega
 ·by_cases h16:i=16
  ·subst h16
   have e:(digs m).getD 16 0=((nibSum m 16/16:Nat):Int):=by simp [digs]
   omega
  ·by_cases h17:i=17
   ·subst h17
    have e:(digs m).getD 17 0=((nibSum m 16%16:Nat):Int):=by simp [digs]
    omega
   ·have e:(digs m).getD i 0=0:=by
     rw [List.getD_eq_getElem?_getD,List.getElem?_eq_none (by rw [digs_len];omega)];rfl
    omega
theorem rec_sign (seed:UInt64) (leaf:Int) (m:UInt64):recL leaf m (signL seed leaf m 18) 18=pubEnds seed leaf 18:=by
 unfold recL pubEnds
 apply List.map_congr_left
 intro i hi
 have hi':=List.mem_range.1 hi
 have hb:=digs_bd m i
 have e:(signL seed leaf m 18).getD i 0=run leaf i 0 ((digs m).getD i 0) (secret seed leaf i):=by simp [signL,hi']
 rw [e,←run_split leaf i 0 _ 15 _ (by omega) hb.1 hb.2 (by omega)]
def digP (m:UInt64) (k:Nat):List Int:=(List.range 18).map fun j=>if j<k then (nib m j:Int) else 0
theorem digP_len (m:UInt64) (k:Nat):(digP m k).length=18:=by simp [digP]
theorem digP_at (m:UInt64) (k j:Nat) (hj:j<18):(digP m k).getD j 0=if j<k then (nib m j:Int) else 0:=by
 rw [List.getD_eq_getElem?_getD];simp [digP,hj]
theorem digP_set (m:UInt64) (k:Nat):(digP m k).set k (nib m k:Int)=digP m (k+1):=by
 apply List.ext_getElem (by simp [digP])
 intro j h1 h2
 rw [List.getElem_set]
 simp only [digP,List.getElem_map,List.getElem_range]
 by_cases hk:k=j
 ·subst hk;rw [if_pos rfl,if_pos (by omega)]
 ·rw [if_neg hk]
  by_cases h:j<k
  ·rw [if_pos h,if_pos (by omega)]
  ·rw [if_neg h,if_neg (by omega)]
theorem digP_end (m:UInt64):((digP m 16).set 16 ((nibSum m 16/16:Nat):Int)).set 17 ((nibSum m 16%16:Nat):Int)=digs m:=by
 simp [digP,digs,List.range_succ]
def fillZ (n:Nat) (l:List UInt64) (k:Nat):List UInt64:=l.take k++List.replicate (n-k) 0
theorem fillZ_len {n k:Nat} {l:List UInt64} (hl:l.length=n) (hk:k≤n):(fillZ n l k).length=n:=by simp [fillZ];omega
theorem fillZ_full {n:Nat} {l:List UInt64} (hl:l.length=n):fillZ n l n=l:=by simp [fillZ,←hl]
theorem fillZ_set {n k:Nat} {l:List UInt64} (hl:l.length=n) (hk:k<n):(fillZ n l k).set k (l.getD k 0)=fillZ n l (k+1):=by
 apply List.ext_getElem (by simp [fillZ];omega)
 intro j h1 h2
 have hj:j<n:=by rw [List.length_set,fillZ_len hl (by omega)] at h1;exact h1
 rw [List.getElem_set]
 by_cases h:k=j
 ·subst h
  simp [fillZ,hl,hk,List.getElem_append]
  omega
 ·rw [if_neg h]
  simp only [fillZ,List.getElem_append,List.length_take,hl]
  by_cases hjk:j<k
  ·simp [show j<min k n by omega,show j<min (k+1) n by omega]
  ·simp [show ¬j<min k n by omega,show ¬j<min (k+1) n by omega]
theorem signL_at (seed:UInt64) (leaf:Int) (m:UInt64) (i:Nat) (h:i<18):(signL seed leaf m 18).getD i 0=run leaf i 0 ((digs m).getD i 0) (secret seed leaf i):=by simp [signL,h]
theorem recL_at (leaf:Int) (m:UInt64) (s:List UInt64) (i:Nat) (h:i<18):(recL leaf m s 18).getD i 0=run leaf i ((digs m).getD i 0) 15 (s.getD i 0):=by simp [recL,h]
theorem pubEnds_at (seed:UInt64) (leaf:Int) (i:Nat) (h:i<18):(pubEnds seed leaf 18).getD i 0=run leaf i 0 15 (secret seed leaf i):=by simp [pubEnds,h]
theorem nib_shr (m:UInt64) (k:Nat) (hk:k≤15):wv ((m>>>UInt64.ofNat (60-4*k))&&&15)=(nib m k:Int):=by
 unfold wv nib
 rw [UInt64.toNat_and,UInt64.toNat_shiftRight,UInt64.toNat_ofNat_of_lt' (by show _<2^64;omega),Nat.mod_eq_of_lt (by omega),Nat.shiftRight_eq_div_pow]
 rw [show (15:UInt64).toNat=2^4-1 from rfl,Nat.and_two_pow_sub_one_eq_mod]
end Go.Proofs.YtjgbhhnghedgdaaGreatDoor
