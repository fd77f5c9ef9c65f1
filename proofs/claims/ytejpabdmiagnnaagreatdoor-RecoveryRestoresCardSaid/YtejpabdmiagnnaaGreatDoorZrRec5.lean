import Derived.Test.YtejpabdmiagnnaaGreatDoorZrV8
import Derived.Test.YtejpabdmiagnnaaGreatDoorZrRec4
import Derived.Test.YtejpabdmiagnnaaGreatDoorZrOtP
set_option linter.all false
namespace Go.Proofs.YtejpabdmiagnnaaGreatDoor
open Go.RowKit
set_option maxRecDepth 100000
set_option maxHeartbeats 4000000
set_option linter.unusedVariables false
theorem within_ret (n lo hi:Int):Ret Tryz.prog 100 [ai n,ai lo,ai hi] (ao (decide (lo≤n∧n≤hi))):=by
 by_cases h1:lo≤n
 ·by_cases h2:n≤hi
  ·refine zO Tryz.func100 15 ?_
   refine zP 2 [{},{}] [.keep [6,0,1,2] []] [yT (n≥lo),yT (n≥lo),yT (n≥lo),yT (n≥lo)] ?_
   refine zR ?_
   refine zV [yB (Value.bool (decide (n≤hi))=Value.bool (decide (lo≤n∧n≤hi))) (by simp [h1,h2])]
  ·refine zO Tryz.func100 15 ?_
   refine zP 2 [{},{}] [.keep [6,0,1,2] []] [yT (n≥lo),yT (n≥lo),yT (n≥lo),yT (n≥lo)] ?_
   refine zR ?_
   refine zV [yB (Value.bool (decide (n≤hi))=Value.bool (decide (lo≤n∧n≤hi))) (by simp [h1,h2])]
 ·refine zO Tryz.func100 15 ?_
  refine zP 2 [{},yH [(4,{g:=false}),(5,{g:=false}),(6,{g:=false}),(7,{b:=false})]] [.keep [6,0,1,2] []] [yF (n≥lo),yF (n≥lo),yF (n≥lo),yF (n≥lo)] ?_
  refine zR ?_
  refine zV [yB (Value.bool false=Value.bool (decide (lo≤n∧n≤hi))) (by simp [h1])]
theorem named_ret (x:List UInt8) (hx:x.length≤1000):Ret Tryz.prog 75 [as_ x] (ai (nmE x)):=by
 by_cases c1:x.length<1∨32<x.length
 ·have e:=nm_short c1
  refine zO Tryz.func75 10 ?_
  refine zQ 1 [{}] [] ?_
  refine zS ?_
  refine zP 1 [yH [(1,yV (ai (↑x.length:Int))),(2,yV (ao (decide ((1:Int)≤(↑x.length:Int)∧(↑x.length:Int)≤32)))),(3,yV (ao true))]] [.keep [6,2,0] []] [yR (ai (↑x.length:Int)),yI (within_ret ((↑x.length:Int)) ((1:Int)) ((32:Int))),yB (ao (!decide ((1:Int)≤(↑x.length:Int)∧(↑x.length:Int)≤32))=ao true) (by simp;omega)] ?_
  refine zT 6 ?_
  refine zQ 1 [{}] [] ?_
  refine zR ?_
  refine then_r ?_
  refine zV [yJ 9 (nmE x) (by rw [e])]
 by_cases c2:Lib.validD x=false
 ·have e:=nm_text c1 c2
  refine zO Tryz.func75 10 ?_
  refine zQ 1 [{}] [] ?_
  refine zS ?_
  refine zP 1 [yH [(1,yV (ai (↑x.length:Int))),(2,yV (ao (decide ((1:Int)≤(↑x.length:Int)∧(↑x.length:Int)≤32)))),(3,yV (ao false))]] [.keep [6,2,0] []] [yR (ai (↑x.length:Int)),yI (within_ret ((↑x.length:Int)) ((1:Int)) ((32:Int))),yB (ao (!decide ((1:Int)≤(↑x.length:Int)∧(↑x.length:Int)≤32))=ao false) (by simp;omega)] ?_
  refine zF 6 ?_
  refine zK ?_
  refine then_n ?_
  refine zS ?_
  refine zP 1 [yH [(1,yV (ao (Lib.validD x))),(2,yV (ao true))]] [.keep [9,6,2,0] []] [yI (valid_ret x (by omega)),yB (ao (!Lib.validD x)=ao true) (by simp;omega)] ?_
  refine zT 9 ?_
  refine zQ 1 [{}] [] ?_
  refine zR ?_
  refine then_r ?_
  refine zV [yJ 6 (nmE x) (by rw [e])]
 have c3:Lib.validD x=true:=by simpa using c2
 have e:=nm_ok c1 c3
 refine zO Tryz.func75 10 ?_
 refine zQ 1 [{}] [] ?_
 refine zS ?_
 refine zP 1 [yH [(1,yV (ai (↑x.length:Int))),(2,yV (ao (decide ((1:Int)≤(↑x.length:Int)∧(↑x.length:Int)≤32)))),(3,yV (ao false))]] [.keep [6,2,0] []] [yR (ai (↑x.length:Int)),yI (within_ret ((↑x.length:Int)) ((1:Int)) ((32:Int))),yB (ao (!decide ((1:Int)≤(↑x.length:Int)∧(↑x.length:Int)≤32))=ao false) (by simp;omega)] ?_
 refine zF 6 ?_
 refine zK ?_
 refine then_n ?_
 refine zS ?_
 refine zP 1 [yH [(1,yV (ao (Lib.validD x))),(2,yV (ao false))]] [.keep [9,6,2,0] []] [yI (valid_ret x (by omega)),yB (ao (!Lib.validD x)=ao false) (by simp;omega)] ?_
 refine zF 9 ?_
 refine zK ?_
 refine then_n ?_
 refine zQ 1 [{}] [] ?_
 refine zR ?_
 refine zV [yJ 0 (nmE x) (by rw [e])]
theorem rholders_ret (l:List (List UInt8)) (hl:l.length≤1000000) (hh:∀i,i<l.length->(l.getD i default).length≤1000):Ret Tryz.prog 101 [.sl 1 (encA strC l)] (ai (ff (hlE l) l.length)):=by
 have hll:(encA strC l).length=l.length:=by rw [encA_len (e:=1) (fun _=>rfl)];omega
 refine zO Tryz.func101 33 ?_
 refine zQ 1 [{}] [] ?_
 refine zS ?_
 refine zQ 1 [{}] [] ?_
 refine zB 0 ?_
 refine zL (fun (i:Nat)=>(⟨[(0,AV.sl 1 (encA strC l)),(3,ai i)],[]⟩:AS)) (fun i=>(i≤l.length∧ff (hlE l) i=0)) (fun i=>(l.length-i)) (0) ?_ (zW [.keep [0,3] []]) ?_
 ·exact ⟨by omega,rfl⟩
 rintro i ⟨hi,h0⟩
 refine zS ?_
 refine zP 1 [yH [(2,{k:=(encA strC l).length})]] [.keep [8,0,3] []] [yR ((encA strC l).length)] ?_
 refine zD 8 ((↑i:Int)<(↑(encA strC l).length:Int)) (fun g=>?_) (fun g=>?_)
 ·have hi2:i<l.length:=by omega
  have hat:=strs_at hi2
  have hA:=hh i hi2
  have stop:∀e:Int,e≠0->hlE l i=e->ff (hlE l) l.length=e:=fun e he h1=>by
   have k2:ff (hlE l) (i+1)=hlE l i:=by show (if _ then _ else _)=_;rw [if_neg (by omega)]
   rw [ff_stay (by omega) k2 l.length (by omega),h1]
  by_cases c5:nmE (l.getD i default)=0
  case neg =>
   have k1:=stop _ c5 (hl_nm rfl c5)
   refine zK ?_
   refine then_n ?_
   refine zS ?_
   refine zB 1 ?_
   refine zS ?_
   refine zP 2 [yH [(2,{k:=i}),(3,yV (AV.val (Value.string (ByteArray.mk (l.getD i default).toArray)))),(4,yV (ai (nmE (l.getD i default))))],{}] [.keep [17,4,8,0,3] []] [yR (↑i:Int),yO (i<(encA strC l).length),yB ((encA strC l)[i]?=some (AV.val (Value.string (ByteArray.mk (l.getD i default).toArray)))) (by assumption),yI (named_ret (l.getD i default) (by assumption))] ?_
   refine zTb 17 (nmE (l.getD i default) != (0:Int)) (by simp_all) ?_
   refine zQ 1 [{}] [] ?_
   refine zR ?_
   refine then_r ?_
   refine inb_r ?_
   refine then_r ?_
   refine round_r ?_
   refine inb_r ?_
   refine then_r ?_
   refine zV [yJ (nmE (l.getD i default)) (ff (hlE l) l.length) (by rw [k1])]
  by_cases c6:0<i
  ·obtain ⟨k,hk⟩:∃k,k+1=i:=⟨i-1,by omega⟩
   have hat2:=strs_at (l:=l) (i:=k) (by omega)
   have c8:=hl_ord c5 hk
   by_cases c7:leS (l.getD i default) (l.getD k default)=true
   ·have k1:=stop 7 (by omega) (by rw [c8,if_pos c7])
    refine zK ?_
    refine then_n ?_
    refine zS ?_
    refine zB 1 ?_
    refine zS ?_
    refine zP 2 [yH [(2,{k:=i}),(3,yV (AV.val (Value.string (ByteArray.mk (l.getD i default).toArray)))),(4,yV (ai (nmE (l.getD i default))))],{}] [.keep [17,4,8,0,3] []] [yR (↑i:Int),yO (i<(encA strC l).length),yB ((encA strC l)[i]?=some (AV.val (Value.string (ByteArray.mk (l.getD i default).toArray)))) (by assumption),yI (named_ret (l.getD i default) (by assumption))] ?_
    refine zFb 17 (nmE (l.getD i default) != (0:Int)) (by simp_all) ?_
    refine zK ?_
    refine then_n ?_
    refine zP 1 [{hs:=[(5,{k:=i}),(6,yV (AV.val (Value.string (ByteArray.mk (l.getD i default).toArray)))),(9,yV (ai (↑k:Int))),(10,{k:=k}),(11,yV (AV.val (Value.string (ByteArray.mk (l.getD k default).toArray))))],T:=12}] [.keep [32,17,4,8,0,3] []] [yT ((↑i:Int)>0),yT ((↑i:Int)>0),yT ((↑i:Int)>0),yR (↑i:Int),yO (i<(encA strC l).length),yT ((↑i:Int)>0),yB ((encA strC l)[i]?=some (AV.val (Value.string (ByteArray.mk (l.getD i default).toArray)))) (by assumption),yT ((↑i:Int)>0),yT ((↑i:Int)>0),yT ((↑i:Int)>0),yB (ai (IntKind.i64.wrap ((↑i:Int)-1))=ai (↑k:Int)) (congrArg (fun n=>AV.val (.int .i64 n)) (by rw [IntKind.wrap_i64];omega)),yT ((↑i:Int)>0),yR (↑k:Int),yO (k<(encA strC l).length),yT ((↑i:Int)>0),yB ((encA strC l)[k]?=some (AV.val (Value.string (ByteArray.mk (l.getD k default).toArray)))) (by assumption),yT ((↑i:Int)>0),yT ((↑i:Int)>0)] ?_
    refine zTb 32 (Op.bytesLess (ByteArray.mk (l.getD i default).toArray).toList (ByteArray.mk (l.getD k default).toArray).toList || (ByteArray.mk (l.getD i default).toArray).toList == (ByteArray.mk (l.getD k default).toArray).toList) (by assumption) ?_
    refine zQ 1 [{}] [] ?_
    refine zR ?_
    refine inb_r ?_
    refine then_r ?_
    refine round_r ?_
    refine inb_r ?_
    refine then_r ?_
    refine zV [yJ 7 (ff (hlE l) l.length) (by rw [k1])]
   ·have c9:leS (l.getD i default) (l.getD k default)=false:=by simpa using c7
    rw [if_neg c7] at c8
    refine zK ?_
    refine then_n ?_
    refine zS ?_
    refine zB 1 ?_
    refine zS ?_
    refine zP 2 [yH [(2,{k:=i}),(3,yV (AV.val (Value.string (ByteArray.mk (l.getD i default).toArray)))),(4,yV (ai (nmE (l.getD i default))))],{}] [.keep [17,4,8,0,3] []] [yR (↑i:Int),yO (i<(encA strC l).length),yB ((encA strC l)[i]?=some (AV.val (Value.string (ByteArray.mk (l.getD i default).toArray)))) (by assumption),yI (named_ret (l.getD i default) (by assumption))] ?_
    refine zFb 17 (nmE (l.getD i default) != (0:Int)) (by simp_all) ?_
    refine zK ?_
    refine then_n ?_
    refine zP 1 [{hs:=[(5,{k:=i}),(6,yV (AV.val (Value.string (ByteArray.mk (l.getD i default).toArray)))),(9,yV (ai (↑k:Int))),(10,{k:=k}),(11,yV (AV.val (Value.string (ByteArray.mk (l.getD k default).toArray))))],T:=12}] [.keep [32,17,4,8,0,3] []] [yT ((↑i:Int)>0),yT ((↑i:Int)>0),yT ((↑i:Int)>0),yR (↑i:Int),yO (i<(encA strC l).length),yT ((↑i:Int)>0),yB ((encA strC l)[i]?=some (AV.val (Value.string (ByteArray.mk (l.getD i default).toArray)))) (by assumption),yT ((↑i:Int)>0),yT ((↑i:Int)>0),yT ((↑i:Int)>0),yB (ai (IntKind.i64.wrap ((↑i:Int)-1))=ai (↑k:Int)) (congrArg (fun n=>AV.val (.int .i64 n)) (by rw [IntKind.wrap_i64];omega)),yT ((↑i:Int)>0),yR (↑k:Int),yO (k<(encA strC l).length),yT ((↑i:Int)>0),yB ((encA strC l)[k]?=some (AV.val (Value.string (ByteArray.mk (l.getD k default).toArray)))) (by assumption),yT ((↑i:Int)>0),yT ((↑i:Int)>0)] ?_
    refine zFb 32 (Op.bytesLess (ByteArray.mk (l.getD i default).toArray).toList (ByteArray.mk (l.getD k default).toArray).toList || (ByteArray.mk (l.getD i default).toArray).toList == (ByteArray.mk (l.getD k default).toArray).toList) (by assumption) ?_
    refine zK ?_
    refine inb_n ?_
    refine then_n ?_
    refine zX (yH [(1,yV (ai ((↑i:Int)+1)))]) [yN ((↑i:Int)+1)] ?_
    refine round_n (i+1) ⟨by omega,by show (if _ then _ else _)=_;rw [if_neg (by omega),c8]⟩ (by omega) (zW [.keep [0,3] []])
  ·have e:i=0:=by omega
   have h1:hlE l i=0:=by subst e;exact hl_zero c5
   refine zK ?_
   refine then_n ?_
   refine zS ?_
   refine zB 1 ?_
   refine zS ?_
   refine zP 2 [yH [(2,{k:=i}),(3,yV (AV.val (Value.string (ByteArray.mk (l.getD i default).toArray)))),(4,yV (ai (nmE (l.getD i default))))],{}] [.keep [17,4,8,0,3] []] [yR (↑i:Int),yO (i<(encA strC l).length),yB ((encA strC l)[i]?=some (AV.val (Value.string (ByteArray.mk (l.getD i default).toArray)))) (by assumption),yI (named_ret (l.getD i default) (by assumption))] ?_
   refine zFb 17 (nmE (l.getD i default) != (0:Int)) (by simp_all) ?_
   refine zK ?_
   refine then_n ?_
   refine zP 1 [{hs:=[(3,{g:=false}),(4,{g:=false}),(5,{g:=false}),(6,{g:=false}),(7,{g:=false}),(8,{g:=false}),(9,{g:=false}),(10,{g:=false}),(11,{g:=false}),(12,{g:=false}),(13,{b:=false})],T:=12}] [.keep [32,17,4,8,0,3] []] [yF ((↑i:Int)>0),yF ((↑i:Int)>0),yF ((↑i:Int)>0),yF ((↑i:Int)>0),yF ((↑i:Int)>0),yF ((↑i:Int)>0),yF ((↑i:Int)>0),yF ((↑i:Int)>0),yF ((↑i:Int)>0),yF ((↑i:Int)>0),yF ((↑i:Int)>0)] ?_
   refine zF 32 ?_
   refine zK ?_
   refine inb_n ?_
   refine then_n ?_
   refine zX (yH [(1,yV (ai ((↑i:Int)+1)))]) [yN ((↑i:Int)+1)] ?_
   refine round_n (i+1) ⟨by omega,by show (if _ then _ else _)=_;rw [if_neg (by omega),h1]⟩ (by omega) (zW [.keep [0,3] []])
 ·have e:i=l.length:=by omega
  subst e
  refine zE 0 ?_
  refine then_e ?_
  refine round_e ?_
  refine inb_e ?_
  refine then_n ?_
  refine zQ 1 [{}] [] ?_
  refine zR ?_
  refine zV [yJ 0 (ff (hlE l) l.length) (by rw [h0])]
theorem strs_plain (l:List (List UInt8)):plainR (encA strC l):=by
 intro x hx
 unfold encA at hx
 obtain ⟨s,_,hs⟩:=List.mem_flatMap.1 hx
 simp [strC] at hs
 subst hs;rfl
theorem snocR {T:Type} (f:Nat->T) (i:Nat):(List.range i).map f++ [f i]=(List.range (i+1)).map f:=by simp [List.range_succ]
theorem refprepare_ret (seed:UInt64) (draws:Int) (l:List (List UInt8)) (need:Int) (hl:l.length≤1000000) (hh:∀i,i<l.length->(l.getD i default).length≤1000):Ret Tryz.prog 45 [aw seed,ai draws,.sl 1 (encA strC l),ai need] (.tup [.agg (depO (prpD seed draws l need)),.own 1 (encA bysC (prpS seed draws l need)),ai (prpE l need)]):=by
 have hll:(encA strC l).length=l.length:=by rw [encA_len (e:=1) (fun _=>rfl)];omega
 by_cases hb:badN l.length need
 ·have e1:prpE l need=9:=by unfold prpE;rw [if_pos hb]
  have e2:prpD seed draws l need=default:=by unfold prpD;rw [if_neg (by omega)]
  have e3:prpS seed draws l need= []:=by unfold prpS;rw [if_neg (by omega)]
  by_cases c1:1≤l.length∧l.length≤8
  ·have c4:¬(1≤need∧need≤l.length):=by unfold badN at hb;omega
   refine zO Tryz.func45 99 ?_
   refine zQ 1 [{}] [] ?_
   refine zS ?_
   refine zP 1 [yH [(1,{k:=(encA strC l).length}),(2,yV (ao (decide ((1:Int)≤(↑(encA strC l).length:Int)∧(↑(encA strC l).length:Int)≤8)))),(3,yV (ao false)),(5,{g:=false}),(6,{g:=false}),(7,{k:=(encA strC l).length,g:=false}),(8,{av:=some (ao (decide ((1:Int)≤need∧need≤(↑(encA strC l).length:Int)))),g:=false}),(9,{av:=some (ao true),g:=false}),(10,{b:=false})]] [.keep [29,10,9,8,0,1,2,3] [8]] [yR ((encA strC l).length),yI (within_ret (↑(encA strC l).length:Int) ((1:Int)) ((8:Int))),yB (ao (!decide ((1:Int)≤(↑(encA strC l).length:Int)∧(↑(encA strC l).length:Int)≤8))=ao false) (by simp;omega),yR false,yR false,yR false,yR ((encA strC l).length),yR false,yI (within_ret need ((1:Int)) (↑(encA strC l).length:Int)),yR false,yB (ao (!decide ((1:Int)≤need∧need≤(↑(encA strC l).length:Int)))=ao true) (by simp;omega),yR false] ?_
   refine zT 29 ?_
   refine zP 1 [{}] [.keep [10,9,29,8,0,1,2,3] [8]] [yL 7 7] ?_
   refine zR ?_
   refine then_r ?_
   refine zV [yK 0 (wv (prpD seed draws l need).pub) (by rw [e2];rfl),yK 0 (wv (prpD seed draws l need).peer) (by rw [e2];rfl),yB (bytesA (prpD seed draws l need).box= []) (by rw [e2];rfl),yB (encA strC (prpD seed draws l need).holders= []) (by rw [e2];rfl),yB (wordsA (prpD seed draws l need).digests= []) (by rw [e2];rfl),yJ 0 ((prpD seed draws l need).need) (by rw [e2];rfl),yK 0 (wv (prpD seed draws l need).target) (by rw [e2];rfl),yB (encA bysC (prpS seed draws l need)= []) (by rw [e3];rfl),yJ 9 (prpE l need) (by rw [e1])]
  ·refine zO Tryz.func45 99 ?_
   refine zQ 1 [{}] [] ?_
   refine zS ?_
   refine zP 1 [yH [(1,{k:=(encA strC l).length}),(2,yV (ao (decide ((1:Int)≤(↑(encA strC l).length:Int)∧(↑(encA strC l).length:Int)≤8)))),(3,yV (ao true))]] [.keep [29,10,9,8,0,1,2,3] [8]] [yR ((encA strC l).length),yI (within_ret (↑(encA strC l).length:Int) ((1:Int)) ((8:Int))),yB (ao (!decide ((1:Int)≤(↑(encA strC l).length:Int)∧(↑(encA strC l).length:Int)≤8))=ao true) (by simp;omega),yR true,yR true,yR true,yR true,yR true,yR true] ?_
   refine zT 29 ?_
   refine zP 1 [{}] [.keep [10,9,29,8,0,1,2,3] [8]] [yL 7 7] ?_
   refine zR ?_
   refine then_r ?_
   refine zV [yK 0 (wv (prpD seed draws l need).pub) (by rw [e2];rfl),yK 0 (wv (prpD seed draws l need).peer) (by rw [e2];rfl),yB (bytesA (prpD seed draws l need).box= []) (by rw [e2];rfl),yB (encA strC (prpD seed draws l need).holders= []) (by rw [e2];rfl),yB (wordsA (prpD seed draws l need).digests= []) (by rw [e2];rfl),yJ 0 ((prpD seed draws l need).need) (by rw [e2];rfl),yK 0 (wv (prpD seed draws l need).target) (by rw [e2];rfl),yB (encA bysC (prpS seed draws l need)= []) (by rw [e3];rfl),yJ 9 (prpE l need) (by rw [e1])]
 have e0:prpE l need=ff (hlE l) l.length:=by unfold prpE;rw [if_neg hb]
 have hb1:1≤l.length∧l.length≤8∧1≤need∧need≤l.length:=by unfold badN at hb;omega
 by_cases h0:ff (hlE l) l.length=0
 case neg =>
  have e2:prpD seed draws l need=default:=by unfold prpD;rw [if_neg (by omega)]
  have e3:prpS seed draws l need= []:=by unfold prpS;rw [if_neg (by omega)]
  refine zO Tryz.func45 99 ?_
  refine zQ 1 [{}] [] ?_
  refine zS ?_
  refine zP 1 [yH [(1,{k:=(encA strC l).length}),(2,yV (ao (decide ((1:Int)≤(↑(encA strC l).length:Int)∧(↑(encA strC l).length:Int)≤8)))),(3,yV (ao false)),(5,{g:=false}),(6,{g:=false}),(7,{k:=(encA strC l).length,g:=false}),(8,{av:=some (ao (decide ((1:Int)≤need∧need≤(↑(encA strC l).length:Int)))),g:=false}),(9,{av:=some (ao false),g:=false}),(10,{b:=false})]] [.keep [29,10,9,8,0,1,2,3] [8]] [yR ((encA strC l).length),yI (within_ret (↑(encA strC l).length:Int) ((1:Int)) ((8:Int))),yB (ao (!decide ((1:Int)≤(↑(encA strC l).length:Int)∧(↑(encA strC l).length:Int)≤8))=ao false) (by simp;omega),yR false,yR false,yR false,yR ((encA strC l).length),yR false,yI (within_ret need ((1:Int)) (↑(encA strC l).length:Int)),yR false,yB (ao (!decide ((1:Int)≤need∧need≤(↑(encA strC l).length:Int)))=ao false) (by simp;omega),yR false] ?_
  refine zF 29 ?_
  refine zK ?_
  refine then_n ?_
  refine zS ?_
  refine zP 2 [yH [(1,yV (ai (ff (hlE l) l.length)))],yH [(1,yV (ao true))]] [.keep [34,11,29,10,9,8,0,1,2,3] [8]] [yI (rholders_ret l (by assumption) (by assumption)),yB (ao (ff (hlE l) l.length != (0:Int))=ao true) (by simp;omega)] ?_
  refine zT 34 ?_
  refine zQ 1 [{}] [yL 7 7] ?_
  refine zR ?_
  refine then_r ?_
  refine zV [yK 0 (wv (prpD seed draws l need).pub) (by rw [e2];rfl),yK 0 (wv (prpD seed draws l need).peer) (by rw [e2];rfl),yB (bytesA (prpD seed draws l need).box= []) (by rw [e2];rfl),yB (encA strC (prpD seed draws l need).holders= []) (by rw [e2];rfl),yB (wordsA (prpD seed draws l need).digests= []) (by rw [e2];rfl),yJ 0 ((prpD seed draws l need).need) (by rw [e2];rfl),yK 0 (wv (prpD seed draws l need).target) (by rw [e2];rfl),yB (encA bysC (prpS seed draws l need)= []) (by rw [e3];rfl),yJ (ff (hlE l) l.length) (prpE l need) (by rw [e0])]
 have e1:prpE l need=0:=by rw [e0,h0]
 have hsl:(stream (derive seed [115,104,97,114,101,115] draws) 0 (8*(need-1))).length=(8*(need-1)).toNat:=by
  rw [stream_len];unfold streamN;omega
 have hw8:(words [secW seed draws]).length=8:=by rw [words_len];rfl
 have hse:splitE (words [secW seed draws]) (stream (derive seed [115,104,97,114,101,115] draws) 0 (8*(need-1))) need l.length=0:=by
  unfold splitE
  rw [if_neg (by omega),if_neg (by omega),if_neg (by rw [hsl,hw8];omega)]
 have hsn:(shrL seed draws l.length need).length=l.length:=by unfold shrL splitL;rw [if_pos hse];simp
 have hse2:splitE (words [derive seed [100,101,112,111,115,105,116] draws]) (stream (derive seed [115,104,97,114,101,115] draws) 0 (8*(need-1))) need l.length=0:=hse
 have hsn2:(splitL (words [derive seed [100,101,112,111,115,105,116] draws]) (stream (derive seed [115,104,97,114,101,115] draws) 0 (8*(need-1))) need l.length).length=l.length:=hsn
 have hdat:∀i,i<l.length->((splitL (words [derive seed [100,101,112,111,115,105,116] draws]) (stream (derive seed [115,104,97,114,101,115] draws) 0 (8*(need-1))) need l.length).getD i default).2.length=8:=fun i hi=>by
  rw [splitL,if_pos hse2,Int.toNat_natCast,range_getD _ _ hi]
  show (splitD _ _ _ _).length=8
  unfold splitD
  rw [List.length_map,List.length_range]
  exact hw8
 have hpl:=strs_plain l
 refine zO Tryz.func45 99 ?_
 have hse3:splitE (words [derive seed [100,101,112,111,115,105,116] draws]) (stream (derive seed [115,104,97,114,101,115] draws) 0 (8*(need-1))) need (encA strC l).length=0:=by rw [hll];exact hse2
 have hsn3:(splitL (words [derive seed [100,101,112,111,115,105,116] draws]) (stream (derive seed [115,104,97,114,101,115] draws) 0 (8*(need-1))) need (encA strC l).length).length=l.length:=by rw [hll];exact hsn2
 have hdat3:∀i,i<l.length->((splitL (words [derive seed [100,101,112,111,115,105,116] draws]) (stream (derive seed [115,104,97,114,101,115] draws) 0 (8*(need-1))) need (encA strC l).length).getD i default).2.length=8:=by rw [hll];exact hdat
 refine zQ 1 [{}] [] ?_
 refine zS ?_
 refine zP 1 [yH [(1,{k:=(encA strC l).length}),(2,yV (ao (decide ((1:Int)≤(↑(encA strC l).length:Int)∧(↑(encA strC l).length:Int)≤8)))),(3,yV (ao false)),(5,{g:=false}),(6,{g:=false}),(7,{k:=(encA strC l).length,g:=false}),(8,{av:=some (ao (decide ((1:Int)≤need∧need≤(↑(encA strC l).length:Int)))),g:=false}),(9,{av:=some (ao false),g:=false}),(10,{b:=false})]] [.keep [29,10,9,8,0,1,2,3] [8]] [yR ((encA strC l).length),yI (within_ret (↑(encA strC l).length:Int) ((1:Int)) ((8:Int))),yB (ao (!decide ((1:Int)≤(↑(encA strC l).length:Int)∧(↑(encA strC l).length:Int)≤8))=ao false) (by simp;omega),yR false,yR false,yR false,yR ((encA strC l).length),yR false,yI (within_ret need ((1:Int)) (↑(encA strC l).length:Int)),yR false,yB (ao (!decide ((1:Int)≤need∧need≤(↑(encA strC l).length:Int)))=ao false) (by simp;omega),yR false] ?_
 refine zF 29 ?_
 refine zK ?_
 refine then_n ?_
 refine zS ?_
 refine zP 2 [yH [(1,yV (ai (ff (hlE l) l.length)))],yH [(1,yV (ao false))]] [.keep [34,11,29,10,9,8,0,1,2,3] [8]] [yI (rholders_ret l (by assumption) (by assumption)),yB (ao (ff (hlE l) l.length != (0:Int))=ao false) (by simp;omega)] ?_
 refine zF 34 ?_
 refine zK ?_
 refine then_n ?_
 refine zP 3 [yH [(2,yV (aw (derive seed [100,101,112,111,115,105,116] draws)))],yH [(2,yV (aw (derive seed [115,104,97,114,101,115] draws))),(4,yV (ai (need-1))),(5,yV (ai ((8:Int)*(need-1)))),(6,yV (AV.own 1 (bytesA (stream (derive seed [115,104,97,114,101,115] draws) 0 ((8:Int)*(need-1))))))],yH [(1,yV (AV.arr (wordsA [derive seed [100,101,112,111,115,105,116] draws]))),(2,yV (AV.own 1 (bytesA (words [derive seed [100,101,112,111,115,105,116] draws])))),(6,{k:=(encA strC l).length}),(7,{av:=some (AV.tup [AV.own 2 (encA shareC (splitL (words [derive seed [100,101,112,111,115,105,116] draws]) (stream (derive seed [115,104,97,114,101,115] draws) 0 ((8:Int)*(need-1))) need (↑(encA strC l).length:Int))),ai (splitE (words [derive seed [100,101,112,111,115,105,116] draws]) (stream (derive seed [115,104,97,114,101,115] draws) 0 ((8:Int)*(need-1))) need (↑(encA strC l).length:Int))]),b:=false})]] [.keep [15,14,13,12,34,11,29,10,9,8,0,1,2,3] [1055,8]] [yI (refderive_ret seed [100,101,112,111,115,105,116] draws (by simp [h0])),yI (refderive_ret seed [115,104,97,114,101,115] draws (by simp [h0])),yN (need-1),yN ((8:Int)*(need-1)),yI (refstream_ret (derive seed [115,104,97,114,101,115] draws) 0 ((8:Int)*(need-1))),yI (valR_bytes (stream (derive seed [115,104,97,114,101,115] draws) 0 ((8:Int)*(need-1)))),yR [aw (derive seed [100,101,112,111,115,105,116] draws)],yI (refwords_ret [derive seed [100,101,112,111,115,105,116] draws] (by simp [h0])),yI (valR_bytes (words [derive seed [100,101,112,111,115,105,116] draws])),yR ((encA strC l).length),yI (refsplit_ret (words [derive seed [100,101,112,111,115,105,116] draws]) (stream (derive seed [115,104,97,114,101,115] draws) 0 ((8:Int)*(need-1))) need (↑(encA strC l).length:Int))] ?_
 refine zS ?_
 refine zP 1 [yH [(1,yV (ao false))]] [.keep [59,15,14,13,12,34,11,29,10,9,8,0,1,2,3] [1055,8]] [yB (ao (splitE (words [derive seed [100,101,112,111,115,105,116] draws]) (stream (derive seed [115,104,97,114,101,115] draws) 0 ((8:Int)*(need-1))) need (↑(encA strC l).length:Int) != (0:Int))=ao false) (by simp;omega)] ?_
 refine zF 59 ?_
 refine zK ?_
 refine then_n ?_
 refine zP 2 [yH [(1,yV (aw (pubW (derive seed [100,101,112,111,115,105,116] draws)))),(3,{b:=false})],{}] [.keep [17,16,59,15,14,13,12,34,11,29,10,9,8,0,1,2,3] [16,65,1055,8]] [yI (refpubx_ret (derive seed [100,101,112,111,115,105,116] draws)),yB (plainR (encA strC l)) (by assumption),yB (((0:Nat)+(encA strC l).length)*(16:Nat)≤(140737488355328:Nat)) (by simp;omega),yL 7 7] ?_
 refine zS ?_
 refine AWP.regsK 1 [{}] (by kernel_rfl) (s':=AS.mk [(18,ai 0),(17,AV.nil),(16,AV.addr 16 0),(59,ao false),(15,ai (splitE (words [derive seed [100,101,112,111,115,105,116] draws]) (stream (derive seed [115,104,97,114,101,115] draws) 0 ((8:Int)*(need-1))) need (↑(encA strC l).length:Int))),(14,AV.ref 1055),(13,AV.sl 1 (bytesA (stream (derive seed [115,104,97,114,101,115] draws) 0 ((8:Int)*(need-1))))),(12,aw (derive seed [100,101,112,111,115,105,116] draws)),(34,ao false),(11,ai (ff (hlE l) l.length)),(29,ao false),(10,ai 0),(9,AV.nil),(8,AV.addr 8 0),(0,aw seed),(1,ai draws),(2,AV.sl 1 (encA strC l)),(3,ai need)] [(16,Row.mk 1 false true [aw (pubW (derive seed [100,101,112,111,115,105,116] draws)),au0,AV.nil,AV.ref 65,AV.nil,ai need,au0]),(65,Row.mk 1 true false (encA strC l)),(1055,Row.mk 2 true false (encA shareC (splitL (words [derive seed [100,101,112,111,115,105,116] draws]) (stream (derive seed [115,104,97,114,101,115] draws) 0 ((8:Int)*(need-1))) need (↑(encA strC l).length:Int)))),(8,Row.mk 1 false true [au0,au0,AV.nil,AV.nil,AV.nil,ai 0,au0])]) (C:=[]) (by kernel_rfl) trivial ?_
 refine zB 0 ?_
 have hLs:shrL seed draws l.length need=splitL (words [derive seed [100,101,112,111,115,105,116] draws]) (stream (derive seed [115,104,97,114,101,115] draws) 0 (8*(need-1))) need (encA strC l).length:=by rw [hll];rfl
 generalize hL:splitL (words [derive seed [100,101,112,111,115,105,116] draws]) (stream (derive seed [115,104,97,114,101,115] draws) 0 (8*(need-1))) need (encA strC l).length=L at *
 refine AWP.weak (Weaks.cnil 16 4 87 1 (r:=⟨1,false,true,[aw (pubW (derive seed [100,101,112,111,115,105,116] draws)),au0,.nil,.ref 65,.nil,ai need,au0]⟩) (by kernel_rfl) rfl rfl (by kernel_rfl)) ?_
 refine zL (fun (i:Nat)=>(⟨[(16,AV.addr 16 0),(59,ao false),(15,ai (splitE (words [derive seed [100,101,112,111,115,105,116] draws]) (stream (derive seed [115,104,97,114,101,115] draws) 0 ((8:Int)*(need-1))) need (↑(encA strC l).length:Int))),(14,AV.ref 1055),(13,AV.sl 1 (bytesA (stream (derive seed [115,104,97,114,101,115] draws) 0 ((8:Int)*(need-1))))),(12,aw (derive seed [100,101,112,111,115,105,116] draws)),(34,ao false),(11,ai (ff (hlE l) l.length)),(29,ao false),(10,ai 0),(9,AV.nil),(8,AV.addr 8 0),(0,aw seed),(1,ai draws),(2,AV.sl 1 (encA strC l)),(3,ai need),(18,ai i),(17,AV.ref 96)],[(1055,⟨2,true,false,encA shareC L⟩),(8,⟨1,false,true,[au0,au0,AV.nil,AV.nil,AV.nil,ai 0,au0]⟩),(16,⟨1,false,true,[aw (pubW (derive seed [100,101,112,111,115,105,116] draws)),au0,.nil,.ref 65,.ref 87,ai need,au0]⟩),(65,⟨1,true,false,encA strC l⟩),(87,⟨1,true,false,wordsA ((List.range i).map fun k=>digD (l.getD k default) (L.getD k default).2)⟩),(96,⟨1,true,false,encA bysC ((List.range i).map fun k=>(L.getD k default).2)⟩)]⟩:AS)) (fun i=>(i≤l.length)) (fun i=>(l.length-i)) (0) ?_ (zW [.nil 17 96 1,.keep [16,59,15,14,13,12,34,11,29,10,9,8,0,1,2,3,18,17] [1055,8,16,65,87,96]]) ?_
 ·omega
 intro i hi
 refine zS ?_
 refine zP 1 [yH [(2,{k:=(encA strC l).length})]] [.keep [71,16,59,15,14,13,12,34,11,29,10,9,8,0,1,2,3,18,17] [1055,8,16,65,87,96]] [yR ((encA strC l).length)] ?_
 refine zD 71 ((↑i:Int)<(↑(encA strC l).length:Int)) (fun g=>?_) (fun g=>?_)
 ·have hi2:i<l.length:=by omega
  have hat:=strs_at hi2
  have hA:=hh i hi2
  have hd8:=hdat3 i hi2
  have q1:=congrArg wordsA (snocR (fun k=>digD (l.getD k default) (L.getD k default).2) i)
  have q2:encA bysC ((List.range i).map fun k=>(L.getD k default).2)++ [AV.sl 1 (bytesA (L.getD i default).2)]=encA bysC ((List.range (i+1)).map fun k=>(L.getD k default).2):=by
   rw [←snocR,←encA_app];rfl
  refine zK ?_
  refine then_n ?_
  refine zS ?_
  refine zB 1 ?_
  refine zP 1 [{hs:=[(4,{k:=i}),(5,yV (AV.val (Value.string (ByteArray.mk (l.getD i default).toArray)))),(8,{k:=i}),(10,yV (AV.sl 1 (bytesA (L.getD i default).snd))),(11,yV (aw (digD (l.getD i default) (L.getD i default).snd))),(12,yV (AV.arr (wordsA [digD (l.getD i default) (L.getD i default).snd]))),(13,yV (AV.arr (wordsA (List.map (fun k↦digD (l.getD k default) (L.getD k default).snd) (List.range i)++ [digD (l.getD i default) (L.getD i default).snd]))))],T:=13}] [.keep [71,16,59,15,14,13,12,34,11,29,10,9,8,0,1,2,3,18,17] [16,87,1055,8,65,96]] [yR (↑i:Int),yO (i<(encA strC l).length),yB ((encA strC l)[i]?=some (AV.val (Value.string (ByteArray.mk (l.getD i default).toArray)))) (by assumption),yR (↑i:Int),yB (i*(2:Nat)<(encA shareC L).length) (by simp only [encA_len (f:=shareC) (e:=2) (fun _=>rfl)];omega),yB ((encA shareC L)[i*(2:Nat)+(1:Nat)]?=some (AV.sl 1 (bytesA (L.getD i default).snd))) (encA_at (f:=shareC) (e:=2) (k:=i) (j:=1) (fun _=>rfl) (by omega) rfl),yI (refdigest_ret (l.getD i default) ((L.getD i default).snd) (by assumption) (by omega)),yR [aw (digD (l.getD i default) (L.getD i default).snd)],yB (wordsA (List.map (fun k↦digD (l.getD k default) (L.getD k default).snd) (List.range i))++wordsA [digD (l.getD i default) (L.getD i default).snd]=wordsA (List.map (fun k↦digD (l.getD k default) (L.getD k default).snd) (List.range i)++ [digD (l.getD i default) (L.getD i default).snd])) (wordsA_app _ _),yB (((wordsA (List.map (fun k↦digD (l.getD k default) (L.getD k default).snd) (List.range i))).length+(wordsA [digD (l.getD i default) (L.getD i default).snd]).length)*(8:Nat)≤(140737488355328:Nat)) (by simp only [wordsA_len,List.length_cons,List.length_nil,List.length_map,List.length_range];omega),yL 5 7] ?_
  refine zX (yH [(3,{k:=i}),(5,yV (AV.sl 1 (bytesA (L.getD i default).snd)))]) [yR (↑i:Int),yB (i*(2:Nat)<(encA shareC L).length) (by simp only [encA_len (f:=shareC) (e:=2) (fun _=>rfl)];omega),yB ((encA shareC L)[i*(2:Nat)+(1:Nat)]?=some (AV.sl 1 (bytesA (L.getD i default).snd))) (encA_at (f:=shareC) (e:=2) (k:=i) (j:=1) (fun _=>rfl) (by omega) rfl),yB (((encA bysC (List.map (fun k↦(L.getD k default).snd) (List.range i))).length+(1:Nat))*(24:Nat)≤(140737488355328:Nat)) (by simp only [List.length_map,List.length_range,encA_len (f:=bysC) (e:=1) (fun _=>rfl)];omega)] ?_
  refine inb_n ?_
  refine then_n ?_
  refine zX (yH [(1,yV (ai ((↑i:Int)+1)))]) [yN ((↑i:Int)+1)] ?_
  refine round_n (i+1) (by assumption) (by omega) (Weaks.of [.keep [16,59,15,14,13,12,34,11,29,10,9,8,0,1,2,3,18,17] [1055,8,16,65,87,96]] (s1:=AS.mk [(16,AV.addr 16 0),(59,ao false),(15,ai (splitE (words [derive seed [100,101,112,111,115,105,116] draws]) (stream (derive seed [115,104,97,114,101,115] draws) 0 ((8:Int)*(need-1))) need (↑(encA strC l).length:Int))),(14,AV.ref 1055),(13,AV.sl 1 (bytesA (stream (derive seed [115,104,97,114,101,115] draws) 0 ((8:Int)*(need-1))))),(12,aw (derive seed [100,101,112,111,115,105,116] draws)),(34,ao false),(11,ai (ff (hlE l) l.length)),(29,ao false),(10,ai 0),(9,AV.nil),(8,AV.addr 8 0),(0,aw seed),(1,ai draws),(2,AV.sl 1 (encA strC l)),(3,ai need),(18,ai ((↑i:Int)+1)),(17,AV.ref 96)] [(1055,Row.mk 2 true false (encA shareC L)),(8,Row.mk 1 false true [au0,au0,AV.nil,AV.nil,AV.nil,ai 0,au0]),(16,Row.mk 1 false true [aw (pubW (derive seed [100,101,112,111,115,105,116] draws)),au0,AV.nil,AV.ref 65,AV.ref 87,ai need,au0]),(65,Row.mk 1 true false (encA strC l)),(87,Row.mk 1 true false (wordsA (List.map (fun k↦digD (l.getD k default) (L.getD k default).snd) (List.range i)++ [digD (l.getD i default) (L.getD i default).snd]))),(96,Row.mk 1 true false (encA bysC (List.map (fun k↦(L.getD k default).snd) (List.range i))++ [AV.sl 1 (bytesA (L.getD i default).snd)]))]) (by kernel_rfl) (as_eq (f_cons rfl (f_cons rfl (f_cons rfl (f_cons rfl (f_cons rfl (f_cons rfl (f_cons rfl (f_cons rfl (f_cons rfl (f_cons rfl (f_cons rfl (f_cons rfl (f_cons rfl (f_cons rfl (f_cons rfl (f_cons rfl (f_cons rfl (f_cons rfl rfl)))))))))))))))))) (h_cons rfl (h_cons rfl (h_cons rfl (h_cons rfl (h_cons q1 (h_cons q2 rfl))))))))
 ·have e:i=l.length:=by omega
  subst e
  have e2:prpD seed draws l need=⟨pubW (derive seed [100,101,112,111,115,105,116] draws),0,[],l,(List.range l.length).map (fun k=>digD (l.getD k default) (L.getD k default).2),need,0⟩:=by
   unfold prpD;rw [if_pos e1,hLs];rfl
  have e3:prpS seed draws l need=(List.range l.length).map fun k=>(L.getD k default).2:=by
   unfold prpS;rw [if_pos e1,hLs]
  refine zE 0 ?_
  refine then_e ?_
  refine round_e ?_
  refine inb_e ?_
  refine then_n ?_
  refine zP 1 [{}] [.keep [10,9,71,16,59,15,14,13,12,34,11,29,8,0,1,2,3,18,17] [8,1055,16,65,87,96]] [yL 7 7] ?_
  refine zR ?_
  refine zV [yK (wv (pubW (derive seed [100,101,112,111,115,105,116] draws))) (wv (prpD seed draws l need).pub) (by rw [e2]),yK 0 (wv (prpD seed draws l need).peer) (by rw [e2];rfl),yB (bytesA (prpD seed draws l need).box= []) (by rw [e2];rfl),yB (encA strC l=encA strC (prpD seed draws l need).holders) (by rw [e2]),yB (wordsA (List.map (fun k↦digD (l.getD k default) (L.getD k default).snd) (List.range l.length))=wordsA (prpD seed draws l need).digests) (by rw [e2]),yJ need ((prpD seed draws l need).need) (by rw [e2]),yK 0 (wv (prpD seed draws l need).target) (by rw [e2];rfl),yB (encA bysC (List.map (fun k↦(L.getD k default).snd) (List.range l.length))=encA bysC (prpS seed draws l need)) (by rw [e3]),yJ 0 (prpE l need) (by rw [e1])]
end Go.Proofs.YtejpabdmiagnnaaGreatDoor
