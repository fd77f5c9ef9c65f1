import Derived.Test.YtejpabdmiagnnaaGreatDoorZrDR
import Derived.Test.YtejpabdmiagnnaaGreatDoorZrV8
set_option linter.all false
namespace Go.Proofs.YtejpabdmiagnnaaGreatDoor
open Go.RowKit
def stepC (leaf chain:Int) (p:Int) (x:UInt64):UInt64:=hash 1 (words [u64 leaf,u64 chain,u64 p,x])
def runC (leaf chain:Int) (p:Int) (x:UInt64):Nat->UInt64
 | 0=>x
 | n+1=>stepC leaf chain (p+n) (runC leaf chain p x n)
def run (leaf chain src dst:Int) (x:UInt64):UInt64:=runC leaf chain (max src 0) x (min dst 15-max src 0).toNat
def secret (seed:UInt64) (leaf c:Int):UInt64:=mac seed 1 (words [u64 leaf,u64 c])
def combine (leaf:Int) (l:List UInt64):UInt64:=hash 2 (words (u64 leaf::l))
def pubEnds (seed:UInt64) (leaf:Int) (n:Nat):List UInt64:=(List.range n).map fun (i:Nat)=>run leaf i 0 15 (secret seed leaf i)
theorem pubEnds_len (seed:UInt64) (leaf:Int) (n:Nat):(pubEnds seed leaf n).length=n:=by simp [pubEnds]
theorem pubEnds_succ (seed:UInt64) (leaf:Int) (n:Nat):pubEnds seed leaf (n+1)=pubEnds seed leaf n++ [run leaf n 0 15 (secret seed leaf n)]:=by simp [pubEnds,List.range_succ]
def fillZ (n:Nat) (l:List UInt64) (k:Nat):List UInt64:=l.take k++List.replicate (n-k) 0
end Go.Proofs.YtejpabdmiagnnaaGreatDoor
namespace Go.Proofs.YtejpabdmiagnnaaGreatDoor
open Go.RowKit
set_option maxRecDepth 100000
set_option maxHeartbeats 4000000
set_option linter.unusedVariables false
theorem i64_small {n:Int} (h0:0≤n) (h1:n≤9223372036854775807):IntKind.i64.wrap n=n:=by
 have:=av_i64 (n:=n) (by omega) h1
 injection this with this;injection this
theorem refrun_ret (leaf chain src dst:Int) (x:UInt64):Ret Tryz.prog 201 [ai leaf,ai chain,ai src,ai dst,aw x] (aw (run leaf chain src dst x)):=by
 unfold run
 have hp:(if 0>src then 0 else src)=max src 0:=by split<;>omega
 have he:(if 15<dst then 15 else dst)=min dst 15:=by split<;>omega
 generalize hpp:max src 0=p at *
 generalize hee:min dst 15=e at *
 refine zO Tryz.func201 31 ?_
 refine zQ 1 [{}] [] ?_
 refine zS ?_
 refine zP 1 [yH [(1,yV (ai p))]] [.keep [11,10,0,1,2,3,4] []] [yB (ai (if (0:Int)>src then (0:Int) else src)=ai p) (congrArg (fun n=>AV.val (.int .i64 n)) hp)] ?_
 refine zB 0 ?_
 refine zL (fun (k:Nat)=>(⟨[(10,AV.val (Value.int .u64 0)),(0,ai leaf),(1,ai chain),(2,ai src),(3,ai dst),(11,ai (p+k)),(4,aw (runC leaf chain p x k))],[]⟩:AS)) (fun k=>(k≤(e-p).toNat)) (fun k=>((e-p).toNat-k)) (0) ?_ (Weaks.of [.keep [10,0,1,2,3,11,4] []] (s1:=AS.mk [(10,AV.val (Value.int .u64 0)),(0,ai leaf),(1,ai chain),(2,ai src),(3,ai dst),(11,ai p),(4,aw x)] []) (by kernel_rfl) (as_eq (f_cons rfl (f_cons rfl (f_cons rfl (f_cons rfl (f_cons rfl (f_cons (congrArg (fun n=>AV.val (.int .i64 n)) (by omega)) (f_cons rfl rfl))))))) rfl)) ?_
 ·omega
 intro k hk
 refine zS ?_
 refine zP 1 [yH [(2,yV (ai e))]] [.keep [17,10,0,1,2,3,11,4] []] [yB (ai (if (15:Int)<dst then (15:Int) else dst)=ai e) (congrArg (fun n=>AV.val (.int .i64 n)) he)] ?_
 refine zD 17 (p+(↑k:Int)<e) (fun h=>?_) (fun h=>?_)
 ·have hw:(words [u64 leaf,u64 chain,u64 (p+k),runC leaf chain p x k]).length=32:=by rw [words_len];rfl
  refine zK ?_
  refine then_n ?_
  refine zS ?_
  refine zB 1 ?_
  refine zX (yH [(1,yV (aw (u64 leaf))),(3,yV (aw (u64 chain))),(5,yV (aw (u64 (p+(↑k:Int))))),(7,yV (AV.arr (wordsA [u64 leaf,u64 chain,u64 (p+(↑k:Int)),runC leaf chain p x k]))),(8,yV (AV.own 1 (bytesA (words [u64 leaf,u64 chain,u64 (p+(↑k:Int)),runC leaf chain p x k])))),(9,yV (aw (hash (1:Int) (words [u64 leaf,u64 chain,u64 (p+(↑k:Int)),runC leaf chain p x k]))))]) [yI (avw_conv leaf),yI (avw_conv chain),yI (avw_conv (p+(↑k:Int))),yR (wordsA [u64 leaf,u64 chain,u64 (p+(↑k:Int)),runC leaf chain p x k]),yI (refwords_ret [u64 leaf,u64 chain,u64 (p+(↑k:Int)),runC leaf chain p x k] (by simp only [List.length_cons,List.length_nil];omega)),yI (valR_bytes (words [u64 leaf,u64 chain,u64 (p+(↑k:Int)),runC leaf chain p x k])),yI (refhash_ret ((1:Int)) (words [u64 leaf,u64 chain,u64 (p+(↑k:Int)),runC leaf chain p x k]) (by omega))] ?_
  refine inb_n ?_
  refine then_n ?_
  refine zX (yH [(1,yV (ai (p+(↑k:Int)+1)))]) [yN (p+(↑k:Int)+1)] ?_
  refine round_n (k+1) (by omega) (by omega) (Weaks.of [.keep [10,0,1,2,3,11,4] []] (s1:=AS.mk [(10,AV.val (Value.int .u64 0)),(0,ai leaf),(1,ai chain),(2,ai src),(3,ai dst),(11,ai (p+(↑k:Int)+1)),(4,aw (hash (1:Int) (words [u64 leaf,u64 chain,u64 (p+(↑k:Int)),runC leaf chain p x k])))] []) (by kernel_rfl) (as_eq (f_cons rfl (f_cons rfl (f_cons rfl (f_cons rfl (f_cons rfl (f_cons (congrArg (fun n=>AV.val (.int .i64 n)) (by omega)) (f_cons rfl rfl))))))) rfl))
 ·have e1:k=(e-p).toNat:=by omega
  subst e1
  refine zE 0 ?_
  refine then_e ?_
  refine round_e ?_
  refine inb_e ?_
  refine then_n ?_
  refine zP 1 [{}] [.keep [10,17,0,1,2,3,11,4] []] [] ?_
  refine zR ?_
  refine zV [yR (Value.int .u64 (wv (runC leaf chain p x (e-p).toNat)))]
theorem refsecret_ret (seed:UInt64) (leaf c:Int):Ret Tryz.prog 202 [aw seed,ai leaf,ai c] (aw (secret seed leaf c)):=by
 have hw:(words [u64 leaf,u64 c]).length=16:=by rw [words_len];rfl
 refine zO Tryz.func202 15 ?_
 refine zP 2 [{},yH [(2,yV (aw (u64 leaf))),(4,yV (aw (u64 c))),(5,yV (AV.arr (wordsA [u64 leaf,u64 c]))),(6,yV (AV.own 1 (bytesA (words [u64 leaf,u64 c])))),(7,yV (aw (mac seed (1:Int) (words [u64 leaf,u64 c]))))]] [.keep [6,0,1,2] []] [yI (avw_conv leaf),yI (avw_conv c),yR (wordsA [u64 leaf,u64 c]),yI (refwords_ret [u64 leaf,u64 c] (by simp only [List.length_cons,List.length_nil];omega)),yI (valR_bytes (words [u64 leaf,u64 c])),yI (refmac_ret seed ((1:Int)) (words [u64 leaf,u64 c]) (by omega))] ?_
 refine zR ?_
 refine zV [yR (Value.int .u64 (wv (secret seed leaf c)))]
theorem refends_ret (leaf:Int) (l:List UInt64) (hl:l.length≤18):Ret Tryz.prog 210 [ai leaf,.sl 1 (wordsA l)] (aw (combine leaf l)):=by
 have h1:(words [u64 leaf]).length=8:=by rw [words_len];rfl
 have h2:(words l).length=8*l.length:=words_len l
 have e:words [u64 leaf]++words l=words (u64 leaf::l):=by rw [←words_app];rfl
 refine zO Tryz.func210 13 ?_
 refine zP 2 [{},yH [(1,yV (aw (u64 leaf))),(2,yV (AV.arr (wordsA [u64 leaf]))),(3,yV (AV.own 1 (bytesA (words [u64 leaf])))),(5,yV (AV.own 1 (bytesA (words l)))),(6,{av:=some (AV.arr (bytesA (words [u64 leaf]++words l))),b:=false}),(7,yV (aw (hash (2:Int) (words [u64 leaf]++words l))))]] [.keep [4,0,1] []] [yI (avw_conv leaf),yR [aw (u64 leaf)],yI (refwords_ret [u64 leaf] (by simp only [List.length_cons,List.length_nil];omega)),yI (valR_bytes (words [u64 leaf])),yI (refwords_ret l (by omega)),yI (valR_bytes (words l)),yB (bytesA (words [u64 leaf])++bytesA (words l)=bytesA (words [u64 leaf]++words l)) (bytesA_app _ _),yB (plainR (bytesA (words l))) (plainR_bytes _),yB (((bytesA (words [u64 leaf])).length+(bytesA (words l)).length)*(1:Nat)≤(140737488355328:Nat)) (by simp only [bytesA_len];omega),yI (refhash_ret ((2:Int)) (words [u64 leaf]++words l) (by simp only [List.length_append];omega))] ?_
 refine zR ?_
 refine zV [yR (Value.int .u64 (wv (combine leaf l)))]
theorem refleaf_ret (seed:UInt64) (leaf:Int):Ret Tryz.prog 203 [aw seed,ai leaf] (aw (combine leaf (pubEnds seed leaf 18))):=by
 refine zO Tryz.func203 24 ?_
 refine zQ 2 [{},{}] [] ?_
 refine zS ?_
 refine zQ 1 [{}] [] ?_
 refine zB 0 ?_
 refine zL (fun (k:Nat)=>(⟨[(4,AV.val (Value.int .u64 0)),(0,aw seed),(1,ai leaf),(6,ai k),(5,AV.ref 23)],[(23,⟨1,true,false,wordsA (pubEnds seed leaf k)⟩)]⟩:AS)) (fun k=>(k≤18)) (fun k=>(18-k)) (0) ?_ (zW [.nil 5 23 1,.keep [4,0,1,6,5] [23]]) ?_
 ·omega
 intro k hk
 have hl:=pubEnds_len seed leaf k
 refine zS ?_
 refine zQ 1 [{}] [] ?_
 refine zD 8 ((↑k:Int)<18) (fun h=>?_) (fun h=>?_)
 ·skip
  refine zK ?_
  refine then_n ?_
  refine zS ?_
  refine zB 1 ?_
  refine zX (yH [(6,yV (aw (secret seed leaf (↑k:Int)))),(7,yV (aw (run leaf (↑k:Int) (0:Int) (15:Int) (secret seed leaf (↑k:Int))))),(8,yV (AV.arr (wordsA [run leaf (↑k:Int) (0:Int) (15:Int) (secret seed leaf (↑k:Int))]))),(9,yV (AV.arr (wordsA (pubEnds seed leaf k++ [run leaf (↑k:Int) (0:Int) (15:Int) (secret seed leaf (↑k:Int))]))))]) [yI (refsecret_ret seed leaf ((↑k:Int))),yI (refrun_ret leaf ((↑k:Int)) ((0:Int)) ((15:Int)) (secret seed leaf (↑k:Int))),yR [aw (run leaf (↑k:Int) (0:Int) (15:Int) (secret seed leaf (↑k:Int)))],yB (wordsA (pubEnds seed leaf k)++wordsA [run leaf (↑k:Int) (0:Int) (15:Int) (secret seed leaf (↑k:Int))]=wordsA (pubEnds seed leaf k++ [run leaf (↑k:Int) (0:Int) (15:Int) (secret seed leaf (↑k:Int))])) (wordsA_app _ _),yB (((wordsA (pubEnds seed leaf k)).length+(wordsA [run leaf (↑k:Int) (0:Int) (15:Int) (secret seed leaf (↑k:Int))]).length)*(8:Nat)≤(140737488355328:Nat)) (by simp only [wordsA_len,List.length_cons,List.length_nil];omega)] ?_
  refine inb_n ?_
  refine then_n ?_
  refine zX (yH [(1,yV (ai ((↑k:Int)+1)))]) [yN ((↑k:Int)+1)] ?_
  refine round_n (k+1) (by omega) (by omega) (Weaks.of [.ren 20 23,.keep [4,0,1,6,5] [23]] (s1:=AS.mk [(4,AV.val (Value.int .u64 0)),(0,aw seed),(1,ai leaf),(6,ai ((↑k:Int)+1)),(5,AV.ref 23)] [(23,Row.mk 1 true false (wordsA (pubEnds seed leaf k++ [run leaf (↑k:Int) (0:Int) (15:Int) (secret seed leaf (↑k:Int))])))]) (by kernel_rfl) (as_eq (f_cons rfl (f_cons rfl (f_cons rfl (f_cons (congrArg (fun n=>AV.val (.int .i64 n)) (by omega)) (f_cons rfl rfl))))) (h_cons (congrArg wordsA (pubEnds_succ seed leaf k).symm) rfl)))
 ·have e:k=18:=by omega
  subst e
  refine zE 0 ?_
  refine then_e ?_
  refine round_e ?_
  refine inb_e ?_
  refine then_n ?_
  refine zP 1 [yH [(2,yV (aw (combine leaf (pubEnds seed leaf (18:Nat)))))]] [.keep [4,8,0,1,6,5] [23]] [yI (refends_ret leaf (pubEnds seed leaf (18:Nat)) (by assumption))] ?_
  refine zR ?_
  refine zV [yR (Value.int .u64 (wv (combine leaf (pubEnds seed leaf (18:Nat)))))]
end Go.Proofs.YtejpabdmiagnnaaGreatDoor
