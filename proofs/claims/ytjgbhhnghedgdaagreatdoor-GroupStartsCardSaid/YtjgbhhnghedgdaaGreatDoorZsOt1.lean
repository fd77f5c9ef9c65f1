import Derived.Test.YtjgbhhnghedgdaaGreatDoorZsV8
import Derived.Test.YtjgbhhnghedgdaaGreatDoorZsGrow
import Derived.Test.YtjgbhhnghedgdaaGreatDoorZsRH
set_option linter.all false
namespace Go.Proofs.YtjgbhhnghedgdaaGreatDoor
open Go.RowKit
set_option maxRecDepth 100000
set_option maxHeartbeats 4000000
set_option linter.unusedVariables false
theorem i64_small {n:Int} (h0:0≤n) (h1:n≤9223372036854775807):IntKind.i64.wrap n=n:=by
 have:=av_i64 (n:=n) (by omega) h1
 injection this with this;injection this
theorem digits_ret (m:UInt64):Ret Tryz.prog 139 [aw m] (.arr (intsA (digs m))):=by
 refine zO Tryz.func139 32 ?_
 refine zQ 3 [yH [(0,yV (AV.arr (intsA (List.replicate (18:Nat) (0:Int)))))],yH [(0,yV (AV.arr (intsA (List.replicate (18:Nat) (0:Int)))))],{}] [yR (intsA (List.replicate (18:Nat) (0:Int))),yR (intsA (List.replicate (18:Nat) (0:Int)))] ?_
 refine zS ?_
 refine zQ 1 [{}] [] ?_
 refine zB 0 ?_
 refine zL (fun (k:Nat)=>(⟨[(3,AV.addr 3 0),(2,AV.addr 2 0),(0,aw m),(6,ai k),(4,ai (nibSum m k))],[(2,⟨1,true,true,intsA (List.replicate (18:Nat) (0:Int))⟩),(3,⟨1,true,false,intsA (digP m k)⟩)]⟩:AS)) (fun k=>(k≤16)) (fun k=>(16-k)) (0) ?_ (zW [.loose 3,.keep [3,2,0,6,4] [2,3]]) ?_
 ·omega
 intro k hk
 have hs:=nibSum_le m k
 refine zQ 1 [{}] [] ?_
 refine zS ?_
 refine zD 7 ((↑k:Int)<16) (fun h=>?_) (fun h=>?_)
 ·have hn:=nib_lt m k
  have e1:IntKind.i64.wrap (wv ((m>>>UInt64.ofNat (60-4*(k:Int)).toNat)&&&15))=(nib m k:Int):=by
   rw [show (60-4*(k:Int)).toNat=60-4*k by omega,nib_shr m k (by omega)];exact i64_small (by omega) (by omega)
  have e2:=digP_set m k
  have e3:(digP m (k+1)).getD k 0=(nib m k:Int):=by rw [digP_at m _ k (by omega),if_pos (by omega)]
  have e4:IntKind.i64.wrap ((nibSum m k:Int)+IntKind.i64.wrap (15-((digP m k).set k (nib m k:Int)).getD k 0))=(nibSum m (k+1):Int):=by
   rw [e2,e3,i64_small (n:=15-_) (by omega) (by omega),i64_small (by omega) (by omega)];simp only [nibSum];omega
  refine zK ?_
  refine then_n ?_
  refine zS ?_
  refine zB 1 ?_
  refine zP 2 [{},yH [(3,yV (ai ((4:Int)*(↑k:Int)))),(4,yV (ai ((60:Int)-4*(↑k:Int)))),(5,yV (aw (m>>>UInt64.ofNat ((60:Int)-4*(↑k:Int)).toNat))),(6,yV (aw (m>>>UInt64.ofNat ((60:Int)-4*(↑k:Int)).toNat&&&(15:UInt64)))),(7,yV (ai (↑(nib m k):Int))),(8,{k:=k}),(9,yV (AV.arr (intsA ((digP m k).set k (↑(nib m k):Int)))))]] [.keep [5,7,3,2,0,6,4] [3,2]] [yN ((4:Int)*(↑k:Int)),yN ((60:Int)-4*(↑k:Int)),yI (avw_shr m ((60:Int)-4*(↑k:Int)) (by omega) (by omega)),yO ((0:Int)≤60-4*(↑k:Int)),yI (avw_and (m>>>UInt64.ofNat ((60:Int)-4*(↑k:Int)).toNat) 15),yB (ai (IntKind.i64.wrap (wv (m>>>UInt64.ofNat ((60:Int)-4*(↑k:Int)).toNat&&&(15:UInt64))))=ai (↑(nib m k):Int)) (congrArg (fun n=>AV.val (.int .i64 n)) e1),yR (↑k:Int),yO (k<(18:Nat)),yB ((intsA (digP m k)).set k (ai (↑(nib m k):Int))=intsA ((digP m k).set k (↑(nib m k):Int))) (intsA_set _ _ _),yB (k+(1:Nat)≤(intsA (digP m k)).length) (by simp only [intsA_len,digP_len];omega)] ?_
  refine zX (yH [(2,{k:=k}),(3,yV (ai (((digP m k).set k (↑(nib m k):Int)).getD k (0:Int))))]) [yR (↑k:Int),yO (k<(18:Nat)),yB ((intsA ((digP m k).set k (↑(nib m k):Int)))[k]?=some (ai (((digP m k).set k (↑(nib m k):Int)).getD k (0:Int)))) (intsA_at (by simp only [List.length_set,digP_len];omega))] ?_
  refine inb_n ?_
  refine then_n ?_
  refine zX (yH [(0,yV (ai ((↑k:Int)+1)))]) [yN ((↑k:Int)+1)] ?_
  refine round_n (k+1) (by omega) (by omega) (Weaks.of [.keep [3,2,0,6,4] [2,3]] (s1:=AS.mk [(3,AV.addr 3 0),(2,AV.addr 2 0),(0,aw m),(6,ai ((↑k:Int)+1)),(4,ai (IntKind.i64.wrap ((↑(nibSum m k):Int)+IntKind.i64.wrap ((15:Int)-((digP m k).set k (↑(nib m k):Int)).getD k (0:Int)))))] [(2,Row.mk 1 true true (intsA (List.replicate (18:Nat) (0:Int)))),(3,Row.mk 1 true false (intsA ((digP m k).set k (↑(nib m k):Int))))]) (by kernel_rfl) (as_eq (f_cons rfl (f_cons rfl (f_cons rfl (f_cons rfl (f_cons (congrArg (fun n=>AV.val (.int .i64 n)) e4) rfl))))) (h_cons rfl (h_cons (congrArg intsA e2) rfl))))
 ·have e:k=16:=by omega
  subst e
  have e1:IntKind.i64.wrap (((nibSum m 16:Nat):Int).tdiv 16)=((nibSum m 16/16:Nat):Int):=by
   rw [Int.tdiv_eq_ediv_of_nonneg (by omega)];rw [i64_small (by omega) (by omega)];omega
  have e2:((nibSum m 16:Nat):Int)%16=((nibSum m 16%16:Nat):Int):=by omega
  have e3:=digP_end m
  refine zE 0 ?_
  refine then_e ?_
  refine round_e ?_
  refine inb_e ?_
  refine then_n ?_
  refine AWP.regsPX 3 [{hs:=[(1,{av:=some (ai (↑(nibSum m (16:Nat)/(16:Nat)):Int))}),(2,{k:=16}),(3,{av:=some (AV.arr (intsA ((digP m (16:Nat)).set (16:Nat) (↑(nibSum m (16:Nat)/(16:Nat)):Int))))})]},{hs:=[(1,{av:=some (ai ((↑(nibSum m (16:Nat)):Int)%(16:Int)))}),(2,{av:=some (ai (↑(nibSum m (16:Nat)%(16:Nat)):Int)),k:=17}),(3,{av:=some (AV.arr (intsA (((digP m (16:Nat)).set (16:Nat) (↑(nibSum m (16:Nat)/(16:Nat)):Int)).set (17:Nat) ((↑(nibSum m (16:Nat)):Int)%(16:Int)))))})]},{hs:=[(0,{av:=some (AV.arr (intsA (digs m)))}),(1,{av:=some (AV.arr (intsA (digs m))),k:=1})]}] [.keep [7,3,2,0,6,4] [2,3]] (by kernel_rfl) (C:=[ai (IntKind.i64.wrap ((↑(nibSum m (16:Nat)):Int).tdiv (16:Int)))=ai (↑(nibSum m (16:Nat)/(16:Nat)):Int),(16:Int)≠(0:Int),(16:Int)=(↑(16:Nat):Int),(16:Nat)<(18:Nat),(intsA (digP m (16:Nat))).set (16:Nat) (ai (↑(nibSum m (16:Nat)/(16:Nat)):Int))=intsA ((digP m (16:Nat)).set (16:Nat) (↑(nibSum m (16:Nat)/(16:Nat)):Int)),(17:Nat)≤(intsA (digP m (16:Nat))).length,ai ((↑(nibSum m (16:Nat)):Int).tmod (16:Int))=ai ((↑(nibSum m (16:Nat)):Int)%(16:Int)),(16:Int)≠(0:Int),(17:Int)=(↑(17:Nat):Int),(17:Nat)<(18:Nat),(intsA ((digP m (16:Nat)).set (16:Nat) (↑(nibSum m (16:Nat)/(16:Nat)):Int))).set (17:Nat) (ai ((↑(nibSum m (16:Nat)):Int)%(16:Int)))=intsA (((digP m (16:Nat)).set (16:Nat) (↑(nibSum m (16:Nat)/(16:Nat)):Int)).set (17:Nat) ((↑(nibSum m (16:Nat)):Int)%(16:Int))),(18:Nat)≤(intsA ((digP m (16:Nat)).set (16:Nat) (↑(nibSum m (16:Nat)/(16:Nat)):Int))).length,List.take 18 (List.drop 0 (intsA (((digP m (16:Nat)).set (16:Nat) (↑(nibSum m (16:Nat)/(16:Nat)):Int)).set (17:Nat) ((↑(nibSum m (16:Nat)):Int)%(16:Int)))))=intsA (digs m),(intsA (digs m)).length=(18:Nat),List.take 0 (intsA (List.replicate (18:Nat) (0:Int)))++intsA (digs m)++List.drop ((0:Nat)+(intsA (digs m)).length) (intsA (List.replicate (18:Nat) (0:Int)))=intsA (digs m),(intsA (digs m)).length=(18:Nat),∀(x:AV),x∈intsA (digs m)->plain0 x=true,(0:Nat)+(intsA (digs m)).length≤(intsA (List.replicate (18:Nat) (0:Int))).length]) (by kernel_rfl) ⟨(avi_div (by omega) (by omega) (by omega)),(by omega),rfl,(by omega),(intsA_set _ _ _),(by simp only [intsA_len,digP_len];omega),(avi_mod (by omega)),(by omega),rfl,(by omega),(intsA_set _ _ _),(by simp only [intsA_len,List.length_set,digP_len];omega),rfl,rfl,(whole_set (by simp only [intsA_len,List.length_replicate,digs_len])),rfl,(plainR_ints _),(by simp only [intsA_len,List.length_replicate,digs_len];omega),trivial⟩ ?_
  refine zR ?_
  refine zV [yR (18:Nat),yR (intsA (digs m))]
theorem run_ret (leaf chain src dst:Int) (x:UInt64):Ret Tryz.prog 140 [ai leaf,ai chain,ai src,ai dst,aw x] (aw (run leaf chain src dst x)):=by
 unfold run
 have hp:(if 0>src then 0 else src)=max src 0:=by split<;>omega
 have he:(if 15<dst then 15 else dst)=min dst 15:=by split<;>omega
 generalize hpp:max src 0=p at *
 generalize hee:min dst 15=e at *
 refine zO Tryz.func140 33 ?_
 refine zP 2 [{},yH [(1,yV (ai e))]] [.keep [11,10,0,1,2,3,4] []] [yB (ai (if (15:Int)<dst then (15:Int) else dst)=ai e) (congrArg (fun n=>AV.val (.int .i64 n)) he)] ?_
 refine zS ?_
 refine zP 1 [yH [(1,yV (ai p))]] [.keep [12,11,10,0,1,2,3,4] []] [yB (ai (if (0:Int)>src then (0:Int) else src)=ai p) (congrArg (fun n=>AV.val (.int .i64 n)) hp)] ?_
 refine zB 0 ?_
 refine zL (fun (k:Nat)=>(⟨[(11,ai e),(10,AV.val (Value.int .u64 0)),(0,ai leaf),(1,ai chain),(2,ai src),(3,ai dst),(12,ai (p+k)),(4,aw (runC leaf chain p x k))],[]⟩:AS)) (fun k=>(k≤(e-p).toNat)) (fun k=>((e-p).toNat-k)) (0) ?_ (Weaks.of [.keep [11,10,0,1,2,3,12,4] []] (s1:=AS.mk [(11,ai e),(10,AV.val (Value.int .u64 0)),(0,ai leaf),(1,ai chain),(2,ai src),(3,ai dst),(12,ai p),(4,aw x)] []) (by kernel_rfl) (as_eq (f_cons rfl (f_cons rfl (f_cons rfl (f_cons rfl (f_cons rfl (f_cons rfl (f_cons (congrArg (fun n=>AV.val (.int .i64 n)) (by omega)) (f_cons rfl rfl)))))))) rfl)) ?_
 ·omega
 intro k hk
 refine zS ?_
 refine zP 1 [{}] [.keep [19,11,10,0,1,2,3,12,4] []] [] ?_
 refine zD 19 (p+(↑k:Int)<e) (fun h=>?_) (fun h=>?_)
 ·have hw:(words [u64 leaf,u64 chain,u64 (p+k),runC leaf chain p x k]).length=32:=by rw [words_len];rfl
  refine zK ?_
  refine then_n ?_
  refine zS ?_
  refine zB 1 ?_
  refine zX (yH [(1,yV (aw (u64 leaf))),(3,yV (aw (u64 chain))),(5,yV (aw (u64 (p+(↑k:Int))))),(7,yV (AV.arr (wordsA [u64 leaf,u64 chain,u64 (p+(↑k:Int)),runC leaf chain p x k]))),(8,yV (AV.own 1 (bytesA (words [u64 leaf,u64 chain,u64 (p+(↑k:Int)),runC leaf chain p x k])))),(9,yV (aw (hash (1:Int) (words [u64 leaf,u64 chain,u64 (p+(↑k:Int)),runC leaf chain p x k]))))]) [yI (avw_conv leaf),yI (avw_conv chain),yI (avw_conv (p+(↑k:Int))),yR (wordsA [u64 leaf,u64 chain,u64 (p+(↑k:Int)),runC leaf chain p x k]),yI (words_ret [u64 leaf,u64 chain,u64 (p+(↑k:Int)),runC leaf chain p x k] (by simp only [List.length_cons,List.length_nil];omega)),yI (valR_bytes (words [u64 leaf,u64 chain,u64 (p+(↑k:Int)),runC leaf chain p x k])),yI (hash_ret ((1:Int)) (words [u64 leaf,u64 chain,u64 (p+(↑k:Int)),runC leaf chain p x k]))] ?_
  refine inb_n ?_
  refine then_n ?_
  refine zX (yH [(1,yV (ai (p+(↑k:Int)+1)))]) [yN (p+(↑k:Int)+1)] ?_
  refine round_n (k+1) (by omega) (by omega) (Weaks.of [.keep [11,10,0,1,2,3,12,4] []] (s1:=AS.mk [(11,ai e),(10,AV.val (Value.int .u64 0)),(0,ai leaf),(1,ai chain),(2,ai src),(3,ai dst),(12,ai (p+(↑k:Int)+1)),(4,aw (hash (1:Int) (words [u64 leaf,u64 chain,u64 (p+(↑k:Int)),runC leaf chain p x k])))] []) (by kernel_rfl) (as_eq (f_cons rfl (f_cons rfl (f_cons rfl (f_cons rfl (f_cons rfl (f_cons rfl (f_cons (congrArg (fun n=>AV.val (.int .i64 n)) (by omega)) (f_cons rfl rfl)))))))) rfl))
 ·have e1:k=(e-p).toNat:=by omega
  subst e1
  refine zE 0 ?_
  refine then_e ?_
  refine round_e ?_
  refine inb_e ?_
  refine then_n ?_
  refine zP 1 [{}] [.keep [10,19,11,0,1,2,3,12,4] []] [] ?_
  refine zR ?_
  refine zV [yR (Value.int .u64 (wv (runC leaf chain p x (e-p).toNat)))]
theorem refrun_ret (leaf chain src dst:Int) (x:UInt64):Ret Tryz.prog 147 [ai leaf,ai chain,ai src,ai dst,aw x] (aw (run leaf chain src dst x)):=by
 unfold run
 have hp:(if 0>src then 0 else src)=max src 0:=by split<;>omega
 have he:(if 15<dst then 15 else dst)=min dst 15:=by split<;>omega
 generalize hpp:max src 0=p at *
 generalize hee:min dst 15=e at *
 refine zO Tryz.func147 31 ?_
 refine zQ 1 [{}] [] ?_
 refine zS ?_
 refine zP 1 [yH [(1,yV (ai p))]] [.keep [11,10,0,1,2,3,4] []] [yB (ai (if (0:Int)>src then (0:Int) else src)=ai p) (congrArg (fun n=>AV.val (.int .i64 n)) hp)] ?_
 refine zB 0 ?_
 refine zL (fun (k:Nat)=>(⟨[(10,AV.val (Value.int .u64 0)),(0,ai leaf),(1,ai chain),(2,ai src),(3,ai dst),(11,ai (p+k)),(4,aw (runC leaf chain p x k))],[]⟩:AS)) (fun k=>(k≤(e-p).toNat)) (fun k=>((e-p).toNat-k)) (0) ?_ (Weaks.of [.keep [10,0,1,2,3,11,4] []] (s1:=AS.mk [(10,AV.val (Value.int .u64 0)),(0,ai leaf),(1,ai chain),(2,ai src),(3,ai dst),(11,ai p),(4,aw x)] []) (by kernel_rfl) (as_eq (f_cons rfl (f_cons rfl (f_cons rfl (f_cons rfl (f_cons rfl (f_cons (congrArg (fun n=>AV.val (.int .i64 n)) (by omega)) (f_cons rfl rfl))))))) rfl)) ?_
 ·omega
 intro k hk
 refine zS ?_
 refine zP 1 [yH [(2,yV (ai e))]] [.keep [17,10,0,1,2,3,11,4] []] [yB (ai (if (15:Int)<dst then (15:Int) else dst)=ai e) (congrArg (fun n=>AV.val (.int .i64 n)) he)] ?_
 refine zD 17 (p+(↑k:Int)<e) (fun h=>?_) (fun h=>?_)
 ·have hw:(words [u64 leaf,u64 chain,u64 (p+k),runC leaf chain p x k]).length=32:=by rw [words_len];rfl
  refine zK ?_
  refine then_n ?_
  refine zS ?_
  refine zB 1 ?_
  refine zX (yH [(1,yV (aw (u64 leaf))),(3,yV (aw (u64 chain))),(5,yV (aw (u64 (p+(↑k:Int))))),(7,yV (AV.arr (wordsA [u64 leaf,u64 chain,u64 (p+(↑k:Int)),runC leaf chain p x k]))),(8,yV (AV.own 1 (bytesA (words [u64 leaf,u64 chain,u64 (p+(↑k:Int)),runC leaf chain p x k])))),(9,yV (aw (hash (1:Int) (words [u64 leaf,u64 chain,u64 (p+(↑k:Int)),runC leaf chain p x k]))))]) [yI (avw_conv leaf),yI (avw_conv chain),yI (avw_conv (p+(↑k:Int))),yR (wordsA [u64 leaf,u64 chain,u64 (p+(↑k:Int)),runC leaf chain p x k]),yI (refwords_ret [u64 leaf,u64 chain,u64 (p+(↑k:Int)),runC leaf chain p x k] (by simp only [List.length_cons,List.length_nil];omega)),yI (valR_bytes (words [u64 leaf,u64 chain,u64 (p+(↑k:Int)),runC leaf chain p x k])),yI (refhash_ret ((1:Int)) (words [u64 leaf,u64 chain,u64 (p+(↑k:Int)),runC leaf chain p x k]) (by omega))] ?_
  refine inb_n ?_
  refine then_n ?_
  refine zX (yH [(1,yV (ai (p+(↑k:Int)+1)))]) [yN (p+(↑k:Int)+1)] ?_
  refine round_n (k+1) (by omega) (by omega) (Weaks.of [.keep [10,0,1,2,3,11,4] []] (s1:=AS.mk [(10,AV.val (Value.int .u64 0)),(0,ai leaf),(1,ai chain),(2,ai src),(3,ai dst),(11,ai (p+(↑k:Int)+1)),(4,aw (hash (1:Int) (words [u64 leaf,u64 chain,u64 (p+(↑k:Int)),runC leaf chain p x k])))] []) (by kernel_rfl) (as_eq (f_cons rfl (f_cons rfl (f_cons rfl (f_cons rfl (f_cons rfl (f_cons (congrArg (fun n=>AV.val (.int .i64 n)) (by omega)) (f_cons rfl rfl))))))) rfl))
 ·have e1:k=(e-p).toNat:=by omega
  subst e1
  refine zE 0 ?_
  refine then_e ?_
  refine round_e ?_
  refine inb_e ?_
  refine then_n ?_
  refine zP 1 [{}] [.keep [10,17,0,1,2,3,11,4] []] [] ?_
  refine zR ?_
  refine zV [yR (Value.int .u64 (wv (runC leaf chain p x (e-p).toNat)))]
theorem secret_ret (seed:UInt64) (leaf c:Int):Ret Tryz.prog 141 [aw seed,ai leaf,ai c] (aw (secret seed leaf c)):=by
 refine zO Tryz.func141 15 ?_
 refine zP 2 [{},yH [(2,yV (aw (u64 leaf))),(4,yV (aw (u64 c))),(5,yV (AV.arr (wordsA [u64 leaf,u64 c]))),(6,yV (AV.own 1 (bytesA (words [u64 leaf,u64 c])))),(7,yV (aw (mac seed (1:Int) (words [u64 leaf,u64 c]))))]] [.keep [6,0,1,2] []] [yI (avw_conv leaf),yI (avw_conv c),yR (wordsA [u64 leaf,u64 c]),yI (words_ret [u64 leaf,u64 c] (by simp only [List.length_cons,List.length_nil];omega)),yI (valR_bytes (words [u64 leaf,u64 c])),yI (mac_ret seed ((1:Int)) (words [u64 leaf,u64 c]))] ?_
 refine zR ?_
 refine zV [yR (Value.int .u64 (wv (secret seed leaf c)))]
theorem refsecret_ret (seed:UInt64) (leaf c:Int):Ret Tryz.prog 148 [aw seed,ai leaf,ai c] (aw (secret seed leaf c)):=by
 have hw:(words [u64 leaf,u64 c]).length=16:=by rw [words_len];rfl
 refine zO Tryz.func148 15 ?_
 refine zP 2 [{},yH [(2,yV (aw (u64 leaf))),(4,yV (aw (u64 c))),(5,yV (AV.arr (wordsA [u64 leaf,u64 c]))),(6,yV (AV.own 1 (bytesA (words [u64 leaf,u64 c])))),(7,yV (aw (mac seed (1:Int) (words [u64 leaf,u64 c]))))]] [.keep [6,0,1,2] []] [yI (avw_conv leaf),yI (avw_conv c),yR (wordsA [u64 leaf,u64 c]),yI (refwords_ret [u64 leaf,u64 c] (by simp only [List.length_cons,List.length_nil];omega)),yI (valR_bytes (words [u64 leaf,u64 c])),yI (refmac_ret seed ((1:Int)) (words [u64 leaf,u64 c]) (by omega))] ?_
 refine zR ?_
 refine zV [yR (Value.int .u64 (wv (secret seed leaf c)))]
theorem copy_ends (c:UInt64) (l:List UInt64) (hl:l.length=18):setCells (wordsA ((List.replicate 19 0).set 0 c)) 1 ((wordsA l).take (mul1 18 1))=wordsA (c::l):=by
 have h1:(wordsA l).take (mul1 18 1)=wordsA l:=List.take_of_length_le (by rw [mul1_eq,wordsA_len];omega)
 rw [h1,setCells_eq _ _ _ (by rw [wordsA_len,wordsA_len,List.length_set,List.length_replicate];omega),wordsA_len,hl]
 simp [wordsA,List.replicate_succ]
theorem combine_ret (leaf:Int) (l:List UInt64) (hl:l.length=18):Ret Tryz.prog 168 [ai leaf,.arr (wordsA l)] (aw (combine leaf l)):=by
 have hc:(u64 leaf::l).length=19:=by simp [hl]
 have h0:(wordsA l).length=18:=by rw [wordsA_len,hl]
 refine zO Tryz.func168 15 ?_
 refine zP 5 [{},yH [(0,yV (AV.arr (wordsA (List.replicate (19:Nat) 0))))],yH [(1,yV (aw (u64 leaf))),(2,{k:=0}),(3,yV (AV.arr (wordsA ((List.replicate (19:Nat) 0).set (0:Nat) (u64 leaf)))))],{hs:=[(0,{k:=1}),(2,{av:=some (AV.arr (wordsA (u64 leaf::l))),k:=18,b:=false})],T:=2},yH [(1,yV (AV.own 1 (bytesA (words (u64 leaf::l))))),(2,yV (aw (hash (2:Int) (words (u64 leaf::l)))))]] [.keep [4,5,3,0,1] [5,3]] [yR (wordsA (List.replicate (19:Nat) 0)),yI (avw_conv leaf),yR (0:Int),yO ((0:Nat)<(19:Nat)),yB ((wordsA (List.replicate (19:Nat) 0)).set (0:Nat) (aw (u64 leaf))=wordsA ((List.replicate (19:Nat) 0).set (0:Nat) (u64 leaf))) (wordsA_set _ _ _),yB ((1:Nat)≤(wordsA (List.replicate (19:Nat) 0)).length) (by decide),yR (1:Int),yL 1 19,yR (19:Nat),yB ((19:Nat)≤maxLen) (by decide),yB ((wordsA l).length=(18:Nat)) (by assumption),yB ((18:Nat)≤maxLen) (by decide),yB ((match List.take 18 (wordsA l) with| [x]=>(wordsA ((List.replicate (19:Nat) 0).set (0:Nat) (u64 leaf))).set (1:Nat) x|l=>List.take 1 (wordsA ((List.replicate (19:Nat) 0).set (0:Nat) (u64 leaf)))++l++List.drop ((1:Nat)+l.length) (wordsA ((List.replicate (19:Nat) 0).set (0:Nat) (u64 leaf))))=wordsA (u64 leaf::l)) (copy_ends _ l hl),yB (plainR (wordsA l)) (plainR_words _),yO (min (wordsA l).length ((19:Nat)-(1:Nat))=(18:Nat)),yO ((0:Nat)<(19:Nat)-(1:Nat)),yB ((wordsA (u64 leaf::l)).length=(19:Nat)) (by simp only [wordsA_len];omega),yB ((19:Nat)≤maxLen) (by decide),yI (words_ret (u64 leaf::l) (by omega)),yI (valR_bytes (words (u64 leaf::l))),yI (hash_ret ((2:Int)) (words (u64 leaf::l)))] ?_
 refine zR ?_
 refine zV [yR (Value.int .u64 (wv (combine leaf l)))]
theorem public1_ret (seed:UInt64) (leaf:Int):Ret Tryz.prog 143 [aw seed,ai leaf] (aw (combine leaf (pubEnds seed leaf 18))):=by
 have hl:=pubEnds_len seed leaf 18
 refine zO Tryz.func143 23 ?_
 refine zQ 2 [{},yH [(0,yV (AV.arr (wordsA (List.replicate (18:Nat) 0))))]] [yR (wordsA (List.replicate (18:Nat) 0))] ?_
 refine zS ?_
 refine zQ 1 [{}] [] ?_
 refine zB 0 ?_
 refine zL (fun (k:Nat)=>(⟨[(5,AV.addr 5 0),(4,AV.val (Value.int .u64 0)),(0,aw seed),(1,ai leaf),(7,ai k)],[(5,⟨1,true,false,wordsA (fillZ 18 (pubEnds seed leaf 18) k)⟩)]⟩:AS)) (fun k=>(k≤18)) (fun k=>(18-k)) (0) ?_ (zW [.loose 5,.keep [5,4,0,1,7] [5]]) ?_
 ·omega
 intro k hk
 have hf:=fillZ_len hl hk
 refine zQ 1 [{}] [] ?_
 refine zS ?_
 refine zD 8 ((↑k:Int)<18) (fun h=>?_) (fun h=>?_)
 ·have e1:=fillZ_set hl (show k<18 by omega)
  have e2:=pubEnds_at seed leaf k (by omega)
  refine zK ?_
  refine then_n ?_
  refine zS ?_
  refine zB 1 ?_
  refine zQ 1 [{}] [] ?_
  refine zX (yH [(6,yV (aw (secret seed leaf (↑k:Int)))),(7,yV (aw (run leaf (↑k:Int) (0:Int) (15:Int) (secret seed leaf (↑k:Int))))),(8,{k:=k}),(9,yV (AV.arr (wordsA ((fillZ (18:Nat) (pubEnds seed leaf (18:Nat)) k).set k (run leaf (↑k:Int) (0:Int) (15:Int) (secret seed leaf (↑k:Int)))))))]) [yI (secret_ret seed leaf ((↑k:Int))),yI (run_ret leaf ((↑k:Int)) ((0:Int)) ((15:Int)) (secret seed leaf (↑k:Int))),yR (↑k:Int),yO (k<(18:Nat)),yB ((wordsA (fillZ (18:Nat) (pubEnds seed leaf (18:Nat)) k)).set k (aw (run leaf (↑k:Int) (0:Int) (15:Int) (secret seed leaf (↑k:Int))))=wordsA ((fillZ (18:Nat) (pubEnds seed leaf (18:Nat)) k).set k (run leaf (↑k:Int) (0:Int) (15:Int) (secret seed leaf (↑k:Int))))) (wordsA_set _ _ _),yB (k+(1:Nat)≤(wordsA (fillZ (18:Nat) (pubEnds seed leaf (18:Nat)) k)).length) (by simp only [wordsA_len];omega)] ?_
  refine inb_n ?_
  refine then_n ?_
  refine zX (yH [(0,yV (ai ((↑k:Int)+1)))]) [yN ((↑k:Int)+1)] ?_
  refine round_n (k+1) (by omega) (by omega) (Weaks.of [.keep [5,4,0,1,7] [5]] (s1:=AS.mk [(5,AV.addr 5 0),(4,AV.val (Value.int .u64 0)),(0,aw seed),(1,ai leaf),(7,ai ((↑k:Int)+1))] [(5,Row.mk 1 true false (wordsA ((fillZ (18:Nat) (pubEnds seed leaf (18:Nat)) k).set k (run leaf (↑k:Int) (0:Int) (15:Int) (secret seed leaf (↑k:Int))))))]) (by kernel_rfl) (as_eq (f_cons rfl (f_cons rfl (f_cons rfl (f_cons rfl (f_cons (congrArg (fun n=>AV.val (.int .i64 n)) (by omega)) rfl))))) (h_cons (congrArg wordsA (by rw [←e2];exact e1)) rfl)))
 ·have e:k=18:=by omega
  subst e
  have e1:=fillZ_full hl
  refine zE 0 ?_
  refine then_e ?_
  refine round_e ?_
  refine inb_e ?_
  refine then_n ?_
  refine zP 1 [yH [(1,yV (AV.arr (wordsA (pubEnds seed leaf (18:Nat))))),(2,yV (aw (combine leaf (pubEnds seed leaf (18:Nat)))))]] [.keep [4,8,5,0,1,7] [5]] [yR (wordsA (pubEnds seed leaf (18:Nat))),yR (18:Nat),yI (combine_ret leaf (pubEnds seed leaf (18:Nat)) rfl)] ?_
  refine zR ?_
  refine zV [yR (Value.int .u64 (wv (combine leaf (pubEnds seed leaf (18:Nat)))))]
theorem sign1_ret (seed:UInt64) (leaf:Int) (m:UInt64):Ret Tryz.prog 96 [aw seed,ai leaf,aw m] (.own 1 (wordsA (signL seed leaf m 18))):=by
 have hl:=signL_len seed leaf m 18
 have hd:=digs_len m
 refine zO Tryz.func96 28 ?_
 refine zQ 2 [{},yH [(0,yV (AV.arr (wordsA (List.replicate (18:Nat) 0))))]] [yR (wordsA (List.replicate (18:Nat) 0))] ?_
 refine zS ?_
 refine zQ 1 [yH [(1,{av:=some (AV.arr (intsA (digs m))),b:=false})]] [yI (digits_ret m)] ?_
 refine zB 0 ?_
 refine zL (fun (k:Nat)=>(⟨[(11,AV.arr (intsA (digs m))),(7,AV.addr 7 0),(6,AV.nil),(0,aw seed),(1,ai leaf),(2,aw m),(12,ai k)],[(7,⟨1,true,true,wordsA (fillZ 18 (signL seed leaf m 18) k)⟩)]⟩:AS)) (fun k=>(k≤18)) (fun k=>(18-k)) (0) ?_ (zW [.keep [11,7,6,0,1,2,12] [7]]) ?_
 ·omega
 intro k hk
 have hf:=fillZ_len hl hk
 refine zQ 1 [{}] [] ?_
 refine zS ?_
 refine zD 13 ((↑k:Int)<18) (fun h=>?_) (fun h=>?_)
 ·have e1:=fillZ_set hl (show k<18 by omega)
  have e2:=signL_at seed leaf m k (by omega)
  refine zK ?_
  refine then_n ?_
  refine zS ?_
  refine zB 1 ?_
  refine zP 1 [yH [(1,{av:=some (ai ((digs m).getD k (0:Int))),k:=k})]] [.keep [9,8,13,11,7,6,0,1,2,12] [7]] [yR (↑k:Int),yO (k<(18:Nat)),yB ((intsA (digs m))[k]?=some (ai ((digs m).getD k (0:Int)))) (intsA_at (by omega))] ?_
  refine zX (yH [(7,yV (aw (secret seed leaf (↑k:Int)))),(8,yV (aw (run leaf (↑k:Int) (0:Int) ((digs m).getD k (0:Int)) (secret seed leaf (↑k:Int))))),(9,{k:=k}),(10,yV (AV.arr (wordsA ((fillZ (18:Nat) (signL seed leaf m (18:Nat)) k).set k (run leaf (↑k:Int) (0:Int) ((digs m).getD k (0:Int)) (secret seed leaf (↑k:Int)))))))]) [yI (secret_ret seed leaf ((↑k:Int))),yI (run_ret leaf ((↑k:Int)) ((0:Int)) ((digs m).getD k (0:Int)) (secret seed leaf (↑k:Int))),yR (↑k:Int),yO (k<(18:Nat)),yB ((wordsA (fillZ (18:Nat) (signL seed leaf m (18:Nat)) k)).set k (aw (run leaf (↑k:Int) (0:Int) ((digs m).getD k (0:Int)) (secret seed leaf (↑k:Int))))=wordsA ((fillZ (18:Nat) (signL seed leaf m (18:Nat)) k).set k (run leaf (↑k:Int) (0:Int) ((digs m).getD k (0:Int)) (secret seed leaf (↑k:Int))))) (wordsA_set _ _ _),yB (k+(1:Nat)≤(wordsA (fillZ (18:Nat) (signL seed leaf m (18:Nat)) k)).length) (by simp only [wordsA_len];omega)] ?_
  refine inb_n ?_
  refine then_n ?_
  refine zX (yH [(0,yV (ai ((↑k:Int)+1)))]) [yN ((↑k:Int)+1)] ?_
  refine round_n (k+1) (by omega) (by omega) (Weaks.of [.keep [11,7,6,0,1,2,12] [7]] (s1:=AS.mk [(11,AV.arr (intsA (digs m))),(7,AV.addr 7 0),(6,AV.nil),(0,aw seed),(1,ai leaf),(2,aw m),(12,ai ((↑k:Int)+1))] [(7,Row.mk 1 true true (wordsA ((fillZ (18:Nat) (signL seed leaf m (18:Nat)) k).set k (run leaf (↑k:Int) (0:Int) ((digs m).getD k (0:Int)) (secret seed leaf (↑k:Int))))))]) (by kernel_rfl) (as_eq (f_cons rfl (f_cons rfl (f_cons rfl (f_cons rfl (f_cons rfl (f_cons rfl (f_cons (congrArg (fun n=>AV.val (.int .i64 n)) (by omega)) rfl))))))) (h_cons (congrArg wordsA (by rw [←e2];exact e1)) rfl)))
 ·have e:k=18:=by omega
  subst e
  have e1:=fillZ_full hl
  refine zE 0 ?_
  refine then_e ?_
  refine round_e ?_
  refine inb_e ?_
  refine then_n ?_
  refine zQ 1 [{}] [yR (18:Nat),yB ((18:Nat)≤maxLen) (by decide)] ?_
  refine zR ?_
  refine zV [yB (wordsA (fillZ (18:Nat) (signL seed leaf m (18:Nat)) (18:Nat))=wordsA (signL seed leaf m (18:Nat))) (by rw [e1])]
def recW (leaf:Int) (m:UInt64) (s:List UInt64):UInt64:=if s.length=18 then combine leaf (recL leaf m s 18) else 0
def recE (s:List UInt64):Int:=if s.length=18 then 0 else 4
theorem recover_ret (leaf:Int) (m:UInt64) (s:List UInt64):Ret Tryz.prog 150 [ai leaf,aw m,.sl 1 (wordsA s)] (.tup [aw (recW leaf m s),ai (recE s)]):=by
 by_cases hs:s.length=18
 case neg =>
  have e1:recW leaf m s=0:=if_neg hs
  have e2:recE s=4:=if_neg hs
  refine zO Tryz.func150 34 ?_
  refine zQ 1 [{}] [] ?_
  refine zS ?_
  refine zP 1 [yH [(1,{k:=s.length})]] [.keep [13,7,6,0,1,2] []] [yB ((wordsA s).length=s.length) (wordsA_len _)] ?_
  refine zTb 13 ((↑s.length:Int) != (18:Int)) (by simp;omega) ?_
  refine zQ 1 [{}] [] ?_
  refine zR ?_
  refine then_r ?_
  refine zV [yK 0 (wv (recW leaf m s)) (by rw [e1];rfl),yJ 4 (recE s) (by rw [e2])]
 have e1:recW leaf m s=combine leaf (recL leaf m s 18):=if_pos hs
 have e2:recE s=0:=if_pos hs
 have hl:=recL_len leaf m s 18
 have hd:=digs_len m
 refine zO Tryz.func150 34 ?_
 refine zQ 1 [{}] [] ?_
 refine zS ?_
 refine zP 1 [yH [(1,{k:=s.length})]] [.keep [13,7,6,0,1,2] []] [yB ((wordsA s).length=s.length) (wordsA_len _)] ?_
 refine zFb 13 ((↑s.length:Int) != (18:Int)) (by simp_all) ?_
 refine zK ?_
 refine then_n ?_
 refine zQ 1 [yH [(0,yV (AV.arr (wordsA (List.replicate (18:Nat) 0))))]] [yR (wordsA (List.replicate (18:Nat) 0))] ?_
 refine zS ?_
 refine zQ 1 [yH [(1,{av:=some (AV.arr (intsA (digs m))),b:=false})]] [yI (digits_ret m)] ?_
 refine zB 0 ?_
 refine zL (fun (k:Nat)=>(⟨[(15,AV.arr (intsA (digs m))),(8,AV.addr 8 0),(13,ao ((↑s.length:Int) != (18:Int))),(7,ai 0),(6,AV.val (Value.int .u64 0)),(0,ai leaf),(1,aw m),(2,AV.sl 1 (wordsA s)),(16,ai k)],[(8,⟨1,true,false,wordsA (fillZ 18 (recL leaf m s 18) k)⟩)]⟩:AS)) (fun k=>(k≤18)) (fun k=>(18-k)) (0) ?_ (zW [.loose 8,.keep [15,8,13,7,6,0,1,2,16] [8]]) ?_
 ·omega
 intro k hk
 have hf:=fillZ_len hl hk
 refine zQ 1 [{}] [] ?_
 refine zS ?_
 refine zD 17 ((↑k:Int)<18) (fun h=>?_) (fun h=>?_)
 ·have e3:=fillZ_set hl (show k<18 by omega)
  have e4:=recL_at leaf m s k (by omega)
  refine zK ?_
  refine then_n ?_
  refine zS ?_
  refine zB 1 ?_
  refine zP 1 [yH [(1,{av:=some (ai ((digs m).getD k (0:Int))),k:=k})]] [.keep [10,9,17,15,8,13,7,6,0,1,2,16] [8]] [yR (↑k:Int),yO (k<(18:Nat)),yB ((intsA (digs m))[k]?=some (ai ((digs m).getD k (0:Int)))) (intsA_at (by omega))] ?_
  refine zX (yH [(6,{k:=k}),(7,yV (aw (s.getD k 0))),(8,yV (aw (run leaf (↑k:Int) ((digs m).getD k (0:Int)) (15:Int) (s.getD k 0)))),(9,{k:=k}),(10,yV (AV.arr (wordsA ((fillZ (18:Nat) (recL leaf m s (18:Nat)) k).set k (run leaf (↑k:Int) ((digs m).getD k (0:Int)) (15:Int) (s.getD k 0))))))]) [yR (↑k:Int),yB (k<(wordsA s).length) (by simp only [wordsA_len];omega),yB ((wordsA s)[k]?=some (aw (s.getD k 0))) (wordsA_at (by omega)),yI (run_ret leaf ((↑k:Int)) ((digs m).getD k (0:Int)) ((15:Int)) (s.getD k 0)),yR (↑k:Int),yO (k<(18:Nat)),yB ((wordsA (fillZ (18:Nat) (recL leaf m s (18:Nat)) k)).set k (aw (run leaf (↑k:Int) ((digs m).getD k (0:Int)) (15:Int) (s.getD k 0)))=wordsA ((fillZ (18:Nat) (recL leaf m s (18:Nat)) k).set k (run leaf (↑k:Int) ((digs m).getD k (0:Int)) (15:Int) (s.getD k 0)))) (wordsA_set _ _ _),yB (k+(1:Nat)≤(wordsA (fillZ (18:Nat) (recL leaf m s (18:Nat)) k)).length) (by simp only [wordsA_len];omega)] ?_
  refine inb_n ?_
  refine then_n ?_
  refine zX (yH [(0,yV (ai ((↑k:Int)+1)))]) [yN ((↑k:Int)+1)] ?_
  refine round_n (k+1) (by omega) (by omega) (Weaks.of [.keep [15,8,13,7,6,0,1,2,16] [8]] (s1:=AS.mk [(15,AV.arr (intsA (digs m))),(8,AV.addr 8 0),(13,ao ((↑s.length:Int) != (18:Int))),(7,ai 0),(6,AV.val (Value.int .u64 0)),(0,ai leaf),(1,aw m),(2,AV.sl 1 (wordsA s)),(16,ai ((↑k:Int)+1))] [(8,Row.mk 1 true false (wordsA ((fillZ (18:Nat) (recL leaf m s (18:Nat)) k).set k (run leaf (↑k:Int) ((digs m).getD k (0:Int)) (15:Int) (s.getD k 0)))))]) (by kernel_rfl) (as_eq (f_cons rfl (f_cons rfl (f_cons rfl (f_cons rfl (f_cons rfl (f_cons rfl (f_cons rfl (f_cons rfl (f_cons (congrArg (fun n=>AV.val (.int .i64 n)) (by omega)) rfl))))))))) (h_cons (congrArg wordsA (by rw [←e4];exact e3)) rfl)))
 ·have e:k=18:=by omega
  subst e
  have e3:=fillZ_full hl
  refine zE 0 ?_
  refine then_e ?_
  refine round_e ?_
  refine inb_e ?_
  refine then_n ?_
  refine zP 1 [yH [(1,yV (AV.arr (wordsA (recL leaf m s (18:Nat))))),(2,yV (aw (combine leaf (recL leaf m s (18:Nat)))))]] [.keep [7,6,17,15,8,13,0,1,2,16] [8]] [yR (wordsA (recL leaf m s (18:Nat))),yR (18:Nat),yI (combine_ret leaf (recL leaf m s (18:Nat)) rfl)] ?_
  refine zR ?_
  refine zV [yK (wv (combine leaf (recL leaf m s (18:Nat)))) (wv (recW leaf m s)) (by rw [e1]),yJ 0 (recE s) (by rw [e2])]
theorem refends_ret (leaf:Int) (l:List UInt64) (hl:l.length≤18):Ret Tryz.prog 156 [ai leaf,.sl 1 (wordsA l)] (aw (combine leaf l)):=by
 have h1:(words [u64 leaf]).length=8:=by rw [words_len];rfl
 have h2:(words l).length=8*l.length:=words_len l
 have e:words [u64 leaf]++words l=words (u64 leaf::l):=by rw [←words_app];rfl
 refine zO Tryz.func156 13 ?_
 refine zP 2 [{},yH [(1,yV (aw (u64 leaf))),(2,yV (AV.arr (wordsA [u64 leaf]))),(3,yV (AV.own 1 (bytesA (words [u64 leaf])))),(5,yV (AV.own 1 (bytesA (words l)))),(6,{av:=some (AV.arr (bytesA (words [u64 leaf]++words l))),b:=false}),(7,yV (aw (hash (2:Int) (words [u64 leaf]++words l))))]] [.keep [4,0,1] []] [yI (avw_conv leaf),yR [aw (u64 leaf)],yI (refwords_ret [u64 leaf] (by simp only [List.length_cons,List.length_nil];omega)),yI (valR_bytes (words [u64 leaf])),yI (refwords_ret l (by omega)),yI (valR_bytes (words l)),yB (bytesA (words [u64 leaf])++bytesA (words l)=bytesA (words [u64 leaf]++words l)) (bytesA_app _ _),yB (plainR (bytesA (words l))) (plainR_bytes _),yB (((bytesA (words [u64 leaf])).length+(bytesA (words l)).length)*(1:Nat)≤(140737488355328:Nat)) (by simp only [bytesA_len];omega),yI (refhash_ret ((2:Int)) (words [u64 leaf]++words l) (by simp only [List.length_append];omega))] ?_
 refine zR ?_
 refine zV [yR (Value.int .u64 (wv (combine leaf l)))]
theorem refleaf_ret (seed:UInt64) (leaf:Int):Ret Tryz.prog 149 [aw seed,ai leaf] (aw (combine leaf (pubEnds seed leaf 18))):=by
 refine zO Tryz.func149 24 ?_
 refine zQ 2 [{},{}] [] ?_
 refine zS ?_
 refine zQ 1 [{}] [] ?_
 refine zB 0 ?_
 refine zL (fun (k:Nat)=>(⟨[(4,AV.val (Value.int .u64 0)),(0,aw seed),(1,ai leaf),(6,ai k),(5,AV.ref 23)],[(23,⟨1,true,false,wordsA (pubEnds seed leaf k)⟩)]⟩:AS)) (fun k=>(k≤18)) (fun k=>(18-k)) (0) ?_ (zW [.nil 5 23 1,.keep [4,0,1,6,5] [23]]) ?_
 ·omega
 intro k hk
 have hl:=pubEnds_len seed leaf k
 refine zS ?_
 refine zQ 1 [{}] [] ?_
 refine zD 8 ((↑k:Int)<18) (fun h=>?_) (fun h=>?_)
 ·skip
  refine zK ?_
  refine then_n ?_
  refine zS ?_
  refine zB 1 ?_
  refine zX (yH [(6,yV (aw (secret seed leaf (↑k:Int)))),(7,yV (aw (run leaf (↑k:Int) (0:Int) (15:Int) (secret seed leaf (↑k:Int))))),(8,yV (AV.arr (wordsA [run leaf (↑k:Int) (0:Int) (15:Int) (secret seed leaf (↑k:Int))]))),(9,yV (AV.arr (wordsA (pubEnds seed leaf k++ [run leaf (↑k:Int) (0:Int) (15:Int) (secret seed leaf (↑k:Int))]))))]) [yI (refsecret_ret seed leaf ((↑k:Int))),yI (refrun_ret leaf ((↑k:Int)) ((0:Int)) ((15:Int)) (secret seed leaf (↑k:Int))),yR [aw (run leaf (↑k:Int) (0:Int) (15:Int) (secret seed leaf (↑k:Int)))],yB (wordsA (pubEnds seed leaf k)++wordsA [run leaf (↑k:Int) (0:Int) (15:Int) (secret seed leaf (↑k:Int))]=wordsA (pubEnds seed leaf k++ [run leaf (↑k:Int) (0:Int) (15:Int) (secret seed leaf (↑k:Int))])) (wordsA_app _ _),yB (((wordsA (pubEnds seed leaf k)).length+(wordsA [run leaf (↑k:Int) (0:Int) (15:Int) (secret seed leaf (↑k:Int))]).length)*(8:Nat)≤(140737488355328:Nat)) (by simp only [wordsA_len,List.length_cons,List.length_nil];omega)] ?_
  refine inb_n ?_
  refine then_n ?_
  refine zX (yH [(1,yV (ai ((↑k:Int)+1)))]) [yN ((↑k:Int)+1)] ?_
  refine round_n (k+1) (by omega) (by omega) (Weaks.of [.ren 20 23,.keep [4,0,1,6,5] [23]] (s1:=AS.mk [(4,AV.val (Value.int .u64 0)),(0,aw seed),(1,ai leaf),(6,ai ((↑k:Int)+1)),(5,AV.ref 23)] [(23,Row.mk 1 true false (wordsA (pubEnds seed leaf k++ [run leaf (↑k:Int) (0:Int) (15:Int) (secret seed leaf (↑k:Int))])))]) (by kernel_rfl) (as_eq (f_cons rfl (f_cons rfl (f_cons rfl (f_cons (congrArg (fun n=>AV.val (.int .i64 n)) (by omega)) (f_cons rfl rfl))))) (h_cons (congrArg wordsA (pubEnds_succ seed leaf k).symm) rfl)))
 ·have e:k=18:=by omega
  subst e
  refine zE 0 ?_
  refine then_e ?_
  refine round_e ?_
  refine inb_e ?_
  refine then_n ?_
  refine zP 1 [yH [(2,yV (aw (combine leaf (pubEnds seed leaf (18:Nat)))))]] [.keep [4,8,0,1,6,5] [23]] [yI (refends_ret leaf (pubEnds seed leaf (18:Nat)) (by assumption))] ?_
  refine zR ?_
  refine zV [yR (Value.int .u64 (wv (combine leaf (pubEnds seed leaf (18:Nat)))))]
theorem samewords_go (a b:List UInt64) (k:Nat) (hl:a.length=b.length) (h:a.take k=b.take k) (hk:k<a.length) (hn:a.getD k 0≠b.getD k 0):(a == b)=false:=by
 rw [beq_eq_false_iff_ne]
 intro e;subst e;exact hn rfl
theorem take_snoc_eq {a b:List UInt64} {k:Nat} (hl:a.length=b.length) (h:a.take k=b.take k) (hk:k<a.length) (hn:a.getD k 0=b.getD k 0):a.take (k+1)=b.take (k+1):=by
 rw [List.take_add_one,List.take_add_one,h]
 rw [List.getD_eq_getElem?_getD,List.getD_eq_getElem?_getD,List.getElem?_eq_getElem hk,List.getElem?_eq_getElem (by omega)] at hn
 rw [List.getElem?_eq_getElem hk,List.getElem?_eq_getElem (by omega)]
 simp only [Option.getD_some] at hn
 rw [hn]
theorem samewords_ret (a b:List UInt64):Ret Tryz.prog 94 [.sl 1 (wordsA a),.sl 1 (wordsA b)] (ao (a == b)):=by
 refine Ret.len 0 rfl fun hla=>?_
 rw [wordsA_len] at hla
 by_cases hl:a.length=b.length
 case neg =>
  have e:(a == b)=false:=by rw [beq_eq_false_iff_ne];intro e;exact hl (by rw [e])
  refine zO Tryz.func94 26 ?_
  refine zQ 1 [{}] [] ?_
  refine zS ?_
  refine zP 1 [yH [(1,{k:=a.length}),(3,{k:=b.length})]] [.keep [10,4,0,1] []] [yB ((wordsA a).length=a.length) (wordsA_len _),yB ((wordsA b).length=b.length) (wordsA_len _)] ?_
  refine zTb 10 ((↑a.length:Int) != (↑b.length:Int)) (by simp;omega) ?_
  refine zQ 1 [{}] [] ?_
  refine zR ?_
  refine then_r ?_
  refine zV [yB (Value.bool false=Value.bool (a == b)) (by rw [e])]
 refine zO Tryz.func94 26 ?_
 refine zQ 1 [{}] [] ?_
 refine zS ?_
 refine zP 1 [yH [(1,{k:=a.length}),(3,{k:=b.length})]] [.keep [10,4,0,1] []] [yB ((wordsA a).length=a.length) (wordsA_len _),yB ((wordsA b).length=b.length) (wordsA_len _)] ?_
 refine zFb 10 ((↑a.length:Int) != (↑b.length:Int)) (by simp_all) ?_
 refine zK ?_
 refine then_n ?_
 refine zS ?_
 refine zQ 1 [{}] [] ?_
 refine zB 0 ?_
 refine zL (fun (k:Nat)=>(⟨[(10,ao ((↑a.length:Int) != (↑b.length:Int))),(0,AV.sl 1 (wordsA a)),(1,AV.sl 1 (wordsA b)),(5,ai k)],[]⟩:AS)) (fun k=>(k≤a.length∧a.take k=b.take k)) (fun k=>(a.length-k)) (0) ?_ (zW [.keep [10,0,1,5] []]) ?_
 ·exact ⟨by omega,by simp⟩
 rintro k ⟨hk,he⟩
 refine zS ?_
 refine zP 1 [yH [(2,{k:=a.length})]] [.keep [14,10,0,1,5] []] [yB ((wordsA a).length=a.length) (wordsA_len _)] ?_
 refine zD 14 ((↑k:Int)<(↑a.length:Int)) (fun h=>?_) (fun h=>?_)
 ·skip
  refine zK ?_
  refine then_n ?_
  refine zS ?_
  refine zB 1 ?_
  refine zP 1 [{hs:=[(2,{k:=k}),(3,yV (aw (a.getD k 0))),(6,{k:=k}),(7,yV (aw (b.getD k 0))),(8,yV (ao (a.getD k 0 != b.getD k 0)))],T:=8}] [.keep [25,14,10,0,1,5] []] [yR (↑k:Int),yB (k<(wordsA a).length) (by simp only [wordsA_len];omega),yB ((wordsA a)[k]?=some (aw (a.getD k 0))) (wordsA_at (by omega)),yR (↑k:Int),yB (k<(wordsA b).length) (by simp only [wordsA_len];omega),yB ((wordsA b)[k]?=some (aw (b.getD k 0))) (wordsA_at (by omega)),yI (avw_ne (a.getD k 0) (b.getD k 0))] ?_
  refine zN 25 (a.getD k 0) (b.getD k 0) (fun h2=>?_) (fun h2=>?_)
  ·have e:=samewords_go a b k hl he (by omega) h2
   refine zQ 1 [{}] [] ?_
   refine zR ?_
   refine inb_r ?_
   refine then_r ?_
   refine round_r ?_
   refine inb_r ?_
   refine then_r ?_
   refine zV [yB (Value.bool false=Value.bool (a == b)) (by rw [e])]
  ·skip
   refine zK ?_
   refine inb_n ?_
   refine then_n ?_
   refine zX (yH [(1,yV (ai ((↑k:Int)+1)))]) [yN ((↑k:Int)+1)] ?_
   refine round_n (k+1) ⟨by omega,take_snoc_eq hl he (by omega) h2⟩ (by omega) (zW [.keep [10,0,1,5] []])
 ·have e:k=a.length:=by omega
  subst e
  have e:(a == b)=true:=by
   rw [beq_iff_eq];rw [List.take_of_length_le (Nat.le_refl _),List.take_of_length_le (by omega)] at he;exact he
  refine zE 0 ?_
  refine then_e ?_
  refine round_e ?_
  refine inb_e ?_
  refine then_n ?_
  refine zQ 1 [{}] [] ?_
  refine zR ?_
  refine zV [yB (Value.bool true=Value.bool (a == b)) (by rw [e])]
end Go.Proofs.YtjgbhhnghedgdaaGreatDoor
