import Derived.Test.YtjgbhhnghedgdaaGreatDoorZsV8
import Derived.Test.YtjgbhhnghedgdaaGreatDoorZsTk6
set_option linter.all false
namespace Go.Proofs.YtjgbhhnghedgdaaGreatDoor
open Go.RowKit
set_option maxRecDepth 100000
set_option maxHeartbeats 4000000
set_option linter.unusedVariables false
def climb (leaf:Nat) (P:List UInt64) (x:UInt64):Nat->UInt64
 | 0=>x
 | k+1=>if leaf/2^k%2=0 then parW ((k+1:Nat):Int) (climb leaf P x k) (P.getD k 0) else parW ((k+1:Nat):Int) (P.getD k 0) (climb leaf P x k)
def verE (h:Int) (r m:UInt64) (leaf:Int) (C P:List UInt64):Int :=
 if badL h leaf then 9 else if C.length≠18∨(P.length:Int)≠h then 4 else if climb leaf.toNat P (combine leaf (recL leaf m C 18)) h.toNat=r then 0 else 15
theorem and_one (q:Nat) (hq:q<16):IntKind.i64.wrap ((BitVec.ofInt IntKind.i64.bits (q:Int)&&&BitVec.ofInt IntKind.i64.bits 1).toNat:Nat)=((q%2:Nat):Int):=by
 have key:∀q:Fin 16,IntKind.i64.wrap ((BitVec.ofInt IntKind.i64.bits ((q.val:Nat):Int)&&&BitVec.ofInt IntKind.i64.bits 1).toNat:Nat)=((q.val%2:Nat):Int):=by decide +kernel
 exact key ⟨q,hq⟩
theorem verify_ret (h:Int) (r m:UInt64) (leaf:Int) (C P:List UInt64):Ret Tryz.prog 104 [.agg [ai h,aw r],aw m,.agg [ai leaf,.sl 1 (wordsA C),.sl 1 (wordsA P)]] (ai (verE h r m leaf C P)):=by
 by_cases hbad:badL h leaf
 ·have e1:verE h r m leaf C P=9:=if_pos hbad
  rw [e1]
  unfold badL at hbad
  by_cases hb:badH h
  ·refine zO Tryz.func104 74 ?_
   refine zQ 1 [{}] [] ?_
   refine zS ?_
   refine zP 1 [yH [(2,yV (ao (decide (badH h))))]] [.keep [20,6,5,3,0,1,2] [5,3]] [yI (high_ret h),yT (badH h),yT (badH h),yT (badH h),yT (badH h),yT (badH h),yT (badH h)] ?_
   refine zT 20 ?_
   refine zQ 1 [{}] [] ?_
   refine zR ?_
   refine then_r ?_
   refine zV [yR (Value.int .i64 9)]
  have hb2:0≤h∧h≤4:=by unfold badH at hb;omega
  obtain ⟨k,rfl⟩:=Int.eq_ofNat_of_zero_le hb2.1
  rw [Int.toNat_natCast] at hbad
  have ho:leaf<0∨((2^k:Nat):Int)≤leaf:=hbad.resolve_left hb
  have hk:k≤4:=by omega
  refine zO Tryz.func104 74 ?_
  refine zQ 1 [{}] [] ?_
  refine zS ?_
  refine zP 1 [yH [(2,yV (ao (decide (badH (↑k:Int))))),(4,{g:=false}),(5,{g:=false}),(6,{g:=false}),(7,{g:=false}),(8,{av:=some (ao (decide (leaf<0∨(↑((2:Nat)^k):Int)≤leaf))),g:=false}),(9,{b:=false})]] [.keep [20,6,5,3,0,1,2] [5,3]] [yI (high_ret ((↑k:Int))),yF (badH (↑k:Int)),yF (badH (↑k:Int)),yF (badH (↑k:Int)),yF (badH (↑k:Int)),yF (badH (↑k:Int)),yI (outside_ret leaf k (by assumption)),yF (badH (↑k:Int))] ?_
  refine zTd 20 (leaf<0∨(↑((2:Nat)^k):Int)≤leaf) ?_
  refine zQ 1 [{}] [] ?_
  refine zR ?_
  refine then_r ?_
  refine zV [yR (Value.int .i64 9)]
 have hv:verE h r m leaf C P=if C.length≠18∨(P.length:Int)≠h then 4 else if climb leaf.toNat P (combine leaf (recL leaf m C 18)) h.toNat=r then 0 else 15:=if_neg hbad
 unfold badL badH at hbad
 have hb2:0≤h∧h≤4∧0≤leaf:=by omega
 obtain ⟨k,rfl⟩:=Int.eq_ofNat_of_zero_le hb2.1
 obtain ⟨i,rfl⟩:=Int.eq_ofNat_of_zero_le hb2.2.2
 rw [Int.toNat_natCast] at hbad
 rw [Int.toNat_natCast,Int.toNat_natCast] at hv
 have hk:k≤4:=by omega
 have hb:¬badH (k:Int):=by unfold badH;omega
 have ho:¬((i:Int)<0∨((2^k:Nat):Int)≤i):=by omega
 have hp:2^k≤16:=Nat.pow_le_pow_right (by decide) hk
 rw [hv]
 by_cases hC:C.length=18
 case neg =>
  rw [if_pos (.inl hC)]
  refine zO Tryz.func104 74 ?_
  refine zQ 1 [{}] [] ?_
  refine zS ?_
  refine zP 1 [yH [(2,yV (ao (decide (badH (↑k:Int))))),(4,{g:=false}),(5,{g:=false}),(6,{g:=false}),(7,{g:=false}),(8,{av:=some (ao (decide ((↑i:Int)<0∨(↑((2:Nat)^k):Int)≤(↑i:Int)))),g:=false}),(9,{b:=false})]] [.keep [20,6,5,3,0,1,2] [5,3]] [yI (high_ret ((↑k:Int))),yF (badH (↑k:Int)),yF (badH (↑k:Int)),yF (badH (↑k:Int)),yF (badH (↑k:Int)),yF (badH (↑k:Int)),yI (outside_ret ((↑i:Int)) k (by assumption)),yF (badH (↑k:Int))] ?_
  refine zFd 20 ((↑i:Int)<0∨(↑((2:Nat)^k):Int)≤(↑i:Int)) ?_
  refine zK ?_
  refine then_n ?_
  refine zS ?_
  refine zP 1 [yH [(2,{k:=C.length})]] [.keep [32,20,6,5,3,0,1,2] [5,3]] [yB ((wordsA C).length=C.length) (wordsA_len _),yB (((↑C.length:Int) != (18:Int))=true) (by simp;omega),yB (((↑C.length:Int) != (18:Int))=true) (by simp;omega),yB (((↑C.length:Int) != (18:Int))=true) (by simp;omega),yB (((↑C.length:Int) != (18:Int))=true) (by simp;omega),yB (((↑C.length:Int) != (18:Int))=true) (by simp;omega),yB (((↑C.length:Int) != (18:Int))=true) (by simp;omega),yB (((↑C.length:Int) != (18:Int))=true) (by simp;omega)] ?_
  refine zT 32 ?_
  refine zQ 1 [{}] [] ?_
  refine zR ?_
  refine then_r ?_
  refine zV [yR (Value.int .i64 4)]
 by_cases hP:P.length=k
 case neg =>
  rw [if_pos (.inr (by omega))]
  refine zO Tryz.func104 74 ?_
  refine zQ 1 [{}] [] ?_
  refine zS ?_
  refine zP 1 [yH [(2,yV (ao (decide (badH (↑k:Int))))),(4,{g:=false}),(5,{g:=false}),(6,{g:=false}),(7,{g:=false}),(8,{av:=some (ao (decide ((↑i:Int)<0∨(↑((2:Nat)^k):Int)≤(↑i:Int)))),g:=false}),(9,{b:=false})]] [.keep [20,6,5,3,0,1,2] [5,3]] [yI (high_ret ((↑k:Int))),yF (badH (↑k:Int)),yF (badH (↑k:Int)),yF (badH (↑k:Int)),yF (badH (↑k:Int)),yF (badH (↑k:Int)),yI (outside_ret ((↑i:Int)) k (by assumption)),yF (badH (↑k:Int))] ?_
  refine zFd 20 ((↑i:Int)<0∨(↑((2:Nat)^k):Int)≤(↑i:Int)) ?_
  refine zK ?_
  refine then_n ?_
  refine zS ?_
  refine zP 1 [yH [(2,{k:=C.length}),(5,{g:=false}),(6,{g:=false}),(7,{k:=P.length,g:=false}),(8,{g:=false}),(9,{g:=false}),(10,{g:=false}),(11,{b:=false})]] [.keep [32,20,6,5,3,0,1,2] [5,3]] [yB ((wordsA C).length=C.length) (wordsA_len _),yB (((↑C.length:Int) != (18:Int))=false) (by simp_all),yB (((↑C.length:Int) != (18:Int))=false) (by simp_all),yB (((↑C.length:Int) != (18:Int))=false) (by simp_all),yB ((wordsA P).length=P.length) (wordsA_len _),yB (((↑C.length:Int) != (18:Int))=false) (by simp_all),yB (((↑C.length:Int) != (18:Int))=false) (by simp_all),yB (((↑C.length:Int) != (18:Int))=false) (by simp_all),yB (((↑C.length:Int) != (18:Int))=false) (by simp_all)] ?_
  refine zTb 32 ((↑P.length:Int) != (↑k:Int)) (by simp;omega) ?_
  refine zQ 1 [{}] [] ?_
  refine zR ?_
  refine then_r ?_
  refine zV [yR (Value.int .i64 4)]
 rw [if_neg (by omega)]
 have hr:recW i m C=combine i (recL i m C 18):=if_pos hC
 have he:recE C=0:=if_pos hC
 refine zO Tryz.func104 74 ?_
 refine zQ 1 [{}] [] ?_
 refine zS ?_
 refine zP 1 [yH [(2,yV (ao (decide (badH (↑k:Int))))),(4,{g:=false}),(5,{g:=false}),(6,{g:=false}),(7,{g:=false}),(8,{av:=some (ao (decide ((↑i:Int)<0∨(↑((2:Nat)^k):Int)≤(↑i:Int)))),g:=false}),(9,{b:=false})]] [.keep [20,6,5,3,0,1,2] [5,3]] [yI (high_ret ((↑k:Int))),yF (badH (↑k:Int)),yF (badH (↑k:Int)),yF (badH (↑k:Int)),yF (badH (↑k:Int)),yF (badH (↑k:Int)),yI (outside_ret ((↑i:Int)) k (by assumption)),yF (badH (↑k:Int))] ?_
 refine zFd 20 ((↑i:Int)<0∨(↑((2:Nat)^k):Int)≤(↑i:Int)) ?_
 refine zK ?_
 refine then_n ?_
 refine zS ?_
 refine zP 1 [yH [(2,{k:=C.length}),(5,{g:=false}),(6,{g:=false}),(7,{k:=P.length,g:=false}),(8,{g:=false}),(9,{g:=false}),(10,{g:=false}),(11,{b:=false})]] [.keep [32,20,6,5,3,0,1,2] [5,3]] [yB ((wordsA C).length=C.length) (wordsA_len _),yB (((↑C.length:Int) != (18:Int))=false) (by simp_all),yB (((↑C.length:Int) != (18:Int))=false) (by simp_all),yB (((↑C.length:Int) != (18:Int))=false) (by simp_all),yB ((wordsA P).length=P.length) (wordsA_len _),yB (((↑C.length:Int) != (18:Int))=false) (by simp_all),yB (((↑C.length:Int) != (18:Int))=false) (by simp_all),yB (((↑C.length:Int) != (18:Int))=false) (by simp_all),yB (((↑C.length:Int) != (18:Int))=false) (by simp_all)] ?_
 refine zFb 32 ((↑P.length:Int) != (↑k:Int)) (by simp_all) ?_
 refine zK ?_
 refine then_n ?_
 refine zP 1 [yH [(5,yV (AV.tup [aw (recW (↑i:Int) m C),ai (recE C)]))]] [.keep [8,7,32,20,6,5,3,0,1,2] [5,3]] [yI (recover_ret ((↑i:Int)) m C)] ?_
 refine zS ?_
 refine zQ 1 [{}] [] ?_
 refine zFb 43 (recE C != (0:Int)) (by simp_all) ?_
 refine zK ?_
 refine then_n ?_
 refine zS ?_
 refine zP 1 [yH [(2,{k:=P.length})]] [.keep [48,47,46,43,8,7,32,20,6,5,3,0,1,2] [5,3]] [yB ((wordsA P).length=P.length) (wordsA_len _)] ?_
 refine zB 0 ?_
 refine zL (fun (j:Nat)=>(⟨[(47,ai (↑P.length:Int)),(46,AV.sl 1 (wordsA P)),(43,ao (recE C != (0:Int))),(8,ai (recE C)),(32,ao ((↑P.length:Int) != (↑k:Int))),(20,ao (decide ((↑i:Int)<0∨(↑((2:Nat)^k):Int)≤(↑i:Int)))),(6,ai 0),(5,AV.addr 5 0),(3,AV.addr 3 0),(0,AV.agg [ai (↑k:Int),aw r]),(1,aw m),(2,AV.agg [ai (↑i:Int),AV.sl 1 (wordsA C),AV.sl 1 (wordsA P)]),(48,ai j),(7,aw (climb i P (combine i (recL i m C 18)) j))],[(5,⟨1,false,true,[ai (↑i:Int),AV.sl 1 (wordsA C),AV.sl 1 (wordsA P)]⟩),(3,⟨1,false,true,[ai (↑k:Int),aw r]⟩)]⟩:AS)) (fun j=>(j≤k)) (fun j=>(k-j)) (0) ?_ (Weaks.of [.keep [47,46,43,8,32,20,6,5,3,0,1,2,48,7] [5,3]] (s1:=AS.mk [(47,ai (↑P.length:Int)),(46,AV.sl 1 (wordsA P)),(43,ao (recE C != (0:Int))),(8,ai (recE C)),(32,ao ((↑P.length:Int) != (↑k:Int))),(20,ao (decide ((↑i:Int)<0∨(↑((2:Nat)^k):Int)≤(↑i:Int)))),(6,ai 0),(5,AV.addr 5 0),(3,AV.addr 3 0),(0,AV.agg [ai (↑k:Int),aw r]),(1,aw m),(2,AV.agg [ai (↑i:Int),AV.sl 1 (wordsA C),AV.sl 1 (wordsA P)]),(48,ai 0),(7,aw (recW (↑i:Int) m C))] [(5,Row.mk 1 false true [ai (↑i:Int),AV.sl 1 (wordsA C),AV.sl 1 (wordsA P)]),(3,Row.mk 1 false true [ai (↑k:Int),aw r])]) (by kernel_rfl) (as_eq (f_cons rfl (f_cons rfl (f_cons rfl (f_cons rfl (f_cons rfl (f_cons rfl (f_cons rfl (f_cons rfl (f_cons rfl (f_cons rfl (f_cons rfl (f_cons rfl (f_cons rfl (f_cons (congrArg aw hr) rfl)))))))))))))) (h_cons rfl (h_cons rfl rfl)))) ?_
 ·omega
 intro j hj
 refine AWP.regsK 1 [{}] (by kernel_rfl) (s':=AS.mk [(49,ao (decide ((↑j:Int)<(↑P.length:Int)))),(47,ai (↑P.length:Int)),(46,AV.sl 1 (wordsA P)),(43,ao (recE C != (0:Int))),(8,ai (recE C)),(32,ao ((↑P.length:Int) != (↑k:Int))),(20,ao (decide ((↑i:Int)<0∨(↑((2:Nat)^k):Int)≤(↑i:Int)))),(6,ai 0),(5,AV.addr 5 0),(3,AV.addr 3 0),(0,AV.agg [ai (↑k:Int),aw r]),(1,aw m),(2,AV.agg [ai (↑i:Int),AV.sl 1 (wordsA C),AV.sl 1 (wordsA P)]),(48,ai (↑j:Int)),(7,aw (climb i P (combine (↑i:Int) (recL (↑i:Int) m C (18:Nat))) j))] [(5,Row.mk 1 false true [ai (↑i:Int),AV.sl 1 (wordsA C),AV.sl 1 (wordsA P)]),(3,Row.mk 1 false true [ai (↑k:Int),aw r])]) (C:=[]) (by kernel_rfl) trivial ?_
 refine zS ?_
 refine zD 49 ((↑j:Int)<(↑P.length:Int)) (fun g=>?_) (fun g=>?_)
 ·have hs:=shr_leafI i j (by omega)
  have hle:i/2^j≤i:=Nat.div_le_self ..
  have hq:i/2^j<16:=by omega
  have ha:=and_one _ hq
  have hw1:(0:Int)≤wv (u64 (j:Int)):=Int.natCast_nonneg _
  have hpar:IntKind.i64.wrap ((j:Int)+1)=((j+1:Nat):Int):=by rw [i64_small (by omega) (by omega)];omega
  have hc:climb i P (combine i (recL i m C 18)) (j+1)=if i/2^j%2=0 then parW ((j+1:Nat):Int) (climb i P (combine i (recL i m C 18)) j) (P.getD j 0) else parW ((j+1:Nat):Int) (P.getD j 0) (climb i P (combine i (recL i m C 18)) j):=rfl
  generalize i/2^j=q at *
  generalize hx:climb i P (combine i (recL i m C 18)) j=x at *
  by_cases h2:q%2=0
  ·rw [if_pos h2] at hc
   generalize q%2=q2 at *
   refine zK ?_
   refine then_n ?_
   refine zS ?_
   refine zB 1 ?_
   refine zP 2 [yH [(1,{k:=j}),(2,yV (aw (P.getD j 0)))],yH [(3,yV (ai (↑q:Int))),(4,yV (ai (↑q2:Int)))]] [.keep [58,10,9,49,47,46,43,8,32,20,6,5,3,0,1,2,48,7] [5,3]] [yR (↑j:Int),yB (j<(wordsA P).length) (by simp only [wordsA_len];omega),yB ((wordsA P)[j]?=some (aw (P.getD j 0))) (wordsA_at (by omega)),yB (ai ((↑i:Int).fdiv ((2:Int)^min (↑j:Int).toNat IntKind.i64.bits))=ai (↑q:Int)) (congrArg (fun n=>AV.val (.int .i64 n)) hs),yO ((0:Int)≤(↑j:Int)),yB (ai (IntKind.i64.wrap (↑(BitVec.ofInt IntKind.i64.bits (↑q:Int)&&&BitVec.ofInt IntKind.i64.bits (1:Int)).toNat:Int))=ai (↑q2:Int)) (congrArg (fun n=>AV.val (.int .i64 n)) ha)] ?_
   refine zTb 58 ((↑q2:Int) == (0:Int)) (decide_eq_true (by omega)) ?_
   refine zX (yH [(1,yV (ai (↑(j+(1:Nat)):Int))),(4,yV (aw (parW (↑(j+(1:Nat)):Int) x (P.getD j 0))))]) [yB (ai (IntKind.i64.wrap ((↑j:Int)+1))=ai (↑(j+(1:Nat)):Int)) (av_i64 (by omega) (by omega)),yI (parent_ret (↑(j+(1:Nat)):Int) x (P.getD j 0))] ?_
   refine inb_n ?_
   refine then_n ?_
   refine AWP.reg {hs:=[(0,{av:=some (ai ((↑j:Int)+1))})]} (s':=AS.mk [(48,ai ((↑j:Int)+1)),(69,ai ((↑j:Int)+1)),(7,aw (parW (↑(j+(1:Nat)):Int) x (P.getD j 0))),(63,aw (parW (↑(j+(1:Nat)):Int) x (P.getD j 0))),(62,aw (P.getD j 0)),(61,aw x),(60,ai (↑(j+(1:Nat)):Int)),(59,ai (↑j:Int)),(58,ao ((↑q2:Int) == (0:Int))),(10,aw (P.getD j 0)),(9,ai (↑j:Int)),(49,ao (decide ((↑j:Int)<(↑P.length:Int)))),(47,ai (↑P.length:Int)),(46,AV.sl 1 (wordsA P)),(43,ao (recE C != (0:Int))),(8,ai (recE C)),(32,ao ((↑P.length:Int) != (↑k:Int))),(20,ao (decide ((↑i:Int)<0∨(↑((2:Nat)^k):Int)≤(↑i:Int)))),(6,ai 0),(5,AV.addr 5 0),(3,AV.addr 3 0),(0,AV.agg [ai (↑k:Int),aw r]),(1,aw m),(2,AV.agg [ai (↑i:Int),AV.sl 1 (wordsA C),AV.sl 1 (wordsA P)])] [(5,Row.mk 1 false true [ai (↑i:Int),AV.sl 1 (wordsA C),AV.sl 1 (wordsA P)]),(3,Row.mk 1 false true [ai (↑k:Int),aw r])]) (C:=[ai (IntKind.i64.wrap ((↑j:Int)+1))=ai ((↑j:Int)+1)]) (by kernel_rfl) ⟨(av_i64 (by omega) (by omega)),trivial⟩ ?_
   refine round_n (j+1) (by omega) (by omega) (Weaks.of [.keep [47,46,43,8,32,20,6,5,3,0,1,2,48,7] [5,3]] (s1:=AS.mk [(47,ai (↑P.length:Int)),(46,AV.sl 1 (wordsA P)),(43,ao (recE C != (0:Int))),(8,ai (recE C)),(32,ao ((↑P.length:Int) != (↑k:Int))),(20,ao (decide ((↑i:Int)<0∨(↑((2:Nat)^k):Int)≤(↑i:Int)))),(6,ai 0),(5,AV.addr 5 0),(3,AV.addr 3 0),(0,AV.agg [ai (↑k:Int),aw r]),(1,aw m),(2,AV.agg [ai (↑i:Int),AV.sl 1 (wordsA C),AV.sl 1 (wordsA P)]),(48,ai ((↑j:Int)+1)),(7,aw (parW (↑(j+(1:Nat)):Int) x (P.getD j 0)))] [(5,Row.mk 1 false true [ai (↑i:Int),AV.sl 1 (wordsA C),AV.sl 1 (wordsA P)]),(3,Row.mk 1 false true [ai (↑k:Int),aw r])]) (by kernel_rfl) (as_eq (f_cons rfl (f_cons rfl (f_cons rfl (f_cons rfl (f_cons rfl (f_cons rfl (f_cons rfl (f_cons rfl (f_cons rfl (f_cons rfl (f_cons rfl (f_cons rfl (f_cons (congrArg (fun n=>AV.val (.int .i64 n)) (by omega)) (f_cons (by rw [hc]) rfl)))))))))))))) (h_cons rfl (h_cons rfl rfl))))
  ·rw [if_neg h2] at hc
   generalize q%2=q2 at *
   refine zK ?_
   refine then_n ?_
   refine zS ?_
   refine zB 1 ?_
   refine zP 2 [yH [(1,{k:=j}),(2,yV (aw (P.getD j 0)))],yH [(3,yV (ai (↑q:Int))),(4,yV (ai (↑q2:Int)))]] [.keep [58,10,9,49,47,46,43,8,32,20,6,5,3,0,1,2,48,7] [5,3]] [yR (↑j:Int),yB (j<(wordsA P).length) (by simp only [wordsA_len];omega),yB ((wordsA P)[j]?=some (aw (P.getD j 0))) (wordsA_at (by omega)),yB (ai ((↑i:Int).fdiv ((2:Int)^min (↑j:Int).toNat IntKind.i64.bits))=ai (↑q:Int)) (congrArg (fun n=>AV.val (.int .i64 n)) hs),yO ((0:Int)≤(↑j:Int)),yB (ai (IntKind.i64.wrap (↑(BitVec.ofInt IntKind.i64.bits (↑q:Int)&&&BitVec.ofInt IntKind.i64.bits (1:Int)).toNat:Int))=ai (↑q2:Int)) (congrArg (fun n=>AV.val (.int .i64 n)) ha)] ?_
   refine zFb 58 ((↑q2:Int) == (0:Int)) (decide_eq_false (by omega)) ?_
   refine zX (yH [(1,yV (ai (↑(j+(1:Nat)):Int))),(4,yV (aw (parW (↑(j+(1:Nat)):Int) (P.getD j 0) x)))]) [yB (ai (IntKind.i64.wrap ((↑j:Int)+1))=ai (↑(j+(1:Nat)):Int)) (av_i64 (by omega) (by omega)),yI (parent_ret (↑(j+(1:Nat)):Int) (P.getD j 0) x)] ?_
   refine inb_n ?_
   refine then_n ?_
   refine zX (yH [(0,yV (ai ((↑j:Int)+1)))]) [yN ((↑j:Int)+1)] ?_
   refine round_n (j+1) (by omega) (by omega) (Weaks.of [.keep [47,46,43,8,32,20,6,5,3,0,1,2,48,7] [5,3]] (s1:=AS.mk [(47,ai (↑P.length:Int)),(46,AV.sl 1 (wordsA P)),(43,ao (recE C != (0:Int))),(8,ai (recE C)),(32,ao ((↑P.length:Int) != (↑k:Int))),(20,ao (decide ((↑i:Int)<0∨(↑((2:Nat)^k):Int)≤(↑i:Int)))),(6,ai 0),(5,AV.addr 5 0),(3,AV.addr 3 0),(0,AV.agg [ai (↑k:Int),aw r]),(1,aw m),(2,AV.agg [ai (↑i:Int),AV.sl 1 (wordsA C),AV.sl 1 (wordsA P)]),(48,ai ((↑j:Int)+1)),(7,aw (parW (↑(j+(1:Nat)):Int) (P.getD j 0) x))] [(5,Row.mk 1 false true [ai (↑i:Int),AV.sl 1 (wordsA C),AV.sl 1 (wordsA P)]),(3,Row.mk 1 false true [ai (↑k:Int),aw r])]) (by kernel_rfl) (as_eq (f_cons rfl (f_cons rfl (f_cons rfl (f_cons rfl (f_cons rfl (f_cons rfl (f_cons rfl (f_cons rfl (f_cons rfl (f_cons rfl (f_cons rfl (f_cons rfl (f_cons (congrArg (fun n=>AV.val (.int .i64 n)) (by omega)) (f_cons (by rw [hc]) rfl)))))))))))))) (h_cons rfl (h_cons rfl rfl))))
 ·have e:j=k:=by omega
  subst e
  by_cases hfin:climb i P (combine i (recL i m C 18)) j=r
  ·rw [if_pos hfin]
   refine zE 0 ?_
   refine then_e ?_
   refine round_e ?_
   refine inb_e ?_
   refine then_n ?_
   refine zS ?_
   refine zP 1 [yH [(3,yV (ao (climb i P (combine (↑i:Int) (recL (↑i:Int) m C (18:Nat))) j != r)))]] [.keep [73,49,47,46,43,8,32,20,6,5,3,0,1,2,48,7] [5,3]] [yI (avw_ne (climb i P (combine (↑i:Int) (recL (↑i:Int) m C (18:Nat))) j) r)] ?_
   refine zFb 73 (climb i P (combine (↑i:Int) (recL (↑i:Int) m C (18:Nat))) j != r) (by simp_all) ?_
   refine zK ?_
   refine then_n ?_
   refine zQ 1 [{}] [] ?_
   refine zR ?_
   refine zV [yR (Value.int .i64 0)]
  ·rw [if_neg hfin]
   refine zE 0 ?_
   refine then_e ?_
   refine round_e ?_
   refine inb_e ?_
   refine then_n ?_
   refine zS ?_
   refine zP 1 [yH [(3,yV (ao (climb i P (combine (↑i:Int) (recL (↑i:Int) m C (18:Nat))) j != r)))]] [.keep [73,49,47,46,43,8,32,20,6,5,3,0,1,2,48,7] [5,3]] [yI (avw_ne (climb i P (combine (↑i:Int) (recL (↑i:Int) m C (18:Nat))) j) r)] ?_
   refine zTb 73 (climb i P (combine (↑i:Int) (recL (↑i:Int) m C (18:Nat))) j != r) (by simp_all) ?_
   refine zQ 1 [{}] [] ?_
   refine zR ?_
   refine then_r ?_
   refine zV [yR (Value.int .i64 15)]
end Go.Proofs.YtjgbhhnghedgdaaGreatDoor
