import Derived.Test.YtejpabdmiagnnaaGreatDoorZrV8
import Derived.Test.YtejpabdmiagnnaaGreatDoorZrShF
set_option linter.all false
namespace Go.Proofs.YtejpabdmiagnnaaGreatDoor
open Go.RowKit
set_option maxRecDepth 100000
set_option maxHeartbeats 4000000
set_option linter.unusedVariables false
theorem refat_ret (l:List Sh) (x:Int):Ret Tryz.prog 120 [.sl 2 (encA shareC l),ai x] (.tup [.own 1 (bytesA (atD l x)),ai (atE l x)]):=by
 refine Ret.len 0 rfl fun hlen=>?_
 rw [encA_len (e:=2) (fun _=>rfl)] at hlen
 have hmul:=refmulG_ret
 have hinv:=refinvG_ret
 by_cases h0:l.length=0
 ·have e1:atE l x=1:=by simp [atE,h0]
  refine zO Tryz.func120 104 ?_
  refine zQ 1 [{}] [] ?_
  refine zS ?_
  refine zP 1 [yH [(1,{k:=l.length})]] [.keep [15,5,4,0,1] []] [yB ((encA shareC l).length=l.length*(2:Nat)) (by simp only [encA_len (f:=shareC) (e:=2) (fun _=>rfl)])] ?_
  refine zTb 15 ((↑l.length:Int) == (0:Int)) (decide_eq_true (by omega)) ?_
  refine zQ 1 [{}] [] ?_
  refine zR ?_
  refine then_r ?_
  refine zV [yB (bytesA (atD l x)= []) (by rw [atD,e1];rfl),yJ 1 (atE l x) (by rw [e1])]
 by_cases h1:x<0
 ·have e1:atE l x=9:=by simp [atE,h0,h1]
  refine zO Tryz.func120 104 ?_
  refine zQ 1 [{}] [] ?_
  refine zS ?_
  refine zP 1 [yH [(1,{k:=l.length})]] [.keep [15,5,4,0,1] []] [yB ((encA shareC l).length=l.length*(2:Nat)) (by simp only [encA_len (f:=shareC) (e:=2) (fun _=>rfl)])] ?_
  refine zFb 15 ((↑l.length:Int) == (0:Int)) (decide_eq_false (by omega)) ?_
  refine zK ?_
  refine then_n ?_
  refine zS ?_
  refine zP 1 [{}] [.keep [21,15,5,4,0,1] []] [yT (x<0),yT (x<0),yT (x<0)] ?_
  refine zT 21 ?_
  refine zQ 1 [{}] [] ?_
  refine zR ?_
  refine then_r ?_
  refine zV [yB (bytesA (atD l x)= []) (by rw [atD,e1];rfl),yJ 9 (atE l x) (by rw [e1])]
 by_cases h2:255<x
 ·have e1:atE l x=9:=by simp [atE,h0,h2]
  refine zO Tryz.func120 104 ?_
  refine zQ 1 [{}] [] ?_
  refine zS ?_
  refine zP 1 [yH [(1,{k:=l.length})]] [.keep [15,5,4,0,1] []] [yB ((encA shareC l).length=l.length*(2:Nat)) (by simp only [encA_len (f:=shareC) (e:=2) (fun _=>rfl)])] ?_
  refine zFb 15 ((↑l.length:Int) == (0:Int)) (decide_eq_false (by omega)) ?_
  refine zK ?_
  refine then_n ?_
  refine zS ?_
  refine zP 1 [yH [(3,{g:=false}),(4,{g:=false}),(5,{b:=false})]] [.keep [21,15,5,4,0,1] []] [yF (x<0),yF (x<0),yF (x<0)] ?_
  refine zTd 21 (x>255) ?_
  refine zQ 1 [{}] [] ?_
  refine zR ?_
  refine then_r ?_
  refine zV [yB (bytesA (atD l x)= []) (by rw [atD,e1];rfl),yJ 9 (atE l x) (by rw [e1])]
 have e1:atE l x=chkE l:=by simp [atE,h0,h1,h2]
 refine zO Tryz.func120 104 ?_
 refine zQ 1 [{}] [] ?_
 refine zS ?_
 refine zP 1 [yH [(1,{k:=l.length})]] [.keep [15,5,4,0,1] []] [yB ((encA shareC l).length=l.length*(2:Nat)) (by simp only [encA_len (f:=shareC) (e:=2) (fun _=>rfl)])] ?_
 refine zFb 15 ((↑l.length:Int) == (0:Int)) (decide_eq_false (by omega)) ?_
 refine zK ?_
 refine then_n ?_
 refine zS ?_
 refine zP 1 [yH [(3,{g:=false}),(4,{g:=false}),(5,{b:=false})]] [.keep [21,15,5,4,0,1] []] [yF (x<0),yF (x<0),yF (x<0)] ?_
 refine zFd 21 (x>255) ?_
 refine zK ?_
 refine then_n ?_
 refine zS ?_
 refine zQ 1 [{}] [] ?_
 refine zB 0 ?_
 refine zL (fun (i:Nat)=>(⟨[(21,ao (decide (x>255))),(15,ao ((↑l.length:Int) == (0:Int))),(0,AV.sl 2 (encA shareC l)),(1,ai x),(6,ai i)],[]⟩:AS)) (fun i=>(i≤l.length∧ ∀k,k<i->svE l k=0)) (fun i=>(l.length-i)) (0) ?_ (zW [.keep [21,15,0,1,6] []]) ?_
 ·exact ⟨by omega,fun k hk=>by omega⟩
 rintro i ⟨hi,hz⟩
 refine zS ?_
 refine zP 1 [yH [(2,{k:=l.length})]] [.keep [25,21,15,0,1,6] []] [yB ((encA shareC l).length=l.length*(2:Nat)) (by simp only [encA_len (f:=shareC) (e:=2) (fun _=>rfl)])] ?_
 refine zD 25 ((↑i:Int)<(↑l.length:Int)) (fun h3=>?_) (fun h3=>?_)
 ·have hs:=refshare_ret l i (by omega)
  by_cases h4:svE l i=0
  ·rw [h4] at hs
   refine zK ?_
   refine then_n ?_
   refine zS ?_
   refine zB 1 ?_
   refine zP 2 [yH [(2,yV (ai 0))],{}] [.keep [32,7,25,21,15,0,1,6] []] [yB (Ret Tryz.prog (173:Nat) [AV.sl 2 (encA shareC l),ai (↑i:Int)] (ai 0)) (hs)] ?_
   refine zFb 32 ((0:Int) != (0:Int)) rfl ?_
   refine zK ?_
   refine inb_n ?_
   refine then_n ?_
   refine zX (yH [(1,yV (ai ((↑i:Int)+1)))]) [yN ((↑i:Int)+1)] ?_
   refine round_n (i+1) ⟨by omega,fun k hk=>if h:k<i then hz k h else (show k=i by omega) ▸ h4⟩ (by omega) (zW [.keep [21,15,0,1,6] []])
  ·have e2:=chk_err l (show i<l.length by omega) hz h4
   rw [←e2] at hs h4
   refine zK ?_
   refine then_n ?_
   refine zS ?_
   refine zB 1 ?_
   refine zP 2 [yH [(2,yV (ai (chkE l)))],{}] [.keep [32,7,25,21,15,0,1,6] []] [yB (Ret Tryz.prog (173:Nat) [AV.sl 2 (encA shareC l),ai (↑i:Int)] (ai (chkE l))) (hs)] ?_
   refine zTb 32 (chkE l != (0:Int)) (by simp_all) ?_
   refine zQ 1 [{}] [] ?_
   refine zR ?_
   refine inb_r ?_
   refine then_r ?_
   refine round_r ?_
   refine inb_r ?_
   refine then_r ?_
   refine zV [yB (bytesA (atD l x)= []) (by rw [atD,e1,if_neg h4];rfl),yJ (chkE l) (atE l x) (by rw [e1])]
 have ei:i=l.length:=by omega
 subst ei
 have hc:=svchk_ok l hz
 have e2:atD l x=ares l (u8 x) l.length:=by rw [atD,e1,if_pos hc]
 have hl0:=(shE_zero (hz 0 (by omega))).2.2.2.2
 refine zE 0 ?_
 refine then_e ?_
 refine round_e ?_
 refine inb_e ?_
 refine then_n ?_
 refine zP 1 [yH [(1,{k:=0}),(3,yV (AV.sl 1 (bytesA (l.getD (0:Nat) default).snd))),(4,{k:=(l.getD (0:Nat) default).snd.length}),(5,{av:=some (AV.arr (bytesA (List.replicate (l.getD (0:Nat) default).snd.length 0))),k:=(l.getD (0:Nat) default).snd.length,m:=(l.getD (0:Nat) default).snd.length})]] [.keep [8,25,21,15,0,1,6] [39]] [yR (0:Int),yB ((0:Nat)<(encA shareC l).length) (by simp only [encA_len (f:=shareC) (e:=2) (fun _=>rfl)];omega),yB ((encA shareC l)[(1:Nat)]?=some (AV.sl 1 (bytesA (l.getD (0:Nat) default).snd))) (encA_at (f:=shareC) (e:=2) (k:=0) (j:=1) (fun _=>rfl) (by omega) rfl),yI (bytesA_len ((l.getD (0:Nat) default).snd)),yB (List.replicate (l.getD (0:Nat) default).snd.length (AV.val (Value.int .u8 0))=bytesA (List.replicate (l.getD (0:Nat) default).snd.length 0)) (bytesA_rep _),yR (↑(l.getD (0:Nat) default).snd.length:Int),yR (↑(l.getD (0:Nat) default).snd.length:Int),yO ((l.getD (0:Nat) default).snd.length≤(l.getD (0:Nat) default).snd.length),yO ((1:Nat)*(l.getD (0:Nat) default).snd.length≤(281474976710656:Nat)),yB ((l.getD (0:Nat) default).snd.length≤maxLen) (by unfold maxLen;omega)] ?_
 refine zS ?_
 refine zQ 1 [{}] [] ?_
 refine zB 2 ?_
 refine zL (fun (i:Nat)=>(⟨[(8,AV.ref 39),(25,ao (decide ((↑l.length:Int)<(↑l.length:Int)))),(21,ao (decide (x>255))),(15,ao ((↑l.length:Int) == (0:Int))),(0,AV.sl 2 (encA shareC l)),(1,ai x),(6,ai (↑l.length:Int)),(9,ai i)],[(39,⟨1,true,false,bytesA (ares l (u8 x) i)⟩)]⟩:AS)) (fun i=>(i≤l.length)) (fun i=>(l.length-i)) (0) ?_ (zW [.keep [8,25,21,15,0,1,6,9] [39]]) ?_
 ·omega
 intro i hi
 have hal:=ares_len l (u8 x) i
 have hal1:=ares_len l (u8 x) (i+1)
 refine zS ?_
 refine zP 1 [yH [(2,{k:=l.length})]] [.keep [43,8,25,21,15,0,1,6,9] [39]] [yB ((encA shareC l).length=l.length*(2:Nat)) (by simp only [encA_len (f:=shareC) (e:=2) (fun _=>rfl)])] ?_
 refine zD 43 ((↑i:Int)<(↑l.length:Int)) (fun h4=>?_) (fun h4=>?_)
 ·obtain ⟨hx1,hx2,_,hd,_⟩:=shE_zero (hz i (by omega))
  refine zK ?_
  refine then_n ?_
  refine zS ?_
  refine zB 3 ?_
  refine zQ 1 [{}] [] ?_
  refine zS ?_
  refine zQ 1 [{}] [] ?_
  refine zB 4 ?_
  refine zL (fun (m:Nat)=>(⟨[(43,ao (decide ((↑i:Int)<(↑l.length:Int)))),(8,AV.ref 39),(25,ao (decide ((↑l.length:Int)<(↑l.length:Int)))),(21,ao (decide (x>255))),(15,ao ((↑l.length:Int) == (0:Int))),(0,AV.sl 2 (encA shareC l)),(1,ai x),(6,ai (↑l.length:Int)),(9,ai (↑i:Int)),(10,ab (rwg l (u8 x) i m)),(11,ai m)],[(39,⟨1,true,false,bytesA (ares l (u8 x) i)⟩)]⟩:AS)) (fun m=>(m≤l.length)) (fun m=>(l.length-m)) (0) ?_ (zW [.keep [43,8,25,21,15,0,1,6,9,10,11] [39]]) ?_
  ·omega
  intro m hm
  refine zS ?_
  refine zP 1 [yH [(2,{k:=l.length})]] [.keep [49,43,8,25,21,15,0,1,6,9,10,11] [39]] [yB ((encA shareC l).length=l.length*(2:Nat)) (by simp only [encA_len (f:=shareC) (e:=2) (fun _=>rfl)])] ?_
  refine zD 49 ((↑m:Int)<(↑l.length:Int)) (fun h5=>?_) (fun h5=>?_)
  ·skip
   refine zK ?_
   refine then_n ?_
   refine zS ?_
   refine zB 5 ?_
   refine zP 1 [{}] [.keep [54,49,43,8,25,21,15,0,1,6,9,10,11] [39]] [] ?_
   refine zN 54 (↑m:Int) (↑i:Int) (fun h6=>?_) (fun h6=>?_)
   ·skip
    refine zX ({hs:=[(2,yV (ab (u8 x))),(5,{k:=m}),(7,yV (ai ((l.getD m default).fst))),(8,yV (ab (u8 (l.getD m default).fst))),(9,yV (ab (u8 x^^^u8 (l.getD m default).fst))),(12,{k:=i}),(14,yV (ai ((l.getD i default).fst))),(15,yV (ab (u8 (l.getD i default).fst))),(18,{k:=m}),(20,yV (ai ((l.getD m default).fst))),(21,yV (ab (u8 (l.getD m default).fst))),(22,yV (ab (u8 (l.getD i default).fst^^^u8 (l.getD m default).fst))),(23,yV (ab (gpow (u8 (l.getD i default).fst^^^u8 (l.getD m default).fst) (254:Nat)))),(24,yV (ab (rgmul (u8 x^^^u8 (l.getD m default).fst) (gpow (u8 (l.getD i default).fst^^^u8 (l.getD m default).fst) (254:Nat))))),(25,yV (ab (rgmul (rwg l (u8 x) i m) (rgmul (u8 x^^^u8 (l.getD m default).fst) (gpow (u8 (l.getD i default).fst^^^u8 (l.getD m default).fst) (254:Nat))))))],T:=25}) [yI (avb_conv x),yR (↑m:Int),yB (m*(2:Nat)<(encA shareC l).length) (by simp only [encA_len (f:=shareC) (e:=2) (fun _=>rfl)];omega),yB ((encA shareC l)[m*(2:Nat)]?=some (ai ((l.getD m default).fst))) (encA_at (f:=shareC) (e:=2) (k:=m) (j:=0) (fun _=>rfl) (by omega) rfl),yI (avb_conv ((l.getD m default).fst)),yI (avb_xor (u8 x) (u8 (l.getD m default).fst)),yR (↑i:Int),yB (i*(2:Nat)<(encA shareC l).length) (by simp only [encA_len (f:=shareC) (e:=2) (fun _=>rfl)];omega),yB ((encA shareC l)[i*(2:Nat)]?=some (ai ((l.getD i default).fst))) (encA_at (f:=shareC) (e:=2) (k:=i) (j:=0) (fun _=>rfl) (by omega) rfl),yI (avb_conv ((l.getD i default).fst)),yR (↑m:Int),yB (m*(2:Nat)<(encA shareC l).length) (by simp only [encA_len (f:=shareC) (e:=2) (fun _=>rfl)];omega),yB ((encA shareC l)[m*(2:Nat)]?=some (ai ((l.getD m default).fst))) (encA_at (f:=shareC) (e:=2) (k:=m) (j:=0) (fun _=>rfl) (by omega) rfl),yI (avb_conv ((l.getD m default).fst)),yI (avb_xor (u8 (l.getD i default).fst) (u8 (l.getD m default).fst)),yI (refinverse_ret (u8 (l.getD i default).fst^^^u8 (l.getD m default).fst)),yI (refmul_ret (u8 x^^^u8 (l.getD m default).fst) (gpow (u8 (l.getD i default).fst^^^u8 (l.getD m default).fst) (254:Nat))),yI (refmul_ret (rwg l (u8 x) i m) (rgmul (u8 x^^^u8 (l.getD m default).fst) (gpow (u8 (l.getD i default).fst^^^u8 (l.getD m default).fst) (254:Nat))))] ?_
    refine inb_n ?_
    refine then_n ?_
    refine zX (yH [(1,yV (ai ((↑m:Int)+1)))]) [yN ((↑m:Int)+1)] ?_
    refine round_n (m+1) (by omega) (by omega) (Weaks.of [.keep [43,8,25,21,15,0,1,6,9,10,11] [39]] (s1:=AS.mk [(43,ao (decide ((↑i:Int)<(↑l.length:Int)))),(8,AV.ref 39),(25,ao (decide ((↑l.length:Int)<(↑l.length:Int)))),(21,ao (decide (x>255))),(15,ao ((↑l.length:Int) == (0:Int))),(0,AV.sl 2 (encA shareC l)),(1,ai x),(6,ai (↑l.length:Int)),(9,ai (↑i:Int)),(10,ab (rgmul (rwg l (u8 x) i m) (rgmul (u8 x^^^u8 (l.getD m default).fst) (gpow (u8 (l.getD i default).fst^^^u8 (l.getD m default).fst) (254:Nat))))),(11,ai ((↑m:Int)+1))] [(39,Row.mk 1 true false (bytesA (ares l (u8 x) i)))]) (by kernel_rfl) (as_eq (f_cons rfl (f_cons rfl (f_cons rfl (f_cons rfl (f_cons rfl (f_cons rfl (f_cons rfl (f_cons rfl (f_cons rfl (f_cons (by rw [rgmul_eq,rgmul_eq,←ginv_eq,rwg,if_pos (by omega)]) (f_cons rfl rfl))))))))))) (h_cons rfl rfl)))
   ·skip
    refine zK ?_
    refine inb_n ?_
    refine then_n ?_
    refine zX (yH [(1,yV (ai ((↑m:Int)+1)))]) [yN ((↑m:Int)+1)] ?_
    refine round_n (m+1) (by omega) (by omega) (Weaks.of [.keep [43,8,25,21,15,0,1,6,9,10,11] [39]] (s1:=AS.mk [(43,ao (decide ((↑i:Int)<(↑l.length:Int)))),(8,AV.ref 39),(25,ao (decide ((↑l.length:Int)<(↑l.length:Int)))),(21,ao (decide (x>255))),(15,ao ((↑l.length:Int) == (0:Int))),(0,AV.sl 2 (encA shareC l)),(1,ai x),(6,ai (↑l.length:Int)),(9,ai (↑i:Int)),(10,ab (rwg l (u8 x) i m)),(11,ai ((↑m:Int)+1))] [(39,Row.mk 1 true false (bytesA (ares l (u8 x) i)))]) (by kernel_rfl) (as_eq (f_cons rfl (f_cons rfl (f_cons rfl (f_cons rfl (f_cons rfl (f_cons rfl (f_cons rfl (f_cons rfl (f_cons rfl (f_cons (by rw [rwg,if_neg (by omega)]) (f_cons rfl rfl))))))))))) (h_cons rfl rfl)))
  ·have e:m=l.length:=by omega
   subst e
   refine zE 4 ?_
   refine then_e ?_
   refine round_e ?_
   refine inb_e ?_
   refine then_n ?_
   refine zQ 1 [{}] [] ?_
   refine zB 6 ?_
   refine zL (fun (j:Nat)=>(⟨[(49,ao (decide ((↑l.length:Int)<(↑l.length:Int)))),(43,ao (decide ((↑i:Int)<(↑l.length:Int)))),(8,AV.ref 39),(25,ao (decide ((↑l.length:Int)<(↑l.length:Int)))),(21,ao (decide (x>255))),(15,ao ((↑l.length:Int) == (0:Int))),(0,AV.sl 2 (encA shareC l)),(1,ai x),(6,ai (↑l.length:Int)),(9,ai (↑i:Int)),(10,ab (rwg l (u8 x) i l.length)),(11,ai (↑l.length:Int)),(12,ai j)],[(39,⟨1,true,false,bytesA ((ares l (u8 x) (i+1)).take j++(ares l (u8 x) i).drop j)⟩)]⟩:AS)) (fun j=>(j≤(l.getD 0 default).2.length)) (fun j=>((l.getD 0 default).2.length-j)) (0) ?_ (Weaks.of [.keep [49,43,8,25,21,15,0,1,6,9,10,11,12] [39]] (s1:=AS.mk [(49,ao (decide ((↑l.length:Int)<(↑l.length:Int)))),(43,ao (decide ((↑i:Int)<(↑l.length:Int)))),(8,AV.ref 39),(25,ao (decide ((↑l.length:Int)<(↑l.length:Int)))),(21,ao (decide (x>255))),(15,ao ((↑l.length:Int) == (0:Int))),(0,AV.sl 2 (encA shareC l)),(1,ai x),(6,ai (↑l.length:Int)),(9,ai (↑i:Int)),(10,ab (rwg l (u8 x) i l.length)),(11,ai (↑l.length:Int)),(12,ai 0)] [(39,Row.mk 1 true false (bytesA (ares l (u8 x) i)))]) (by kernel_rfl) (as_eq (f_cons rfl (f_cons rfl (f_cons rfl (f_cons rfl (f_cons rfl (f_cons rfl (f_cons rfl (f_cons rfl (f_cons rfl (f_cons rfl (f_cons rfl (f_cons rfl (f_cons (by simp) rfl))))))))))))) (h_cons (by simp) rfl))) ?_
   ·omega
   intro j hj
   have hmx:(List.take j (ares l (u8 x) (i+1))++List.drop j (ares l (u8 x) i)).length=(l.getD 0 default).2.length:=by rw [List.length_append,List.length_take,List.length_drop];omega
   have hmy:(List.take j (ares l (u8 x) (i+1))).length+(List.drop j (ares l (u8 x) i)).length=(l.getD 0 default).2.length:=by rw [←List.length_append];exact hmx
   have hmz:(bytesA (List.take j (ares l (u8 x) (i+1))++List.drop j (ares l (u8 x) i))).length=(l.getD 0 default).2.length:=by rw [bytesA_len];exact hmx
   refine zS ?_
   refine zP 1 [yH [(2,{k:=(List.take j (ares l (u8 x) (i+(1:Nat)))).length+(List.drop j (ares l (u8 x) i)).length})]] [.keep [84,49,43,8,25,21,15,0,1,6,9,10,11,12] [39]] [yO ((bytesA (List.take j (ares l (u8 x) (i+(1:Nat)))++List.drop j (ares l (u8 x) i))).length=(List.take j (ares l (u8 x) (i+(1:Nat)))).length+(List.drop j (ares l (u8 x) i)).length)] ?_
   refine zD 84 ((↑j:Int)<(↑((List.take j (ares l (u8 x) (i+(1:Nat)))).length+(List.drop j (ares l (u8 x) i)).length):Int)) (fun h7=>?_) (fun h7=>?_)
   ·skip
    refine zK ?_
    refine then_n ?_
    refine zS ?_
    refine zB 7 ?_
    refine zX ({hs:=[(2,{k:=j}),(3,yV (ab ((List.take j (ares l (u8 x) (i+(1:Nat)))++List.drop j (ares l (u8 x) i)).getD j 0))),(7,{k:=i}),(9,yV (AV.sl 1 (bytesA (l.getD i default).snd))),(11,{k:=j}),(12,yV (ab ((l.getD i default).snd.getD j 0))),(13,yV (ab (rgmul (rwg l (u8 x) i l.length) ((l.getD i default).snd.getD j 0)))),(14,yV (ab ((List.take j (ares l (u8 x) (i+(1:Nat)))++List.drop j (ares l (u8 x) i)).getD j (0:UInt8)^^^rgmul (rwg l (u8 x) i l.length) ((l.getD i default).snd.getD j 0)))),(15,{k:=j}),(16,yV (AV.arr (bytesA ((List.take j (ares l (u8 x) (i+(1:Nat)))++List.drop j (ares l (u8 x) i)).set j ((List.take j (ares l (u8 x) (i+(1:Nat)))++List.drop j (ares l (u8 x) i)).getD j (0:UInt8)^^^rgmul (rwg l (u8 x) i l.length) ((l.getD i default).snd.getD j 0))))))],T:=14}) [yR (↑j:Int),yO (j<(bytesA (List.take j (ares l (u8 x) (i+(1:Nat)))++List.drop j (ares l (u8 x) i))).length),yB ((bytesA (List.take j (ares l (u8 x) (i+(1:Nat)))++List.drop j (ares l (u8 x) i)))[j]?=some (ab ((List.take j (ares l (u8 x) (i+(1:Nat)))++List.drop j (ares l (u8 x) i)).getD j 0))) (bytesA_at (by omega)),yR (↑i:Int),yB (i*(2:Nat)<(encA shareC l).length) (by simp only [encA_len (f:=shareC) (e:=2) (fun _=>rfl)];omega),yB ((encA shareC l)[i*(2:Nat)+(1:Nat)]?=some (AV.sl 1 (bytesA (l.getD i default).snd))) (encA_at (f:=shareC) (e:=2) (k:=i) (j:=1) (fun _=>rfl) (by omega) rfl),yR (↑j:Int),yB (j<(bytesA (l.getD i default).snd).length) (by simp only [bytesA_len];omega),yB ((bytesA (l.getD i default).snd)[j]?=some (ab ((l.getD i default).snd.getD j 0))) (bytesA_at (by omega)),yI (refmul_ret (rwg l (u8 x) i l.length) ((l.getD i default).snd.getD j 0)),yI (avb_xor ((List.take j (ares l (u8 x) (i+(1:Nat)))++List.drop j (ares l (u8 x) i)).getD j 0) (rgmul (rwg l (u8 x) i l.length) ((l.getD i default).snd.getD j 0))),yR (↑j:Int),yO (j<(bytesA (List.take j (ares l (u8 x) (i+(1:Nat)))++List.drop j (ares l (u8 x) i))).length),yB ((bytesA (List.take j (ares l (u8 x) (i+(1:Nat)))++List.drop j (ares l (u8 x) i))).set j (ab ((List.take j (ares l (u8 x) (i+(1:Nat)))++List.drop j (ares l (u8 x) i)).getD j (0:UInt8)^^^rgmul (rwg l (u8 x) i l.length) ((l.getD i default).snd.getD j 0)))=bytesA ((List.take j (ares l (u8 x) (i+(1:Nat)))++List.drop j (ares l (u8 x) i)).set j ((List.take j (ares l (u8 x) (i+(1:Nat)))++List.drop j (ares l (u8 x) i)).getD j (0:UInt8)^^^rgmul (rwg l (u8 x) i l.length) ((l.getD i default).snd.getD j 0)))) (bytesA_set _ _ _),yO (j+(1:Nat)≤(bytesA (List.take j (ares l (u8 x) (i+(1:Nat)))++List.drop j (ares l (u8 x) i))).length)] ?_
    refine inb_n ?_
    refine then_n ?_
    refine zX (yH [(1,yV (ai ((↑j:Int)+1)))]) [yN ((↑j:Int)+1)] ?_
    refine round_n (j+1) (by omega) (by omega) (Weaks.of [.keep [49,43,8,25,21,15,0,1,6,9,10,11,12] [39]] (s1:=AS.mk [(49,ao (decide ((↑l.length:Int)<(↑l.length:Int)))),(43,ao (decide ((↑i:Int)<(↑l.length:Int)))),(8,AV.ref 39),(25,ao (decide ((↑l.length:Int)<(↑l.length:Int)))),(21,ao (decide (x>255))),(15,ao ((↑l.length:Int) == (0:Int))),(0,AV.sl 2 (encA shareC l)),(1,ai x),(6,ai (↑l.length:Int)),(9,ai (↑i:Int)),(10,ab (rwg l (u8 x) i l.length)),(11,ai (↑l.length:Int)),(12,ai ((↑j:Int)+1))] [(39,Row.mk 1 true false (bytesA ((List.take j (ares l (u8 x) (i+(1:Nat)))++List.drop j (ares l (u8 x) i)).set j ((List.take j (ares l (u8 x) (i+(1:Nat)))++List.drop j (ares l (u8 x) i)).getD j (0:UInt8)^^^rgmul (rwg l (u8 x) i l.length) ((l.getD i default).snd.getD j 0)))))]) (by kernel_rfl) (as_eq (f_cons rfl (f_cons rfl (f_cons rfl (f_cons rfl (f_cons rfl (f_cons rfl (f_cons rfl (f_cons rfl (f_cons rfl (f_cons rfl (f_cons rfl (f_cons rfl (f_cons rfl rfl))))))))))))) (h_cons (congrArg bytesA (by rw [rgmul_eq];exact mix_set _ (by omega) (by omega) (by rw [mix_get (by omega),ares_next l (u8 x) i j (by omega),rwg_wgt]))) rfl)))
   ·have e:j=(l.getD 0 default).2.length:=by omega
    subst e
    refine zE 6 ?_
    refine then_e ?_
    refine round_e ?_
    refine inb_e ?_
    refine inb_n ?_
    refine then_n ?_
    refine zX (yH [(1,yV (ai ((↑i:Int)+1)))]) [yN ((↑i:Int)+1)] ?_
    refine round_n (i+1) (by omega) (by omega) (Weaks.of [.keep [8,25,21,15,0,1,6,9] [39]] (s1:=AS.mk [(8,AV.ref 39),(25,ao (decide ((↑l.length:Int)<(↑l.length:Int)))),(21,ao (decide (x>255))),(15,ao ((↑l.length:Int) == (0:Int))),(0,AV.sl 2 (encA shareC l)),(1,ai x),(6,ai (↑l.length:Int)),(9,ai ((↑i:Int)+1))] [(39,Row.mk 1 true false (bytesA (List.take (l.getD (0:Nat) default).snd.length (ares l (u8 x) (i+(1:Nat)))++List.drop (l.getD (0:Nat) default).snd.length (ares l (u8 x) i))))]) (by kernel_rfl) (as_eq (f_cons rfl (f_cons rfl (f_cons rfl (f_cons rfl (f_cons rfl (f_cons rfl (f_cons rfl (f_cons rfl rfl)))))))) (h_cons (congrArg bytesA (by rw [List.take_of_length_le (by omega),List.drop_eq_nil_of_le (by omega),List.append_nil])) rfl)))
 ·have e:i=l.length:=by omega
  subst e
  refine zE 2 ?_
  refine then_e ?_
  refine round_e ?_
  refine inb_e ?_
  refine then_n ?_
  refine zQ 1 [{}] [] ?_
  refine zR ?_
  refine zV [yB (bytesA (ares l (u8 x) l.length)=bytesA (atD l x)) (by rw [e2]),yJ 0 (atE l x) (by rw [e1,hc])]
theorem refjoin_ret (l:List Sh):Ret Tryz.prog 62 [.sl 2 (encA shareC l)] (.tup [.own 1 (bytesA (atD l 0)),ai (atE l 0)]):=by
 refine zO Tryz.func62 8 ?_
 refine zP 2 [{},yH [(1,yV (AV.tup [AV.own 1 (bytesA (atD l (0:Int))),ai (atE l (0:Int))]))]] [.keep [3,2,0] [1005]] [yI (refat_ret l ((0:Int))),yI (valR_bytes (atD l (0:Int)))] ?_
 refine zR ?_
 refine zV [yR (bytesA (atD l (0:Int))),yR (Value.int .i64 (atE l (0:Int)))]
end Go.Proofs.YtejpabdmiagnnaaGreatDoor
