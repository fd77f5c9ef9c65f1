import Derived.Test.YtejpabdmiagnnaaGreatDoorZrV8
import Derived.Test.YtejpabdmiagnnaaGreatDoorZrSh1
set_option linter.all false
namespace Go.Proofs.YtejpabdmiagnnaaGreatDoor
open Go.RowKit
set_option maxRecDepth 100000
set_option maxHeartbeats 4000000
set_option linter.unusedVariables false
def shareC (p:Int×List UInt8):List AV:=[ai p.1,.sl 1 (bytesA p.2)]
def hst (rnd:List UInt8) (L j:Nat) (x:UInt8) (need:Nat):Nat->UInt8
 | 0=>0
 | m+1=>gmul (hst rnd L j x need m^^^rnd.getD ((need-1-m-1)*L+j) 0) x
def splitE (secret rnd:List UInt8) (need n:Int):Int :=
 if 64<secret.length then 8 else if need<1∨n<need∨255<n then 9 else if (rnd.length:Int)<(need-1)*secret.length then 1 else 0
def splitB (secret rnd:List UInt8) (need:Nat) (x:UInt8) (j:Nat):UInt8:=hst rnd secret.length j x need (need-1)^^^secret.getD j 0
def splitD (secret rnd:List UInt8) (need:Nat) (x:UInt8):List UInt8:=(List.range secret.length).map (splitB secret rnd need x)
def splitS (secret rnd:List UInt8) (need:Nat) (i:Nat):Int×List UInt8:=((i:Int)+1,splitD secret rnd need (u8 ((i:Int)+1)))
def splitL (secret rnd:List UInt8) (need n:Int):List (Int×List UInt8):=if splitE secret rnd need n=0 then (List.range n.toNat).map (splitS secret rnd need.toNat) else []
theorem split_ret (secret rnd:List UInt8) (need n:Int):Ret Tryz.prog 124 [.sl 1 (bytesA secret),.sl 1 (bytesA rnd),ai need,ai n] (.tup [.own 2 (encA shareC (splitL secret rnd need n)),ai (splitE secret rnd need n)]):=by
 refine zO Tryz.func124 96 ?_
 by_cases hl:64<secret.length
 ·have e1:splitE secret rnd need n=8:=by simp [splitE,hl]
  refine zQ 1 [{}] [] ?_
  refine zS ?_
  refine zP 1 [yH [(1,{k:=secret.length})]] [.keep [19,9,8,0,1,2,3] []] [yI (bytesA_len secret)] ?_
  refine zTd 19 ((↑secret.length:Int)>64) ?_
  refine zQ 1 [{}] [] ?_
  refine zR ?_
  refine then_r ?_
  refine zV [yB (encA shareC (splitL secret rnd need n)= []) (by rw [splitL,e1];rfl),yJ 8 (splitE secret rnd need n) (by rw [e1])]
 by_cases h1:need<1
 ·have e1:splitE secret rnd need n=9:=by simp [splitE,hl,h1]
  refine zQ 1 [{}] [] ?_
  refine zS ?_
  refine zP 1 [yH [(1,{k:=secret.length})]] [.keep [19,9,8,0,1,2,3] []] [yI (bytesA_len secret)] ?_
  refine zFd 19 ((↑secret.length:Int)>64) ?_
  refine zK ?_
  refine then_n ?_
  refine zS ?_
  refine zP 1 [{}] [.keep [30,19,9,8,0,1,2,3] []] [yT (need<1),yT (need<1),yT (need<1),yT (need<1),yR true,yR true,yR true] ?_
  refine zT 30 ?_
  refine zQ 1 [{}] [] ?_
  refine zR ?_
  refine then_r ?_
  refine zV [yB (encA shareC (splitL secret rnd need n)= []) (by rw [splitL,e1];rfl),yJ 9 (splitE secret rnd need n) (by rw [e1])]
 by_cases h2:n<need
 ·have e1:splitE secret rnd need n=9:=by simp [splitE,hl,h2]
  refine zQ 1 [{}] [] ?_
  refine zS ?_
  refine zP 1 [yH [(1,{k:=secret.length})]] [.keep [19,9,8,0,1,2,3] []] [yI (bytesA_len secret)] ?_
  refine zFd 19 ((↑secret.length:Int)>64) ?_
  refine zK ?_
  refine then_n ?_
  refine zS ?_
  refine zP 1 [yH [(3,{g:=false}),(4,{g:=false}),(5,{g:=false}),(6,{b:=false})]] [.keep [30,19,9,8,0,1,2,3] []] [yF (need<1),yF (need<1),yF (need<1),yF (need<1),yT (need>n),yT (need>n),yT (need>n)] ?_
  refine zT 30 ?_
  refine zQ 1 [{}] [] ?_
  refine zR ?_
  refine then_r ?_
  refine zV [yB (encA shareC (splitL secret rnd need n)= []) (by rw [splitL,e1];rfl),yJ 9 (splitE secret rnd need n) (by rw [e1])]
 by_cases h3:255<n
 ·have e1:splitE secret rnd need n=9:=by simp [splitE,hl,h3]
  refine zQ 1 [{}] [] ?_
  refine zS ?_
  refine zP 1 [yH [(1,{k:=secret.length})]] [.keep [19,9,8,0,1,2,3] []] [yI (bytesA_len secret)] ?_
  refine zFd 19 ((↑secret.length:Int)>64) ?_
  refine zK ?_
  refine then_n ?_
  refine zS ?_
  refine zP 1 [yH [(3,{g:=false}),(4,{g:=false}),(5,{g:=false}),(6,{b:=false}),(8,{g:=false}),(9,{g:=false}),(10,{b:=false})]] [.keep [30,19,9,8,0,1,2,3] []] [yF (need<1),yF (need<1),yF (need<1),yF (need<1),yF (need>n),yF (need>n),yF (need>n)] ?_
  refine zTd 30 (n>255) ?_
  refine zQ 1 [{}] [] ?_
  refine zR ?_
  refine then_r ?_
  refine zV [yB (encA shareC (splitL secret rnd need n)= []) (by rw [splitL,e1];rfl),yJ 9 (splitE secret rnd need n) (by rw [e1])]
 obtain ⟨N,rfl⟩:=Int.eq_ofNat_of_zero_le (by omega:0≤need)
 obtain ⟨M,rfl⟩:=Int.eq_ofNat_of_zero_le (by omega:0≤n)
 have hp:((N:Int)-1)*secret.length≤254*64:=Int.mul_le_mul (by omega) (by omega) (by omega) (by omega)
 have hp0:0≤((N:Int)-1)*secret.length:=Int.mul_nonneg (by omega) (by omega)
 by_cases h4:(rnd.length:Int)<((N:Int)-1)*secret.length
 ·have e1:splitE secret rnd N M=1:=by simp [splitE,hl,h1,h2,h3,h4]
  refine zQ 1 [{}] [] ?_
  refine zS ?_
  refine zP 1 [yH [(1,{k:=secret.length})]] [.keep [19,9,8,0,1,2,3] []] [yI (bytesA_len secret)] ?_
  refine zFd 19 ((↑secret.length:Int)>64) ?_
  refine zK ?_
  refine then_n ?_
  refine zS ?_
  refine zP 1 [yH [(3,{g:=false}),(4,{g:=false}),(5,{g:=false}),(6,{b:=false}),(8,{g:=false}),(9,{g:=false}),(10,{b:=false})]] [.keep [30,19,9,8,0,1,2,3] []] [yF ((↑N:Int)<1),yF ((↑N:Int)<1),yF ((↑N:Int)<1),yF ((↑N:Int)<1),yF ((↑N:Int)>(↑M:Int)),yF ((↑N:Int)>(↑M:Int)),yF ((↑N:Int)>(↑M:Int))] ?_
  refine zFd 30 ((↑M:Int)>255) ?_
  refine zK ?_
  refine then_n ?_
  refine zS ?_
  refine zP 1 [yH [(1,{k:=rnd.length}),(3,yV (ai ((↑N:Int)-1))),(5,{k:=secret.length}),(6,yV (ai (((↑N:Int)-1)*(↑secret.length:Int))))]] [.keep [38,30,19,9,8,0,1,2,3] []] [yI (bytesA_len rnd),yN ((↑N:Int)-1),yI (bytesA_len secret),yN (((↑N:Int)-1)*(↑secret.length:Int))] ?_
  refine zTd 38 ((↑rnd.length:Int)<((↑N:Int)-1)*(↑secret.length:Int)) ?_
  refine zQ 1 [{}] [] ?_
  refine zR ?_
  refine then_r ?_
  refine zV [yB (encA shareC (splitL secret rnd (↑N:Int) (↑M:Int))= []) (by rw [splitL,e1];rfl),yJ 1 (splitE secret rnd (↑N:Int) (↑M:Int)) (by rw [e1])]
 have e0:splitE secret rnd N M=0:=by simp [splitE,hl,h1,h2,h3,h4]
 refine zQ 1 [{}] [] ?_
 refine zS ?_
 refine zP 1 [yH [(1,{k:=secret.length})]] [.keep [19,9,8,0,1,2,3] []] [yI (bytesA_len secret)] ?_
 refine zFd 19 ((↑secret.length:Int)>64) ?_
 refine zK ?_
 refine then_n ?_
 refine zS ?_
 refine zP 1 [yH [(3,{g:=false}),(4,{g:=false}),(5,{g:=false}),(6,{b:=false}),(8,{g:=false}),(9,{g:=false}),(10,{b:=false})]] [.keep [30,19,9,8,0,1,2,3] []] [yF ((↑N:Int)<1),yF ((↑N:Int)<1),yF ((↑N:Int)<1),yF ((↑N:Int)<1),yF ((↑N:Int)>(↑M:Int)),yF ((↑N:Int)>(↑M:Int)),yF ((↑N:Int)>(↑M:Int))] ?_
 refine zFd 30 ((↑M:Int)>255) ?_
 refine zK ?_
 refine then_n ?_
 refine zS ?_
 refine zP 1 [yH [(1,{k:=rnd.length}),(3,yV (ai ((↑N:Int)-1))),(5,{k:=secret.length}),(6,yV (ai (((↑N:Int)-1)*(↑secret.length:Int))))]] [.keep [38,30,19,9,8,0,1,2,3] []] [yI (bytesA_len rnd),yN ((↑N:Int)-1),yI (bytesA_len secret),yN (((↑N:Int)-1)*(↑secret.length:Int))] ?_
 refine zFd 38 ((↑rnd.length:Int)<((↑N:Int)-1)*(↑secret.length:Int)) ?_
 refine zK ?_
 refine then_n ?_
 refine zQ 1 [yH [(1,{k:=M,m:=M})]] [yR (↑M:Int),yR (↑M:Int),yO (M≤M),yO ((32:Nat)*M≤(281474976710656:Nat)),yB (M≤maxLen) (by unfold maxLen;omega)] ?_
 refine zS ?_
 refine zP 1 [yH [(1,{k:=M})]] [.keep [43,42,10,38,30,19,9,8,0,1,2,3] [40]] [yB ((List.replicate M [ai 0,AV.nil]).flatten.length=M*(2:Nat)) (rep_len _ _)] ?_
 refine zB 0 ?_
 refine zL (fun (i:Nat)=>(⟨[(0,AV.sl 1 (bytesA secret)),(1,AV.sl 1 (bytesA rnd)),(2,ai (↑N:Int)),(3,ai (↑M:Int)),(10,AV.ref 40),(42,ai (↑M:Int)),(43,ai i)],[(40,⟨2,true,false,encA shareC ((List.range i).map (splitS secret rnd N))++(List.replicate (M-i) [ai 0,AV.nil]).flatten⟩)]⟩:AS)) (fun i=>(i≤M)) (fun i=>(M-i)) (0) ?_ (Weaks.of [.keep [0,1,2,3,10,42,43] [40]] (s1:=AS.mk [(0,AV.sl 1 (bytesA secret)),(1,AV.sl 1 (bytesA rnd)),(2,ai (↑N:Int)),(3,ai (↑M:Int)),(10,AV.ref 40),(42,ai (↑M:Int)),(43,ai 0)] [(40,Row.mk 2 true false (List.replicate M [ai 0,AV.nil]).flatten)]) (by kernel_rfl) (as_eq (f_cons rfl (f_cons rfl (f_cons rfl (f_cons rfl (f_cons rfl (f_cons rfl (f_cons (by simp) rfl))))))) (h_cons (by simp [encA]) rfl))) ?_
 ·omega
 intro i hi
 refine zQ 1 [{}] [] ?_
 refine zS ?_
 refine zD 44 ((↑i:Int)<(↑M:Int)) (fun hc=>?_) (fun hc=>?_)
 ·skip
  refine zK ?_
  refine then_n ?_
  refine zS ?_
  refine zB 1 ?_
  refine zP 3 [{},yH [(1,yV (ai ((↑i:Int)+1))),(2,yV (ab (u8 ((↑i:Int)+1))))],yH [(1,{k:=secret.length}),(2,{av:=some (AV.arr (bytesA (List.replicate secret.length 0))),k:=secret.length,m:=secret.length})]] [.keep [13,12,11,44,0,1,2,3,10,42,43] [51,40]] [yN ((↑i:Int)+1),yI (avb_conv ((↑i:Int)+1)),yI (bytesA_len secret),yB (List.replicate secret.length (AV.val (Value.int .u8 0))=bytesA (List.replicate secret.length 0)) (bytesA_rep _),yR (↑secret.length:Int),yR (↑secret.length:Int),yO (secret.length≤secret.length),yO ((1:Nat)*secret.length≤(281474976710656:Nat)),yB (secret.length≤maxLen) (by unfold maxLen;omega)] ?_
  refine zS ?_
  refine zQ 1 [yH [(1,{k:=secret.length})]] [yB ((bytesA (List.replicate secret.length 0)).length=secret.length) (by simp only [bytesA_len,List.length_replicate])] ?_
  refine zB 2 ?_
  refine zL (fun (j:Nat)=>(⟨[(0,AV.sl 1 (bytesA secret)),(1,AV.sl 1 (bytesA rnd)),(2,ai (↑N:Int)),(3,ai (↑M:Int)),(10,AV.ref 40),(11,ai (↑i:Int)),(12,ab (u8 ((↑i:Int)+1))),(13,AV.ref 51),(42,ai (↑M:Int)),(43,ai (↑i:Int)),(53,ai (↑secret.length:Int)),(54,ai j)],[(40,⟨2,true,false,encA shareC (List.map (splitS secret rnd N) (List.range i))++(List.replicate (M-i) [ai 0,AV.nil]).flatten⟩),(51,⟨1,true,false,bytesA ((List.range j).map (splitB secret rnd N (u8 (i+1)))++List.replicate (secret.length-j) 0)⟩)]⟩:AS)) (fun j=>(j≤secret.length)) (fun j=>(secret.length-j)) (0) ?_ (Weaks.of [.keep [0,1,2,3,10,11,12,13,42,43,53,54] [40,51]] (s1:=AS.mk [(0,AV.sl 1 (bytesA secret)),(1,AV.sl 1 (bytesA rnd)),(2,ai (↑N:Int)),(3,ai (↑M:Int)),(10,AV.ref 40),(11,ai (↑i:Int)),(12,ab (u8 ((↑i:Int)+1))),(13,AV.ref 51),(42,ai (↑M:Int)),(43,ai (↑i:Int)),(53,ai (↑secret.length:Int)),(54,ai 0)] [(40,Row.mk 2 true false (encA shareC (List.map (splitS secret rnd N) (List.range i))++(List.replicate (M-i) [ai 0,AV.nil]).flatten)),(51,Row.mk 1 true false (bytesA (List.replicate secret.length 0)))]) (by kernel_rfl) (as_eq (f_cons rfl (f_cons rfl (f_cons rfl (f_cons rfl (f_cons rfl (f_cons rfl (f_cons rfl (f_cons rfl (f_cons rfl (f_cons rfl (f_cons rfl (f_cons (by simp) rfl)))))))))))) (h_cons rfl (h_cons (by simp) rfl)))) ?_
  ·omega
  intro j hj
  refine zQ 1 [{}] [] ?_
  refine zS ?_
  refine zD 55 ((↑j:Int)<(↑secret.length:Int)) (fun h5=>?_) (fun h5=>?_)
  ·skip
   refine zK ?_
   refine then_n ?_
   refine zS ?_
   refine zB 3 ?_
   refine zQ 2 [{},{}] [] ?_
   refine zS ?_
   refine zP 1 [yH [(1,yV (ai ((↑N:Int)-1)))]] [.keep [16,15,14,55,0,1,2,3,10,11,12,13,42,43,53,54] [40,51]] [yN ((↑N:Int)-1)] ?_
   refine zB 4 ?_
   refine zL (fun (m:Nat)=>(⟨[(0,AV.sl 1 (bytesA secret)),(1,AV.sl 1 (bytesA rnd)),(2,ai (↑N:Int)),(3,ai (↑M:Int)),(10,AV.ref 40),(11,ai (↑i:Int)),(12,ab (u8 ((↑i:Int)+1))),(13,AV.ref 51),(14,ai (↑j:Int)),(15,ab (hst rnd secret.length j (u8 (i+1)) N m)),(16,ai ((N:Int)-1-m)),(42,ai (↑M:Int)),(43,ai (↑i:Int)),(53,ai (↑secret.length:Int)),(54,ai (↑j:Int))],[(40,⟨2,true,false,encA shareC (List.map (splitS secret rnd N) (List.range i))++(List.replicate (M-i) [ai 0,AV.nil]).flatten⟩),(51,⟨1,true,false,bytesA (List.map (splitB secret rnd N (u8 ((↑i:Int)+1))) (List.range j)++List.replicate (secret.length-j) 0)⟩)]⟩:AS)) (fun m=>(m≤N-1)) (fun m=>(N-1-m)) (0) ?_ (Weaks.of [.keep [0,1,2,3,10,11,12,13,14,15,16,42,43,53,54] [40,51]] (s1:=AS.mk [(0,AV.sl 1 (bytesA secret)),(1,AV.sl 1 (bytesA rnd)),(2,ai (↑N:Int)),(3,ai (↑M:Int)),(10,AV.ref 40),(11,ai (↑i:Int)),(12,ab (u8 ((↑i:Int)+1))),(13,AV.ref 51),(14,ai (↑j:Int)),(15,AV.val (Value.int .u8 0)),(16,ai ((↑N:Int)-1)),(42,ai (↑M:Int)),(43,ai (↑i:Int)),(53,ai (↑secret.length:Int)),(54,ai (↑j:Int))] [(40,Row.mk 2 true false (encA shareC (List.map (splitS secret rnd N) (List.range i))++(List.replicate (M-i) [ai 0,AV.nil]).flatten)),(51,Row.mk 1 true false (bytesA (List.map (splitB secret rnd N (u8 ((↑i:Int)+1))) (List.range j)++List.replicate (secret.length-j) 0)))]) (by kernel_rfl) (as_eq (f_cons rfl (f_cons rfl (f_cons rfl (f_cons rfl (f_cons rfl (f_cons rfl (f_cons rfl (f_cons rfl (f_cons rfl (f_cons rfl (f_cons (by rw [Int.natCast_zero,Int.sub_zero]) (f_cons rfl (f_cons rfl (f_cons rfl (f_cons rfl rfl))))))))))))))) (h_cons rfl (h_cons rfl rfl)))) ?_
   ·omega
   intro m hm
   refine zS ?_
   refine zP 1 [{}] [.keep [60,0,1,2,3,10,11,12,13,14,15,16,42,43,53,54] [40,51]] [] ?_
   refine zD 60 ((↑N:Int)-1-(↑m:Int)≥1) (fun h6=>?_) (fun h6=>?_)
   ·have hN:N-1-m-1+1≤N-1:=by omega
    have hk:((N:Int)-1-m-1)*secret.length+j=(((N-1-m-1)*secret.length+j:Nat):Int):=by
     rw [Int.natCast_add,Int.natCast_mul,show ((N-1-m-1:Nat):Int)=(N:Int)-1-m-1 by omega]
    have hb:=Nat.mul_le_mul_right secret.length hN
    rw [Nat.add_mul,Nat.one_mul] at hb
    have hc1:(((N-1)*secret.length:Nat):Int)=((N:Int)-1)*secret.length:=by rw [Int.natCast_mul,show ((N-1:Nat):Int)=(N:Int)-1 by omega]
    have hlt:(N-1-m-1)*secret.length+j<rnd.length:=by omega
    have hq:((N:Int)-1-m-1)*secret.length=(((N-1-m-1)*secret.length:Nat):Int):=by omega
    refine zK ?_
    refine then_n ?_
    refine zS ?_
    refine zB 5 ?_
    refine zX (yH [(3,yV (ai ((↑N:Int)-1-(↑m:Int)-1))),(5,{k:=secret.length}),(6,yV (ai (((↑N:Int)-1-(↑m:Int)-1)*(↑secret.length:Int)))),(8,yV (ai (((↑N:Int)-1-(↑m:Int)-1)*(↑secret.length:Int)+(↑j:Int)))),(9,{k:=(N-(1:Nat)-m-(1:Nat))*secret.length+j}),(10,yV (ab (rnd.getD ((N-(1:Nat)-m-(1:Nat))*secret.length+j) 0))),(11,yV (ab (hst rnd secret.length j (u8 ((↑i:Int)+1)) N m^^^rnd.getD ((N-(1:Nat)-m-(1:Nat))*secret.length+j) 0))),(13,yV (ab (gmul (hst rnd secret.length j (u8 ((↑i:Int)+1)) N m^^^rnd.getD ((N-(1:Nat)-m-(1:Nat))*secret.length+j) 0) (u8 ((↑i:Int)+1)))))]) [yN ((↑N:Int)-1-(↑m:Int)-1),yI (bytesA_len secret),yN (((↑N:Int)-1-(↑m:Int)-1)*(↑secret.length:Int)),yN (((↑N:Int)-1-(↑m:Int)-1)*(↑secret.length:Int)+(↑j:Int)),yB (((↑N:Int)-1-(↑m:Int)-1)*(↑secret.length:Int)+(↑j:Int)=(↑((N-(1:Nat)-m-(1:Nat))*secret.length+j):Int)) (by assumption),yB ((N-(1:Nat)-m-(1:Nat))*secret.length+j<(bytesA rnd).length) (by simp only [bytesA_len];omega),yB ((bytesA rnd)[(N-(1:Nat)-m-(1:Nat))*secret.length+j]?=some (ab (rnd.getD ((N-(1:Nat)-m-(1:Nat))*secret.length+j) 0))) (bytesA_at (by omega)),yI (avb_xor (hst rnd secret.length j (u8 ((↑i:Int)+1)) N m) (rnd.getD ((N-(1:Nat)-m-(1:Nat))*secret.length+j) 0)),yI (mul_ret (hst rnd secret.length j (u8 ((↑i:Int)+1)) N m^^^rnd.getD ((N-(1:Nat)-m-(1:Nat))*secret.length+j) 0) (u8 ((↑i:Int)+1)))] ?_
    refine inb_n ?_
    refine then_n ?_
    refine zX (yH [(1,yV (ai ((↑N:Int)-1-(↑m:Int)-1)))]) [yN ((↑N:Int)-1-(↑m:Int)-1)] ?_
    refine round_n (m+1) (by omega) (by omega) (Weaks.of [.keep [0,1,2,3,10,11,12,13,14,15,16,42,43,53,54] [40,51]] (s1:=AS.mk [(0,AV.sl 1 (bytesA secret)),(1,AV.sl 1 (bytesA rnd)),(2,ai (↑N:Int)),(3,ai (↑M:Int)),(10,AV.ref 40),(11,ai (↑i:Int)),(12,ab (u8 ((↑i:Int)+1))),(13,AV.ref 51),(14,ai (↑j:Int)),(15,ab (gmul (hst rnd secret.length j (u8 ((↑i:Int)+1)) N m^^^rnd.getD ((N-(1:Nat)-m-(1:Nat))*secret.length+j) 0) (u8 ((↑i:Int)+1)))),(16,ai ((↑N:Int)-1-(↑m:Int)-1)),(42,ai (↑M:Int)),(43,ai (↑i:Int)),(53,ai (↑secret.length:Int)),(54,ai (↑j:Int))] [(40,Row.mk 2 true false (encA shareC (List.map (splitS secret rnd N) (List.range i))++(List.replicate (M-i) [ai 0,AV.nil]).flatten)),(51,Row.mk 1 true false (bytesA (List.map (splitB secret rnd N (u8 ((↑i:Int)+1))) (List.range j)++List.replicate (secret.length-j) 0)))]) (by kernel_rfl) (as_eq (f_cons rfl (f_cons rfl (f_cons rfl (f_cons rfl (f_cons rfl (f_cons rfl (f_cons rfl (f_cons rfl (f_cons rfl (f_cons (by simp only [hst]) (f_cons (congrArg (fun n=>AV.val (.int .i64 n)) (by omega)) (f_cons rfl (f_cons rfl (f_cons rfl (f_cons rfl rfl))))))))))))))) (h_cons rfl (h_cons rfl rfl))))
   ·have e6:m=N-1:=by omega
    subst e6
    refine zE 4 ?_
    refine then_e ?_
    refine round_e ?_
    refine inb_e ?_
    refine then_n ?_
    refine zX (yH [(5,{k:=j}),(6,yV (ab (secret.getD j 0))),(7,yV (ab (hst rnd secret.length j (u8 ((↑i:Int)+1)) N (N-(1:Nat))^^^secret.getD j 0))),(8,{k:=j}),(9,yV (AV.arr (bytesA ((List.map (splitB secret rnd N (u8 ((↑i:Int)+1))) (List.range j)++List.replicate (secret.length-j) 0).set j (hst rnd secret.length j (u8 ((↑i:Int)+1)) N (N-(1:Nat))^^^secret.getD j 0)))))]) [yR (↑j:Int),yB (j<(bytesA secret).length) (by simp only [bytesA_len];omega),yB ((bytesA secret)[j]?=some (ab (secret.getD j 0))) (bytesA_at (by omega)),yI (avb_xor (hst rnd secret.length j (u8 ((↑i:Int)+1)) N (N-(1:Nat))) (secret.getD j 0)),yR (↑j:Int),yB (j<(bytesA (List.map (splitB secret rnd N (u8 ((↑i:Int)+1))) (List.range j)++List.replicate (secret.length-j) 0)).length) (by simp only [bytesA_len,List.length_append,List.length_replicate,List.length_map,List.length_range];omega),yB ((bytesA (List.map (splitB secret rnd N (u8 ((↑i:Int)+1))) (List.range j)++List.replicate (secret.length-j) 0)).set j (ab (hst rnd secret.length j (u8 ((↑i:Int)+1)) N (N-(1:Nat))^^^secret.getD j 0))=bytesA ((List.map (splitB secret rnd N (u8 ((↑i:Int)+1))) (List.range j)++List.replicate (secret.length-j) 0).set j (hst rnd secret.length j (u8 ((↑i:Int)+1)) N (N-(1:Nat))^^^secret.getD j 0))) (bytesA_set _ _ _),yB (j+(1:Nat)≤(bytesA (List.map (splitB secret rnd N (u8 ((↑i:Int)+1))) (List.range j)++List.replicate (secret.length-j) 0)).length) (by simp only [bytesA_len,List.length_append,List.length_replicate,List.length_map,List.length_range];omega)] ?_
    refine inb_n ?_
    refine then_n ?_
    refine zX (yH [(0,yV (ai ((↑j:Int)+1)))]) [yN ((↑j:Int)+1)] ?_
    refine round_n (j+1) (by omega) (by omega) (Weaks.of [.keep [0,1,2,3,10,11,12,13,42,43,53,54] [40,51]] (s1:=AS.mk [(0,AV.sl 1 (bytesA secret)),(1,AV.sl 1 (bytesA rnd)),(2,ai (↑N:Int)),(3,ai (↑M:Int)),(10,AV.ref 40),(11,ai (↑i:Int)),(12,ab (u8 ((↑i:Int)+1))),(13,AV.ref 51),(42,ai (↑M:Int)),(43,ai (↑i:Int)),(53,ai (↑secret.length:Int)),(54,ai ((↑j:Int)+1))] [(40,Row.mk 2 true false (encA shareC (List.map (splitS secret rnd N) (List.range i))++(List.replicate (M-i) [ai 0,AV.nil]).flatten)),(51,Row.mk 1 true false (bytesA ((List.map (splitB secret rnd N (u8 ((↑i:Int)+1))) (List.range j)++List.replicate (secret.length-j) 0).set j (hst rnd secret.length j (u8 ((↑i:Int)+1)) N (N-(1:Nat))^^^secret.getD j 0))))]) (by kernel_rfl) (as_eq (f_cons rfl (f_cons rfl (f_cons rfl (f_cons rfl (f_cons rfl (f_cons rfl (f_cons rfl (f_cons rfl (f_cons rfl (f_cons rfl (f_cons rfl (f_cons rfl rfl)))))))))))) (h_cons rfl (h_cons (congrArg bytesA (range_fill (splitB secret rnd N (u8 (i+1))) 0 (by omega))) rfl))))
  ·have e6:j=secret.length:=by omega
   subst e6
   refine zE 2 ?_
   refine then_e ?_
   refine round_e ?_
   refine inb_e ?_
   refine then_n ?_
   refine zX (yH [(3,yV (ai ((↑i:Int)+1))),(6,{k:=i})]) [yN ((↑i:Int)+1),yR (↑i:Int),yB (i*(2:Nat)<(encA shareC (List.map (splitS secret rnd N) (List.range i))++(List.replicate (M-i) [ai 0,AV.nil]).flatten).length) (by simp only [List.length_append,List.length_cons,List.length_nil,List.length_map,List.length_range,rep_len,rep_len,encA_len (f:=shareC) (e:=2) (fun _=>rfl)];omega),yB (i*(2:Nat)+(2:Nat)≤(encA shareC (List.map (splitS secret rnd N) (List.range i))++(List.replicate (M-i) [ai 0,AV.nil]).flatten).length) (by simp only [List.length_append,List.length_cons,List.length_nil,List.length_map,List.length_range,rep_len,rep_len,encA_len (f:=shareC) (e:=2) (fun _=>rfl)];omega)] ?_
   refine inb_n ?_
   refine then_n ?_
   refine zX (yH [(0,yV (ai ((↑i:Int)+1)))]) [yN ((↑i:Int)+1)] ?_
   refine round_n (i+1) (by omega) (by omega) (Weaks.of [.keep [0,1,2,3,10,42,43] [40]] (s1:=AS.mk [(0,AV.sl 1 (bytesA secret)),(1,AV.sl 1 (bytesA rnd)),(2,ai (↑N:Int)),(3,ai (↑M:Int)),(10,AV.ref 40),(42,ai (↑M:Int)),(43,ai ((↑i:Int)+1))] [(40,Row.mk 2 true false (List.take (i*(2:Nat)) (encA shareC (List.map (splitS secret rnd N) (List.range i))++(List.replicate (M-i) [ai 0,AV.nil]).flatten)++ [ai ((↑i:Int)+1),AV.sl 1 (bytesA (List.map (splitB secret rnd N (u8 ((↑i:Int)+1))) (List.range secret.length)++List.replicate (secret.length-secret.length) 0))]++List.drop (i*(2:Nat)+(2:Nat)) (encA shareC (List.map (splitS secret rnd N) (List.range i))++(List.replicate (M-i) [ai 0,AV.nil]).flatten)))]) (by kernel_rfl) (as_eq (f_cons rfl (f_cons rfl (f_cons rfl (f_cons rfl (f_cons rfl (f_cons rfl (f_cons rfl rfl))))))) (h_cons (by rw [Nat.sub_self,List.replicate_zero,List.append_nil];exact enc_fill (f:=shareC) (e:=2) (fun _=>rfl) [ai 0,AV.nil] rfl (splitS secret rnd N) (show i<M by omega)) rfl)))
 ·have e8:i=M:=by omega
  subst e8
  refine zE 0 ?_
  refine then_e ?_
  refine round_e ?_
  refine inb_e ?_
  refine then_n ?_
  refine zQ 1 [{}] [] ?_
  refine zR ?_
  refine zV [yB (encA shareC (List.map (splitS secret rnd N) (List.range i))++(List.replicate (i-i) [ai 0,AV.nil]).flatten=encA shareC (splitL secret rnd (↑N:Int) (↑i:Int))) (by simp [splitL,e0]),yJ 0 (splitE secret rnd (↑N:Int) (↑i:Int)) (by rw [e0])]
end Go.Proofs.YtejpabdmiagnnaaGreatDoor
