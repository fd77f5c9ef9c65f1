import Derived.Test.YtejpabdmiagnnaaGreatDoorZrV8
import Derived.Test.YtejpabdmiagnnaaGreatDoorZrSh6
set_option linter.all false
namespace Go.Proofs.YtejpabdmiagnnaaGreatDoor
open Go.RowKit
set_option maxRecDepth 100000
set_option maxHeartbeats 4000000
set_option linter.unusedVariables false
theorem refsplit_raw (secret rnd:List UInt8) (need n:Int):Ret Tryz.prog 103 [.sl 1 (bytesA secret),.sl 1 (bytesA rnd),ai need,ai n] (.tup [.own 2 (encA shareC (rsplitL secret rnd need n)),ai (splitE secret rnd need n)]):=by
 refine zO Tryz.func103 91 ?_
 by_cases hl:64<secret.length
 ·have e1:splitE secret rnd need n=8:=by simp [splitE,hl]
  refine zQ 1 [{}] [] ?_
  refine zS ?_
  refine zB 0 ?_
  refine zP 1 [yH [(1,{k:=secret.length})]] [.keep [17,9,8,0,1,2,3] []] [yI (bytesA_len secret)] ?_
  refine zTd 17 ((↑secret.length:Int)>64) ?_
  refine zQ 1 [{}] [] ?_
  refine zR ?_
  refine inb_r ?_
  refine then_r ?_
  refine zV [yB (encA shareC (rsplitL secret rnd need n)= []) (by rw [rsplitL,e1];rfl),yJ 8 (splitE secret rnd need n) (by rw [e1])]
 by_cases h1:need<1
 ·have e1:splitE secret rnd need n=9:=by simp [splitE,hl,h1]
  refine zQ 1 [{}] [] ?_
  refine zS ?_
  refine zB 0 ?_
  refine zP 1 [yH [(1,{k:=secret.length})]] [.keep [17,9,8,0,1,2,3] []] [yI (bytesA_len secret)] ?_
  refine zFd 17 ((↑secret.length:Int)>64) ?_
  refine zP 1 [{}] [.keep [21,17,9,8,0,1,2,3] []] [yT (need<1),yT (need<1),yT (need<1),yT (need<1),yR true,yR true,yR true] ?_
  refine zT 21 ?_
  refine zQ 1 [{}] [] ?_
  refine zR ?_
  refine inb_r ?_
  refine then_r ?_
  refine zV [yB (encA shareC (rsplitL secret rnd need n)= []) (by rw [rsplitL,e1];rfl),yJ 9 (splitE secret rnd need n) (by rw [e1])]
 by_cases h2:n<need
 ·have e1:splitE secret rnd need n=9:=by simp [splitE,hl,h2]
  refine zQ 1 [{}] [] ?_
  refine zS ?_
  refine zB 0 ?_
  refine zP 1 [yH [(1,{k:=secret.length})]] [.keep [17,9,8,0,1,2,3] []] [yI (bytesA_len secret)] ?_
  refine zFd 17 ((↑secret.length:Int)>64) ?_
  refine zP 1 [yH [(3,{g:=false}),(4,{g:=false}),(5,{g:=false}),(6,{b:=false})]] [.keep [21,17,9,8,0,1,2,3] []] [yF (need<1),yF (need<1),yF (need<1),yF (need<1),yT (n<need),yT (n<need),yT (n<need)] ?_
  refine zT 21 ?_
  refine zQ 1 [{}] [] ?_
  refine zR ?_
  refine inb_r ?_
  refine then_r ?_
  refine zV [yB (encA shareC (rsplitL secret rnd need n)= []) (by rw [rsplitL,e1];rfl),yJ 9 (splitE secret rnd need n) (by rw [e1])]
 by_cases h3:255<n
 ·have e1:splitE secret rnd need n=9:=by simp [splitE,hl,h3]
  refine zQ 1 [{}] [] ?_
  refine zS ?_
  refine zB 0 ?_
  refine zP 1 [yH [(1,{k:=secret.length})]] [.keep [17,9,8,0,1,2,3] []] [yI (bytesA_len secret)] ?_
  refine zFd 17 ((↑secret.length:Int)>64) ?_
  refine zP 1 [yH [(3,{g:=false}),(4,{g:=false}),(5,{g:=false}),(6,{b:=false}),(8,{g:=false}),(9,{g:=false}),(10,{b:=false})]] [.keep [21,17,9,8,0,1,2,3] []] [yF (need<1),yF (need<1),yF (need<1),yF (need<1),yF (n<need),yF (n<need),yF (n<need)] ?_
  refine zTd 21 (n>255) ?_
  refine zQ 1 [{}] [] ?_
  refine zR ?_
  refine inb_r ?_
  refine then_r ?_
  refine zV [yB (encA shareC (rsplitL secret rnd need n)= []) (by rw [rsplitL,e1];rfl),yJ 9 (splitE secret rnd need n) (by rw [e1])]
 obtain ⟨N,rfl⟩:=Int.eq_ofNat_of_zero_le (by omega:0≤need)
 obtain ⟨M,rfl⟩:=Int.eq_ofNat_of_zero_le (by omega:0≤n)
 have hp:((N:Int)-1)*secret.length≤254*64:=Int.mul_le_mul (by omega) (by omega) (by omega) (by omega)
 have hp0:0≤((N:Int)-1)*secret.length:=Int.mul_nonneg (by omega) (by omega)
 by_cases h4:(rnd.length:Int)<((N:Int)-1)*secret.length
 ·have e1:splitE secret rnd N M=1:=by simp [splitE,hl,h1,h2,h3,h4]
  refine zQ 1 [{}] [] ?_
  refine zS ?_
  refine zB 0 ?_
  refine zP 1 [yH [(1,{k:=secret.length})]] [.keep [17,9,8,0,1,2,3] []] [yI (bytesA_len secret)] ?_
  refine zFd 17 ((↑secret.length:Int)>64) ?_
  refine zP 1 [yH [(3,{g:=false}),(4,{g:=false}),(5,{g:=false}),(6,{b:=false}),(8,{g:=false}),(9,{g:=false}),(10,{b:=false})]] [.keep [21,17,9,8,0,1,2,3] []] [yF ((↑N:Int)<1),yF ((↑N:Int)<1),yF ((↑N:Int)<1),yF ((↑N:Int)<1),yF ((↑M:Int)<(↑N:Int)),yF ((↑M:Int)<(↑N:Int)),yF ((↑M:Int)<(↑N:Int))] ?_
  refine zFd 21 ((↑M:Int)>255) ?_
  refine zP 1 [yH [(1,{k:=rnd.length}),(3,yV (ai ((↑N:Int)-1))),(5,{k:=secret.length}),(6,yV (ai (((↑N:Int)-1)*(↑secret.length:Int))))]] [.keep [33,21,17,9,8,0,1,2,3] []] [yI (bytesA_len rnd),yN ((↑N:Int)-1),yI (bytesA_len secret),yN (((↑N:Int)-1)*(↑secret.length:Int))] ?_
  refine zTd 33 ((↑rnd.length:Int)<((↑N:Int)-1)*(↑secret.length:Int)) ?_
  refine zQ 1 [{}] [] ?_
  refine zR ?_
  refine inb_r ?_
  refine then_r ?_
  refine zV [yB (encA shareC (rsplitL secret rnd (↑N:Int) (↑M:Int))= []) (by rw [rsplitL,e1];rfl),yJ 1 (splitE secret rnd (↑N:Int) (↑M:Int)) (by rw [e1])]
 have e0:splitE secret rnd N M=0:=by simp [splitE,hl,h1,h2,h3,h4]
 refine zQ 1 [{}] [] ?_
 refine zS ?_
 refine zB 0 ?_
 refine zP 1 [yH [(1,{k:=secret.length})]] [.keep [17,9,8,0,1,2,3] []] [yI (bytesA_len secret)] ?_
 refine zFd 17 ((↑secret.length:Int)>64) ?_
 refine zP 1 [yH [(3,{g:=false}),(4,{g:=false}),(5,{g:=false}),(6,{b:=false}),(8,{g:=false}),(9,{g:=false}),(10,{b:=false})]] [.keep [21,17,9,8,0,1,2,3] []] [yF ((↑N:Int)<1),yF ((↑N:Int)<1),yF ((↑N:Int)<1),yF ((↑N:Int)<1),yF ((↑M:Int)<(↑N:Int)),yF ((↑M:Int)<(↑N:Int)),yF ((↑M:Int)<(↑N:Int))] ?_
 refine zFd 21 ((↑M:Int)>255) ?_
 refine zP 1 [yH [(1,{k:=rnd.length}),(3,yV (ai ((↑N:Int)-1))),(5,{k:=secret.length}),(6,yV (ai (((↑N:Int)-1)*(↑secret.length:Int))))]] [.keep [33,21,17,9,8,0,1,2,3] []] [yI (bytesA_len rnd),yN ((↑N:Int)-1),yI (bytesA_len secret),yN (((↑N:Int)-1)*(↑secret.length:Int))] ?_
 refine zFd 33 ((↑rnd.length:Int)<((↑N:Int)-1)*(↑secret.length:Int)) ?_
 refine zK ?_
 refine inb_n ?_
 refine then_n ?_
 refine zQ 1 [{}] [] ?_
 refine zS ?_
 refine zQ 1 [{}] [] ?_
 refine zB 1 ?_
 refine zL (fun (i:Nat)=>(⟨[(0,AV.sl 1 (bytesA secret)),(1,AV.sl 1 (bytesA rnd)),(2,ai (↑N:Int)),(3,ai (↑M:Int)),(10,AV.ref 89),(11,ai ((i:Int)+1))],[(89,⟨2,true,false,encA shareC ((List.range i).map (rsplitS secret rnd N))⟩)]⟩:AS)) (fun i=>(i≤M)) (fun i=>(M-i)) (0) ?_ (Weaks.of [.nil 10 89 2,.keep [0,1,2,3,10,11] [89]] (s1:=AS.mk [(0,AV.sl 1 (bytesA secret)),(1,AV.sl 1 (bytesA rnd)),(2,ai (↑N:Int)),(3,ai (↑M:Int)),(10,AV.ref 89),(11,ai 1)] [(89,Row.mk 2 true false [])]) (by kernel_rfl) (as_eq (f_cons rfl (f_cons rfl (f_cons rfl (f_cons rfl (f_cons rfl (f_cons (by simp) rfl)))))) (h_cons rfl rfl))) ?_
 ·omega
 intro i hi
 refine zS ?_
 refine zP 1 [{}] [.keep [44,0,1,2,3,10,11] [89]] [] ?_
 refine zD 44 ((↑i:Int)+1≤(↑M:Int)) (fun hc=>?_) (fun hc=>?_)
 ·skip
  refine zK ?_
  refine then_n ?_
  refine zS ?_
  refine zB 2 ?_
  refine zQ 1 [{}] [] ?_
  refine zS ?_
  refine zQ 1 [{}] [] ?_
  refine zB 3 ?_
  refine zL (fun (j:Nat)=>(⟨[(0,AV.sl 1 (bytesA secret)),(1,AV.sl 1 (bytesA rnd)),(2,ai (↑N:Int)),(3,ai (↑M:Int)),(10,AV.ref 89),(11,ai ((↑i:Int)+1)),(12,AV.ref 83),(13,ai j)],[(89,⟨2,true,false,encA shareC (List.map (rsplitS secret rnd N) (List.range i))⟩),(83,⟨1,true,false,bytesA ((List.range j).map (rsplitB secret rnd N (u8 (i+1))))⟩)]⟩:AS)) (fun j=>(j≤secret.length)) (fun j=>(secret.length-j)) (0) ?_ (Weaks.of [.nil 12 83 1,.keep [0,1,2,3,10,11,12,13] [89,83]] (s1:=AS.mk [(0,AV.sl 1 (bytesA secret)),(1,AV.sl 1 (bytesA rnd)),(2,ai (↑N:Int)),(3,ai (↑M:Int)),(10,AV.ref 89),(11,ai ((↑i:Int)+1)),(12,AV.ref 83),(13,ai 0)] [(89,Row.mk 2 true false (encA shareC (List.map (rsplitS secret rnd N) (List.range i)))),(83,Row.mk 1 true false [])]) (by kernel_rfl) (as_eq (f_cons rfl (f_cons rfl (f_cons rfl (f_cons rfl (f_cons rfl (f_cons rfl (f_cons rfl (f_cons (by simp) rfl)))))))) (h_cons rfl (h_cons rfl rfl)))) ?_
  ·omega
  intro j hj
  refine zS ?_
  refine zP 1 [yH [(2,{k:=secret.length})]] [.keep [50,0,1,2,3,10,11,12,13] [89,83]] [yI (bytesA_len secret)] ?_
  refine zD 50 ((↑j:Int)<(↑secret.length:Int)) (fun h5=>?_) (fun h5=>?_)
  ·skip
   refine zK ?_
   refine then_n ?_
   refine zS ?_
   refine zB 4 ?_
   refine zP 1 [yH [(2,{k:=j}),(3,yV (ab (secret.getD j 0)))]] [.keep [15,14,50,0,1,2,3,10,11,12,13] [89,83]] [yR (↑j:Int),yB (j<(bytesA secret).length) (by simp only [bytesA_len];omega),yB ((bytesA secret)[j]?=some (ab (secret.getD j 0))) (bytesA_at (by omega))] ?_
   refine zS ?_
   refine zQ 1 [{}] [] ?_
   refine zB 5 ?_
   refine zL (fun (d:Nat)=>(⟨[(0,AV.sl 1 (bytesA secret)),(1,AV.sl 1 (bytesA rnd)),(2,ai (↑N:Int)),(3,ai (↑M:Int)),(10,AV.ref 89),(11,ai ((↑i:Int)+1)),(12,AV.ref 83),(13,ai (↑j:Int)),(14,ab (pst rnd secret.length j (u8 (i+1)) (secret.getD j 0) d).1),(15,ab (pst rnd secret.length j (u8 (i+1)) (secret.getD j 0) d).2),(16,ai ((d:Int)+1))],[(89,⟨2,true,false,encA shareC (List.map (rsplitS secret rnd N) (List.range i))⟩),(83,⟨1,true,false,bytesA (List.map (rsplitB secret rnd N (u8 ((↑i:Int)+1))) (List.range j))⟩)]⟩:AS)) (fun d=>(d≤N-1)) (fun d=>(N-1-d)) (0) ?_ (zW [.keep [0,1,2,3,10,11,12,13,14,15,16] [89,83]]) ?_
   ·omega
   intro d hd
   refine zS ?_
   refine zP 1 [{}] [.keep [59,0,1,2,3,10,11,12,13,14,15,16] [89,83]] [] ?_
   refine zD 59 ((↑d:Int)+1<(↑N:Int)) (fun h6=>?_) (fun h6=>?_)
   ·have hN:d+1≤N-1:=by omega
    have hk:((d:Int)+1-1)*secret.length=((d*secret.length:Nat):Int):=by
     rw [Int.natCast_mul,show (d:Int)+1-1=d by omega]
    have hb:=Nat.mul_le_mul_right secret.length hN
    rw [Nat.add_mul,Nat.one_mul] at hb
    have hc1:(((N-1)*secret.length:Nat):Int)=((N:Int)-1)*secret.length:=by rw [Int.natCast_mul,show ((N-1:Nat):Int)=(N:Int)-1 by omega]
    have hd1:d+1-1=d:=by omega
    have hk2:((d:Int)+1-1)*secret.length+j=(((d+1-1)*secret.length+j:Nat):Int):=by rw [hk,hd1];omega
    have hlt:(d+1-1)*secret.length+j<rnd.length:=by rw [hd1];omega
    refine zK ?_
    refine then_n ?_
    refine zS ?_
    refine zB 6 ?_
    refine zP 1 [yH [(2,yV (ab (u8 ((↑i:Int)+1)))),(3,yV (ab (rgmul (pst rnd secret.length j (u8 ((↑i:Int)+1)) (secret.getD j 0) d).snd (u8 ((↑i:Int)+1)))))]] [.keep [15,59,0,1,2,3,10,11,12,13,14,16] [89,83]] [yI (avb_conv ((↑i:Int)+1)),yI (refmul_ret ((pst rnd secret.length j (u8 ((↑i:Int)+1)) (secret.getD j 0) d).snd) (u8 ((↑i:Int)+1)))] ?_
    refine zX (yH [(3,yV (ai ((↑d:Int)+1-1))),(5,{k:=secret.length}),(6,yV (ai (((↑d:Int)+1-1)*(↑secret.length:Int)))),(8,yV (ai (((↑d:Int)+1-1)*(↑secret.length:Int)+(↑j:Int)))),(9,{k:=(d+(1:Nat)-(1:Nat))*secret.length+j}),(10,yV (ab (rnd.getD ((d+(1:Nat)-(1:Nat))*secret.length+j) 0))),(12,yV (ab (rgmul (rnd.getD ((d+(1:Nat)-(1:Nat))*secret.length+j) 0) (rgmul (pst rnd secret.length j (u8 ((↑i:Int)+1)) (secret.getD j 0) d).snd (u8 ((↑i:Int)+1)))))),(13,yV (ab ((pst rnd secret.length j (u8 ((↑i:Int)+1)) (secret.getD j 0) d).fst^^^rgmul (rnd.getD ((d+(1:Nat)-(1:Nat))*secret.length+j) 0) (rgmul (pst rnd secret.length j (u8 ((↑i:Int)+1)) (secret.getD j 0) d).snd (u8 ((↑i:Int)+1))))))]) [yN ((↑d:Int)+1-1),yI (bytesA_len secret),yN (((↑d:Int)+1-1)*(↑secret.length:Int)),yN (((↑d:Int)+1-1)*(↑secret.length:Int)+(↑j:Int)),yB (((↑d:Int)+1-1)*(↑secret.length:Int)+(↑j:Int)=(↑((d+(1:Nat)-(1:Nat))*secret.length+j):Int)) (by assumption),yB ((d+(1:Nat)-(1:Nat))*secret.length+j<(bytesA rnd).length) (by simp only [bytesA_len];omega),yB ((bytesA rnd)[(d+(1:Nat)-(1:Nat))*secret.length+j]?=some (ab (rnd.getD ((d+(1:Nat)-(1:Nat))*secret.length+j) 0))) (bytesA_at (by omega)),yI (refmul_ret (rnd.getD ((d+(1:Nat)-(1:Nat))*secret.length+j) 0) (rgmul (pst rnd secret.length j (u8 ((↑i:Int)+1)) (secret.getD j 0) d).snd (u8 ((↑i:Int)+1)))),yI (avb_xor ((pst rnd secret.length j (u8 ((↑i:Int)+1)) (secret.getD j 0) d).fst) (rgmul (rnd.getD ((d+(1:Nat)-(1:Nat))*secret.length+j) 0) (rgmul (pst rnd secret.length j (u8 ((↑i:Int)+1)) (secret.getD j 0) d).snd (u8 ((↑i:Int)+1)))))] ?_
    refine inb_n ?_
    refine then_n ?_
    refine zX (yH [(1,yV (ai ((↑d:Int)+1+1)))]) [yN ((↑d:Int)+1+1)] ?_
    refine round_n (d+1) (by assumption) (by omega) (zW [.keep [0,1,2,3,10,11,12,13,14,15,16] [89,83]])
   ·have e6:d=N-1:=by omega
    subst e6
    refine zE 5 ?_
    refine then_e ?_
    refine round_e ?_
    refine inb_e ?_
    refine then_n ?_
    refine zX (yH [(2,yV (AV.arr (bytesA [(pst rnd secret.length j (u8 ((↑i:Int)+1)) (secret.getD j 0) (N-(1:Nat))).fst]))),(3,yV (AV.arr (bytesA (List.map (rsplitB secret rnd N (u8 ((↑i:Int)+1))) (List.range j)++ [(pst rnd secret.length j (u8 ((↑i:Int)+1)) (secret.getD j 0) (N-(1:Nat))).fst]))))]) [yR [ab ((pst rnd secret.length j (u8 ((↑i:Int)+1)) (secret.getD j 0) (N-(1:Nat))).fst)],yB (bytesA (List.map (rsplitB secret rnd N (u8 ((↑i:Int)+1))) (List.range j))++bytesA [(pst rnd secret.length j (u8 ((↑i:Int)+1)) (secret.getD j 0) (N-(1:Nat))).fst]=bytesA (List.map (rsplitB secret rnd N (u8 ((↑i:Int)+1))) (List.range j)++ [(pst rnd secret.length j (u8 ((↑i:Int)+1)) (secret.getD j 0) (N-(1:Nat))).fst])) (bytesA_app _ _),yB (((bytesA (List.map (rsplitB secret rnd N (u8 ((↑i:Int)+1))) (List.range j))).length+(bytesA [(pst rnd secret.length j (u8 ((↑i:Int)+1)) (secret.getD j 0) (N-(1:Nat))).fst]).length)*(1:Nat)≤(140737488355328:Nat)) (by simp only [bytesA_len,List.length_cons,List.length_nil,List.length_map,List.length_range];omega)] ?_
    refine inb_n ?_
    refine then_n ?_
    refine zX (yH [(1,yV (ai ((↑j:Int)+1)))]) [yN ((↑j:Int)+1)] ?_
    refine round_n (j+1) (by omega) (by omega) (Weaks.of [.keep [0,1,2,3,10,11,12,13] [89,83]] (s1:=AS.mk [(0,AV.sl 1 (bytesA secret)),(1,AV.sl 1 (bytesA rnd)),(2,ai (↑N:Int)),(3,ai (↑M:Int)),(10,AV.ref 89),(11,ai ((↑i:Int)+1)),(12,AV.ref 83),(13,ai ((↑j:Int)+1))] [(89,Row.mk 2 true false (encA shareC (List.map (rsplitS secret rnd N) (List.range i)))),(83,Row.mk 1 true false (bytesA (List.map (rsplitB secret rnd N (u8 ((↑i:Int)+1))) (List.range j)++ [(pst rnd secret.length j (u8 ((↑i:Int)+1)) (secret.getD j 0) (N-(1:Nat))).fst])))]) (by kernel_rfl) (as_eq (f_cons rfl (f_cons rfl (f_cons rfl (f_cons rfl (f_cons rfl (f_cons rfl (f_cons rfl (f_cons rfl rfl)))))))) (h_cons rfl (h_cons (congrArg bytesA (range_snoc (rsplitB secret rnd N (u8 (i+1))) j)) rfl))))
  ·have e6:j=secret.length:=by omega
   subst e6
   refine zE 3 ?_
   refine then_e ?_
   refine round_e ?_
   refine inb_e ?_
   refine then_n ?_
   refine zX {} [yB (((encA shareC (List.map (rsplitS secret rnd N) (List.range i))).length+(2:Nat))*(32:Nat)≤(281474976710656:Nat)) (by simp only [List.length_map,List.length_range,encA_len (f:=shareC) (e:=2) (fun _=>rfl)];omega)] ?_
   refine inb_n ?_
   refine then_n ?_
   refine zX (yH [(1,yV (ai ((↑i:Int)+1+1)))]) [yN ((↑i:Int)+1+1)] ?_
   refine round_n (i+1) (by omega) (by omega) (Weaks.of [.keep [0,1,2,3,10,11] [89]] (s1:=AS.mk [(0,AV.sl 1 (bytesA secret)),(1,AV.sl 1 (bytesA rnd)),(2,ai (↑N:Int)),(3,ai (↑M:Int)),(10,AV.ref 89),(11,ai ((↑i:Int)+1+1))] [(89,Row.mk 2 true false (encA shareC (List.map (rsplitS secret rnd N) (List.range i))++ [ai ((↑i:Int)+1),AV.sl 1 (bytesA (List.map (rsplitB secret rnd N (u8 ((↑i:Int)+1))) (List.range secret.length)))]))]) (by kernel_rfl) (as_eq (f_cons rfl (f_cons rfl (f_cons rfl (f_cons rfl (f_cons rfl (f_cons rfl rfl)))))) (h_cons (enc_range (f:=shareC) (rsplitS secret rnd N) i) rfl)))
 ·have e8:i=M:=by omega
  subst e8
  refine zE 1 ?_
  refine then_e ?_
  refine round_e ?_
  refine inb_e ?_
  refine then_n ?_
  refine zQ 1 [{}] [] ?_
  refine zR ?_
  refine zV [yB (encA shareC (List.map (rsplitS secret rnd N) (List.range i))=encA shareC (rsplitL secret rnd (↑N:Int) (↑i:Int))) (by simp [rsplitL,e0]),yJ 0 (splitE secret rnd (↑N:Int) (↑i:Int)) (by rw [e0])]
end Go.Proofs.YtejpabdmiagnnaaGreatDoor
