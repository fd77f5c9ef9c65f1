import Derived.Test.YtejpabdmiagnnaaGreatDoorZrV8
import Derived.Test.YtejpabdmiagnnaaGreatDoorZrSh4
set_option linter.all false
namespace Go.Proofs.YtejpabdmiagnnaaGreatDoor
open Go.RowKit
set_option maxRecDepth 100000
set_option maxHeartbeats 4000000
set_option linter.unusedVariables false
theorem chk_zero (first:Nat):∀(l:List Sh) (seen:List Bool),chk first seen l=0-> ∀p∈l,1≤p.1∧p.1≤255∧p.2.length=first∧p.2.length≤64
 | [],_,_=>by simp
 | q::l,seen,h=>by
  rw [chk] at h
  split at h
  ·cases h
  split at h
  ·cases h
  split at h
  ·cases h
  split at h
  ·cases h
  intro p hp
  rcases List.mem_cons.1 hp with rfl|hp
  ·omega
  ·exact chk_zero first l _ h p hp
theorem getD_mem {l:List Sh} {i:Nat} (h:i<l.length):l.getD i default∈l:=by
 rw [List.getD_eq_getElem?_getD,List.getElem?_eq_getElem h];exact List.getElem_mem h
def ovr (l:List Sh) (x:UInt8) (i:Nat):Nat->UInt8
 | 0=>1
 | m+1=>if m≠i then gmul (ovr l x i m) (x^^^u8 (l.getD m default).1) else ovr l x i m
def wgt (l:List Sh) (x:UInt8) (i:Nat):UInt8:=gmul (ovr l x i l.length) (ginv (ovr l (u8 (l.getD i default).1) i l.length))
def ares (l:List Sh) (x:UInt8):Nat->List UInt8
 | 0=>List.replicate (l.getD 0 default).2.length 0
 | i+1=>(List.range (l.getD 0 default).2.length).map fun j=>(ares l x i).getD j 0^^^gmul (wgt l x i) ((l.getD i default).2.getD j 0)
theorem ares_len (l:List Sh) (x:UInt8) (i:Nat):(ares l x i).length=(l.getD 0 default).2.length:=by
 cases i<;>simp [ares]
theorem mix_get {A B:List UInt8} {j:Nat} (ha:j<A.length):(A.take j++B.drop j).getD j 0=B.getD j 0:=by
 rw [List.getD_eq_getElem?_getD,List.getElem?_append_right (by rw [List.length_take];omega),List.length_take,Nat.min_eq_left (by omega),Nat.sub_self,List.getElem?_drop,Nat.add_zero,List.getD_eq_getElem?_getD]
theorem mix_set {A B:List UInt8} {j:Nat} (c:UInt8) (ha:j<A.length) (hb:j<B.length) (hc:c=A.getD j 0):(A.take j++B.drop j).set j c=A.take (j+1)++B.drop (j+1):=by
 rw [List.set_append_right _ _ (by rw [List.length_take];omega),List.length_take,Nat.min_eq_left (by omega),Nat.sub_self,List.drop_eq_getElem_cons hb,List.set_cons_zero,List.take_add_one,hc,List.getD_eq_getElem?_getD,List.getElem?_eq_getElem ha,Option.getD_some,List.append_assoc]
 rfl
theorem range_getD {α:Type} (g:Nat->α) (d:α) {j n:Nat} (h:j<n):((List.range n).map g).getD j d=g j:=by
 rw [List.getD_eq_getElem?_getD,List.getElem?_map,List.getElem?_range h];rfl
theorem ares_next (l:List Sh) (x:UInt8) (i j:Nat) (hj:j<(l.getD 0 default).2.length):(ares l x (i+1)).getD j 0=(ares l x i).getD j 0^^^gmul (wgt l x i) ((l.getD i default).2.getD j 0):=by
 rw [ares,range_getD _ _ hj]
def atE (l:List Sh) (x:Int):Int:=if l.length=0 then 1 else if x<0∨255<x then 9 else chkE l
def atD (l:List Sh) (x:Int):List UInt8:=if atE l x=0 then ares l (u8 x) l.length else []
set_option maxRecDepth 100000 in
theorem at_ret (l:List Sh) (x:Int):Ret Tryz.prog 113 [.sl 2 (encA shareC l),ai x] (.tup [.own 1 (bytesA (atD l x)),ai (atE l x)]):=by
 refine Ret.len 0 rfl fun hlen=>?_
 rw [encA_len (e:=2) (fun _=>rfl)] at hlen
 refine zO Tryz.func113 96 ?_
 by_cases h0:l.length=0
 ·have e1:atE l x=1:=by simp [atE,h0]
  refine zQ 1 [{}] [] ?_
  refine zS ?_
  refine zP 1 [yH [(1,{k:=l.length})]] [.keep [19,5,4,0,1] []] [yB ((encA shareC l).length=l.length*(2:Nat)) (by simp only [encA_len (f:=shareC) (e:=2) (fun _=>rfl)])] ?_
  refine zTb 19 ((↑l.length:Int) == (0:Int)) (decide_eq_true (by omega)) ?_
  refine zQ 1 [{}] [] ?_
  refine zR ?_
  refine then_r ?_
  refine zV [yB (bytesA (atD l x)= []) (by rw [atD,e1];rfl),yJ 1 (atE l x) (by rw [e1])]
 by_cases h1:x<0
 ·have e1:atE l x=9:=by simp [atE,h0,h1]
  refine zQ 1 [{}] [] ?_
  refine zS ?_
  refine zP 1 [yH [(1,{k:=l.length})]] [.keep [19,5,4,0,1] []] [yB ((encA shareC l).length=l.length*(2:Nat)) (by simp only [encA_len (f:=shareC) (e:=2) (fun _=>rfl)])] ?_
  refine zFb 19 ((↑l.length:Int) == (0:Int)) (decide_eq_false (by omega)) ?_
  refine zK ?_
  refine then_n ?_
  refine zS ?_
  refine zP 1 [{}] [.keep [25,19,5,4,0,1] []] [yT (x<0),yT (x<0),yT (x<0)] ?_
  refine zT 25 ?_
  refine zQ 1 [{}] [] ?_
  refine zR ?_
  refine then_r ?_
  refine zV [yB (bytesA (atD l x)= []) (by rw [atD,e1];rfl),yJ 9 (atE l x) (by rw [e1])]
 by_cases h2:255<x
 ·have e1:atE l x=9:=by simp [atE,h0,h2]
  refine zQ 1 [{}] [] ?_
  refine zS ?_
  refine zP 1 [yH [(1,{k:=l.length})]] [.keep [19,5,4,0,1] []] [yB ((encA shareC l).length=l.length*(2:Nat)) (by simp only [encA_len (f:=shareC) (e:=2) (fun _=>rfl)])] ?_
  refine zFb 19 ((↑l.length:Int) == (0:Int)) (decide_eq_false (by omega)) ?_
  refine zK ?_
  refine then_n ?_
  refine zS ?_
  refine zP 1 [yH [(3,{g:=false}),(4,{g:=false}),(5,{b:=false})]] [.keep [25,19,5,4,0,1] []] [yF (x<0),yF (x<0),yF (x<0)] ?_
  refine zTd 25 (x>255) ?_
  refine zQ 1 [{}] [] ?_
  refine zR ?_
  refine then_r ?_
  refine zV [yB (bytesA (atD l x)= []) (by rw [atD,e1];rfl),yJ 9 (atE l x) (by rw [e1])]
 have e1:atE l x=chkE l:=by simp [atE,h0,h1,h2]
 refine zQ 1 [{}] [] ?_
 refine zS ?_
 refine zP 1 [yH [(1,{k:=l.length})]] [.keep [19,5,4,0,1] []] [yB ((encA shareC l).length=l.length*(2:Nat)) (by simp only [encA_len (f:=shareC) (e:=2) (fun _=>rfl)])] ?_
 refine zFb 19 ((↑l.length:Int) == (0:Int)) (decide_eq_false (by omega)) ?_
 refine zK ?_
 refine then_n ?_
 refine zS ?_
 refine zP 1 [yH [(3,{g:=false}),(4,{g:=false}),(5,{b:=false})]] [.keep [25,19,5,4,0,1] []] [yF (x<0),yF (x<0),yF (x<0)] ?_
 refine zFd 25 (x>255) ?_
 refine zK ?_
 refine then_n ?_
 refine zS ?_
 refine zP 2 [yH [(1,yV (ai (chkE l)))],{}] [.keep [29,6,25,19,5,4,0,1] []] [yI (check_ret l)] ?_
 refine zN 29 (chkE l) (0:Int) (fun h3=>?_) (fun h3=>?_)
 ·skip
  refine zQ 1 [{}] [] ?_
  refine zR ?_
  refine then_r ?_
  refine zV [yB (bytesA (atD l x)= []) (by rw [atD,e1,if_neg h3];rfl),yJ (chkE l) (atE l x) (by rw [e1])]
 have hz:=chk_zero _ l _ h3
 have e2:atD l x=ares l (u8 x) l.length:=by rw [atD,e1,if_pos h3]
 have hl0:=(hz _ (getD_mem (show 0<l.length by omega))).2.2.2
 refine zK ?_
 refine then_n ?_
 refine zP 1 [yH [(1,{k:=0}),(3,yV (AV.sl 1 (bytesA (l.getD (0:Nat) default).snd))),(4,{k:=(l.getD (0:Nat) default).snd.length}),(5,{av:=some (AV.arr (bytesA (List.replicate (l.getD (0:Nat) default).snd.length 0))),k:=(l.getD (0:Nat) default).snd.length,m:=(l.getD (0:Nat) default).snd.length})]] [.keep [7,29,6,25,19,5,4,0,1] [36]] [yR (0:Int),yB ((0:Nat)<(encA shareC l).length) (by simp only [encA_len (f:=shareC) (e:=2) (fun _=>rfl)];omega),yB ((encA shareC l)[(1:Nat)]?=some (AV.sl 1 (bytesA (l.getD (0:Nat) default).snd))) (encA_at (f:=shareC) (e:=2) (k:=0) (j:=1) (fun _=>rfl) (by omega) rfl),yI (bytesA_len ((l.getD (0:Nat) default).snd)),yB (List.replicate (l.getD (0:Nat) default).snd.length (AV.val (Value.int .u8 0))=bytesA (List.replicate (l.getD (0:Nat) default).snd.length 0)) (bytesA_rep _),yR (↑(l.getD (0:Nat) default).snd.length:Int),yR (↑(l.getD (0:Nat) default).snd.length:Int),yO ((l.getD (0:Nat) default).snd.length≤(l.getD (0:Nat) default).snd.length),yO ((1:Nat)*(l.getD (0:Nat) default).snd.length≤(281474976710656:Nat)),yB ((l.getD (0:Nat) default).snd.length≤maxLen) (by unfold maxLen;omega)] ?_
 refine zS ?_
 refine zQ 1 [yH [(1,{k:=l.length})]] [yB ((encA shareC l).length=l.length*(2:Nat)) (by simp only [encA_len (f:=shareC) (e:=2) (fun _=>rfl)])] ?_
 refine zB 0 ?_
 refine zL (fun (i:Nat)=>(⟨[(0,AV.sl 2 (encA shareC l)),(1,ai x),(7,AV.ref 36),(37,AV.sl 2 (encA shareC l)),(38,ai (↑l.length:Int)),(39,ai i)],[(36,⟨1,true,false,bytesA (ares l (u8 x) i)⟩)]⟩:AS)) (fun i=>(i≤l.length)) (fun i=>(l.length-i)) (0) ?_ (zW [.keep [0,1,7,37,38,39] [36]]) ?_
 ·omega
 intro i hi
 have hal:=ares_len l (u8 x) i
 have hal1:=ares_len l (u8 x) (i+1)
 refine zQ 1 [{}] [] ?_
 refine zS ?_
 refine zD 40 ((↑i:Int)<(↑l.length:Int)) (fun h4=>?_) (fun h4=>?_)
 ·obtain ⟨hx1,hx2,hd,_⟩:=hz _ (getD_mem (show i<l.length by omega))
  refine zK ?_
  refine then_n ?_
  refine zS ?_
  refine zB 1 ?_
  refine zP 2 [yH [(1,{k:=i}),(2,yV (AV.agg [ai ((l.getD i default).fst),AV.sl 1 (bytesA (l.getD i default).snd)]))],{}] [.keep [11,10,8,9,40,0,1,7,37,38,39] [9,36]] [yR (↑i:Int),yB (i*(2:Nat)<(encA shareC l).length) (by simp only [encA_len (f:=shareC) (e:=2) (fun _=>rfl)];omega),yB (List.take 2 (List.drop (i*(2:Nat)) (encA shareC l))= [ai ((l.getD i default).fst),AV.sl 1 (bytesA (l.getD i default).snd)]) (encA_sub (f:=shareC) (e:=2) (k:=i) (j:=0) (fun _=>rfl) (by omega) (by decide) rfl),yR (2:Nat),yL 2 2] ?_
  refine zS ?_
  refine zQ 1 [yH [(1,{k:=l.length})]] [yB ((encA shareC l).length=l.length*(2:Nat)) (by simp only [encA_len (f:=shareC) (e:=2) (fun _=>rfl)])] ?_
  refine zB 2 ?_
  refine zL (fun (m:Nat)=>(⟨[(0,AV.sl 2 (encA shareC l)),(1,ai x),(7,AV.ref 36),(8,ai (↑i:Int)),(9,AV.addr 9 0),(10,ab (ovr l (u8 x) i m)),(11,ab (ovr l (u8 (l.getD i default).1) i m)),(37,AV.sl 2 (encA shareC l)),(38,ai (↑l.length:Int)),(39,ai (↑i:Int)),(44,AV.sl 2 (encA shareC l)),(45,ai (↑l.length:Int)),(46,ai m)],[(9,⟨1,false,true,[ai ((l.getD i default).fst),AV.sl 1 (bytesA (l.getD i default).snd)]⟩),(36,⟨1,true,false,bytesA (ares l (u8 x) i)⟩)]⟩:AS)) (fun m=>(m≤l.length)) (fun m=>(l.length-m)) (0) ?_ (zW [.keep [0,1,7,8,9,10,11,37,38,39,44,45,46] [9,36]]) ?_
  ·omega
  intro m hm
  refine zQ 1 [{}] [] ?_
  refine zS ?_
  refine zD 47 ((↑m:Int)<(↑l.length:Int)) (fun h5=>?_) (fun h5=>?_)
  ·skip
   refine zK ?_
   refine then_n ?_
   refine zS ?_
   refine zB 3 ?_
   refine zP 2 [yH [(1,{k:=m}),(2,yV (AV.agg [ai ((l.getD m default).fst),AV.sl 1 (bytesA (l.getD m default).snd)]))],{}] [.keep [53,12,13,47,0,1,7,8,9,10,11,37,38,39,44,45,46] [13,9,36]] [yR (↑m:Int),yB (m*(2:Nat)<(encA shareC l).length) (by simp only [encA_len (f:=shareC) (e:=2) (fun _=>rfl)];omega),yB (List.take 2 (List.drop (m*(2:Nat)) (encA shareC l))= [ai ((l.getD m default).fst),AV.sl 1 (bytesA (l.getD m default).snd)]) (encA_sub (f:=shareC) (e:=2) (k:=m) (j:=0) (fun _=>rfl) (by omega) (by decide) rfl),yR (2:Nat),yL 2 2] ?_
   refine zN 53 (↑m:Int) (↑i:Int) (fun h6=>?_) (fun h6=>?_)
   ·skip
    refine zP 1 [yH [(2,yV (ab (u8 x))),(5,yV (ab (u8 (l.getD m default).fst))),(6,yV (ab (u8 x^^^u8 (l.getD m default).fst))),(7,yV (ab (gmul (ovr l (u8 x) i m) (u8 x^^^u8 (l.getD m default).fst))))]] [.keep [10,53,12,13,47,0,1,7,8,9,11,37,38,39,44,45,46] [13,9,36]] [yI (avb_conv x),yI (avb_conv ((l.getD m default).fst)),yI (avb_xor (u8 x) (u8 (l.getD m default).fst)),yI (mul_ret (ovr l (u8 x) i m) (u8 x^^^u8 (l.getD m default).fst))] ?_
    refine zX (yH [(3,yV (ab (u8 (l.getD i default).fst))),(6,yV (ab (u8 (l.getD m default).fst))),(7,yV (ab (u8 (l.getD i default).fst^^^u8 (l.getD m default).fst))),(8,yV (ab (gmul (ovr l (u8 (l.getD i default).fst) i m) (u8 (l.getD i default).fst^^^u8 (l.getD m default).fst))))]) [yI (avb_conv ((l.getD i default).fst)),yI (avb_conv ((l.getD m default).fst)),yI (avb_xor (u8 (l.getD i default).fst) (u8 (l.getD m default).fst)),yI (mul_ret (ovr l (u8 (l.getD i default).fst) i m) (u8 (l.getD i default).fst^^^u8 (l.getD m default).fst))] ?_
    refine inb_n ?_
    refine then_n ?_
    refine zX (yH [(0,yV (ai ((↑m:Int)+1)))]) [yN ((↑m:Int)+1)] ?_
    refine round_n (m+1) (by omega) (by omega) (Weaks.of [.keep [0,1,7,8,9,10,11,37,38,39,44,45,46] [9,36]] (s1:=AS.mk [(0,AV.sl 2 (encA shareC l)),(1,ai x),(7,AV.ref 36),(8,ai (↑i:Int)),(9,AV.addr 9 0),(10,ab (gmul (ovr l (u8 x) i m) (u8 x^^^u8 (l.getD m default).fst))),(11,ab (gmul (ovr l (u8 (l.getD i default).fst) i m) (u8 (l.getD i default).fst^^^u8 (l.getD m default).fst))),(37,AV.sl 2 (encA shareC l)),(38,ai (↑l.length:Int)),(39,ai (↑i:Int)),(44,AV.sl 2 (encA shareC l)),(45,ai (↑l.length:Int)),(46,ai ((↑m:Int)+1))] [(9,Row.mk 1 false true [ai ((l.getD i default).fst),AV.sl 1 (bytesA (l.getD i default).snd)]),(36,Row.mk 1 true false (bytesA (ares l (u8 x) i)))]) (by kernel_rfl) (as_eq (f_cons rfl (f_cons rfl (f_cons rfl (f_cons rfl (f_cons rfl (f_cons (by rw [ovr,if_pos (by omega)]) (f_cons (by rw [ovr,if_pos (by omega)]) (f_cons rfl (f_cons rfl (f_cons rfl (f_cons rfl (f_cons rfl (f_cons rfl rfl))))))))))))) (h_cons rfl (h_cons rfl rfl))))
   ·skip
    refine zK ?_
    refine inb_n ?_
    refine then_n ?_
    refine zX (yH [(0,yV (ai ((↑m:Int)+1)))]) [yN ((↑m:Int)+1)] ?_
    refine round_n (m+1) (by omega) (by omega) (Weaks.of [.keep [0,1,7,8,9,10,11,37,38,39,44,45,46] [9,36]] (s1:=AS.mk [(0,AV.sl 2 (encA shareC l)),(1,ai x),(7,AV.ref 36),(8,ai (↑i:Int)),(9,AV.addr 9 0),(10,ab (ovr l (u8 x) i m)),(11,ab (ovr l (u8 (l.getD i default).fst) i m)),(37,AV.sl 2 (encA shareC l)),(38,ai (↑l.length:Int)),(39,ai (↑i:Int)),(44,AV.sl 2 (encA shareC l)),(45,ai (↑l.length:Int)),(46,ai ((↑m:Int)+1))] [(9,Row.mk 1 false true [ai ((l.getD i default).fst),AV.sl 1 (bytesA (l.getD i default).snd)]),(36,Row.mk 1 true false (bytesA (ares l (u8 x) i)))]) (by kernel_rfl) (as_eq (f_cons rfl (f_cons rfl (f_cons rfl (f_cons rfl (f_cons rfl (f_cons (by rw [ovr,if_neg (by omega)]) (f_cons (by rw [ovr,if_neg (by omega)]) (f_cons rfl (f_cons rfl (f_cons rfl (f_cons rfl (f_cons rfl (f_cons rfl rfl))))))))))))) (h_cons rfl (h_cons rfl rfl))))
  ·have e:m=l.length:=by omega
   subst e
   refine zE 2 ?_
   refine then_e ?_
   refine round_e ?_
   refine inb_e ?_
   refine then_n ?_
   refine zP 2 [yH [(2,yV (ab (ginv (ovr l (u8 (l.getD i default).fst) i l.length)))),(3,yV (ab (gmul (ovr l (u8 x) i l.length) (ginv (ovr l (u8 (l.getD i default).fst) i l.length)))))],yH [(2,{k:=(l.getD i default).snd.length})]] [.keep [79,78,77,14,47,0,1,7,8,9,10,11,37,38,39,44,45,46] [9,36]] [yI (inverse_ret (ovr l (u8 (l.getD i default).fst) i l.length)),yI (mul_ret (ovr l (u8 x) i l.length) (ginv (ovr l (u8 (l.getD i default).fst) i l.length))),yI (bytesA_len ((l.getD i default).snd))] ?_
   refine zB 4 ?_
   refine zL (fun (j:Nat)=>(⟨[(0,AV.sl 2 (encA shareC l)),(1,ai x),(7,AV.ref 36),(14,ab (gmul (ovr l (u8 x) i l.length) (ginv (ovr l (u8 (l.getD i default).fst) i l.length)))),(37,AV.sl 2 (encA shareC l)),(38,ai (↑l.length:Int)),(39,ai (↑i:Int)),(77,AV.sl 1 (bytesA (l.getD i default).snd)),(78,ai (↑(l.getD i default).snd.length:Int)),(79,ai j)],[(36,⟨1,true,false,bytesA ((ares l (u8 x) (i+1)).take j++(ares l (u8 x) i).drop j)⟩)]⟩:AS)) (fun j=>(j≤(l.getD 0 default).2.length)) (fun j=>((l.getD 0 default).2.length-j)) (0) ?_ (Weaks.of [.keep [0,1,7,14,37,38,39,77,78,79] [36]] (s1:=AS.mk [(0,AV.sl 2 (encA shareC l)),(1,ai x),(7,AV.ref 36),(14,ab (gmul (ovr l (u8 x) i l.length) (ginv (ovr l (u8 (l.getD i default).fst) i l.length)))),(37,AV.sl 2 (encA shareC l)),(38,ai (↑l.length:Int)),(39,ai (↑i:Int)),(77,AV.sl 1 (bytesA (l.getD i default).snd)),(78,ai (↑(l.getD i default).snd.length:Int)),(79,ai 0)] [(36,Row.mk 1 true false (bytesA (ares l (u8 x) i)))]) (by kernel_rfl) (as_eq (f_cons rfl (f_cons rfl (f_cons rfl (f_cons rfl (f_cons rfl (f_cons rfl (f_cons rfl (f_cons rfl (f_cons rfl (f_cons (by simp) rfl)))))))))) (h_cons (by simp) rfl))) ?_
   ·omega
   intro j hj
   refine zQ 1 [{}] [] ?_
   refine zS ?_
   refine zD 80 ((↑j:Int)<(↑(l.getD i default).snd.length:Int)) (fun h7=>?_) (fun h7=>?_)
   ·skip
    refine zK ?_
    refine then_n ?_
    refine zS ?_
    refine zB 5 ?_
    refine zP 1 [yH [(1,{k:=j}),(2,yV (ab ((l.getD i default).snd.getD j 0)))]] [.keep [16,15,80,0,1,7,14,37,38,39,77,78,79] [36]] [yR (↑j:Int),yB (j<(bytesA (l.getD i default).snd).length) (by simp only [bytesA_len];omega),yB ((bytesA (l.getD i default).snd)[j]?=some (ab ((l.getD i default).snd.getD j 0))) (bytesA_at (by omega))] ?_
    refine zX ({hs:=[(2,{k:=j}),(3,yV (ab ((List.take j (ares l (u8 x) (i+(1:Nat)))++List.drop j (ares l (u8 x) i)).getD j 0))),(6,yV (ab (gmul (gmul (ovr l (u8 x) i l.length) (ginv (ovr l (u8 (l.getD i default).fst) i l.length))) ((l.getD i default).snd.getD j 0)))),(7,yV (ab ((List.take j (ares l (u8 x) (i+(1:Nat)))++List.drop j (ares l (u8 x) i)).getD j (0:UInt8)^^^gmul (gmul (ovr l (u8 x) i l.length) (ginv (ovr l (u8 (l.getD i default).fst) i l.length))) ((l.getD i default).snd.getD j 0)))),(8,{k:=j}),(9,yV (AV.arr (bytesA ((List.take j (ares l (u8 x) (i+(1:Nat)))++List.drop j (ares l (u8 x) i)).set j ((List.take j (ares l (u8 x) (i+(1:Nat)))++List.drop j (ares l (u8 x) i)).getD j (0:UInt8)^^^gmul (gmul (ovr l (u8 x) i l.length) (ginv (ovr l (u8 (l.getD i default).fst) i l.length))) ((l.getD i default).snd.getD j 0))))))],T:=7}) [yR (↑j:Int),yB (j<(bytesA (List.take j (ares l (u8 x) (i+(1:Nat)))++List.drop j (ares l (u8 x) i))).length) (by simp only [bytesA_len,List.length_append,List.length_take,List.length_drop];omega),yB ((bytesA (List.take j (ares l (u8 x) (i+(1:Nat)))++List.drop j (ares l (u8 x) i)))[j]?=some (ab ((List.take j (ares l (u8 x) (i+(1:Nat)))++List.drop j (ares l (u8 x) i)).getD j 0))) (bytesA_at (by simp only [List.length_append,List.length_take,List.length_drop];omega)),yI (mul_ret (gmul (ovr l (u8 x) i l.length) (ginv (ovr l (u8 (l.getD i default).fst) i l.length))) ((l.getD i default).snd.getD j 0)),yI (avb_xor ((List.take j (ares l (u8 x) (i+(1:Nat)))++List.drop j (ares l (u8 x) i)).getD j 0) (gmul (gmul (ovr l (u8 x) i l.length) (ginv (ovr l (u8 (l.getD i default).fst) i l.length))) ((l.getD i default).snd.getD j 0))),yR (↑j:Int),yB (j<(bytesA (List.take j (ares l (u8 x) (i+(1:Nat)))++List.drop j (ares l (u8 x) i))).length) (by simp only [bytesA_len,List.length_append,List.length_take,List.length_drop];omega),yB ((bytesA (List.take j (ares l (u8 x) (i+(1:Nat)))++List.drop j (ares l (u8 x) i))).set j (ab ((List.take j (ares l (u8 x) (i+(1:Nat)))++List.drop j (ares l (u8 x) i)).getD j (0:UInt8)^^^gmul (gmul (ovr l (u8 x) i l.length) (ginv (ovr l (u8 (l.getD i default).fst) i l.length))) ((l.getD i default).snd.getD j 0)))=bytesA ((List.take j (ares l (u8 x) (i+(1:Nat)))++List.drop j (ares l (u8 x) i)).set j ((List.take j (ares l (u8 x) (i+(1:Nat)))++List.drop j (ares l (u8 x) i)).getD j (0:UInt8)^^^gmul (gmul (ovr l (u8 x) i l.length) (ginv (ovr l (u8 (l.getD i default).fst) i l.length))) ((l.getD i default).snd.getD j 0)))) (bytesA_set _ _ _),yB (j+(1:Nat)≤(bytesA (List.take j (ares l (u8 x) (i+(1:Nat)))++List.drop j (ares l (u8 x) i))).length) (by simp only [bytesA_len,List.length_append,List.length_take,List.length_drop];omega)] ?_
    refine inb_n ?_
    refine then_n ?_
    refine zX (yH [(0,yV (ai ((↑j:Int)+1)))]) [yN ((↑j:Int)+1)] ?_
    refine round_n (j+1) (by omega) (by omega) (Weaks.of [.keep [0,1,7,14,37,38,39,77,78,79] [36]] (s1:=AS.mk [(0,AV.sl 2 (encA shareC l)),(1,ai x),(7,AV.ref 36),(14,ab (gmul (ovr l (u8 x) i l.length) (ginv (ovr l (u8 (l.getD i default).fst) i l.length)))),(37,AV.sl 2 (encA shareC l)),(38,ai (↑l.length:Int)),(39,ai (↑i:Int)),(77,AV.sl 1 (bytesA (l.getD i default).snd)),(78,ai (↑(l.getD i default).snd.length:Int)),(79,ai ((↑j:Int)+1))] [(36,Row.mk 1 true false (bytesA ((List.take j (ares l (u8 x) (i+(1:Nat)))++List.drop j (ares l (u8 x) i)).set j ((List.take j (ares l (u8 x) (i+(1:Nat)))++List.drop j (ares l (u8 x) i)).getD j (0:UInt8)^^^gmul (gmul (ovr l (u8 x) i l.length) (ginv (ovr l (u8 (l.getD i default).fst) i l.length))) ((l.getD i default).snd.getD j 0)))))]) (by kernel_rfl) (as_eq (f_cons rfl (f_cons rfl (f_cons rfl (f_cons rfl (f_cons rfl (f_cons rfl (f_cons rfl (f_cons rfl (f_cons rfl (f_cons rfl rfl)))))))))) (h_cons (congrArg bytesA (mix_set _ (by omega) (by omega) (by rw [mix_get (by omega),ares_next l (u8 x) i j (by omega)];rfl))) rfl)))
   ·have e:j=(l.getD 0 default).2.length:=by omega
    subst e
    refine zE 4 ?_
    refine then_e ?_
    refine round_e ?_
    refine inb_e ?_
    refine inb_n ?_
    refine then_n ?_
    refine zX (yH [(0,yV (ai ((↑i:Int)+1)))]) [yN ((↑i:Int)+1)] ?_
    refine round_n (i+1) (by omega) (by omega) (Weaks.of [.keep [0,1,7,37,38,39] [36]] (s1:=AS.mk [(0,AV.sl 2 (encA shareC l)),(1,ai x),(7,AV.ref 36),(37,AV.sl 2 (encA shareC l)),(38,ai (↑l.length:Int)),(39,ai ((↑i:Int)+1))] [(36,Row.mk 1 true false (bytesA (List.take (l.getD (0:Nat) default).snd.length (ares l (u8 x) (i+(1:Nat)))++List.drop (l.getD (0:Nat) default).snd.length (ares l (u8 x) i))))]) (by kernel_rfl) (as_eq (f_cons rfl (f_cons rfl (f_cons rfl (f_cons rfl (f_cons rfl (f_cons rfl rfl)))))) (h_cons (congrArg bytesA (by rw [List.take_of_length_le (by omega),List.drop_eq_nil_of_le (by omega),List.append_nil])) rfl)))
 ·have e:i=l.length:=by omega
  subst e
  refine zE 0 ?_
  refine then_e ?_
  refine round_e ?_
  refine inb_e ?_
  refine then_n ?_
  refine zQ 1 [{}] [] ?_
  refine zR ?_
  refine zV [yB (bytesA (ares l (u8 x) l.length)=bytesA (atD l x)) (by rw [e2]),yJ 0 (atE l x) (by rw [e1,h3])]
end Go.Proofs.YtejpabdmiagnnaaGreatDoor
