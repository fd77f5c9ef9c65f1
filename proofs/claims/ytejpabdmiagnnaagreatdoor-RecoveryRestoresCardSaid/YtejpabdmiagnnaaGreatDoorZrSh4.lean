import Derived.Test.YtejpabdmiagnnaaGreatDoorZrV8
import Derived.Test.YtejpabdmiagnnaaGreatDoorZrSh3
set_option linter.all false
namespace Go.Proofs.YtejpabdmiagnnaaGreatDoor
open Go.RowKit
set_option maxRecDepth 100000
set_option maxHeartbeats 4000000
set_option linter.unusedVariables false
abbrev Sh:=Int×List UInt8
def chk (first:Nat):List Bool->List Sh->Int
 | _,[]=>0
 | seen,p::l=>if p.1<1∨255<p.1 then 9 else if seen.getD p.1.toNat false then 10 else if p.2.length≠first then 4 else if 64<p.2.length then 8 else chk first (seen.set p.1.toNat true) l
def chkE (l:List Sh):Int:=chk (l.getD 0 default).2.length (List.replicate 256 false) l
theorem drop_getD {l:List Sh} {i:Nat} (h:i<l.length):l.drop i=l.getD i default::l.drop (i+1):=by
 rw [List.drop_eq_getElem_cons h];simp [h]
set_option maxRecDepth 100000 in
theorem check_ret (l:List Sh):Ret Tryz.prog 167 [.sl 2 (encA shareC l)] (ai (chkE l)):=by
 refine Ret.len 0 rfl fun hlen=>?_
 rw [encA_len (e:=2) (fun _=>rfl)] at hlen
 refine zO Tryz.func167 41 ?_
 refine zQ 2 [{},yH [(0,yV (AV.arr (boolsA (List.replicate (256:Nat) false))))]] [yR (boolsA (List.replicate (256:Nat) false))] ?_
 refine zS ?_
 refine zQ 1 [yH [(1,{k:=l.length})]] [yB ((encA shareC l).length=l.length*(2:Nat)) (by simp only [encA_len (f:=shareC) (e:=2) (fun _=>rfl)])] ?_
 refine zB 0 ?_
 refine zL (fun (k:Nat×List Bool)=>(⟨[(0,AV.sl 2 (encA shareC l)),(3,AV.addr 3 0),(6,AV.sl 2 (encA shareC l)),(7,ai (↑l.length:Int)),(8,ai k.1)],[(3,⟨1,true,false,boolsA k.2⟩)]⟩:AS)) (fun k=>(k.1≤l.length∧k.2.length=256∧chk (l.getD 0 default).2.length k.2 (l.drop k.1)=chkE l)) (fun k=>(l.length-k.1)) ((0,List.replicate 256 false)) ?_ (zW [.loose 3,.keep [0,3,6,7,8] [3]]) ?_
 ·exact ⟨by omega,by simp,rfl⟩
 rintro ⟨i,seen⟩ ⟨hi,hs,hc⟩
 simp only at hi hs hc
 refine zQ 1 [{}] [] ?_
 refine zS ?_
 refine zD 9 ((↑i:Int)<(↑l.length:Int)) (fun h1=>?_) (fun h1=>?_)
 ·have hi':i<l.length:=by omega
  rw [drop_getD hi',chk] at hc
  by_cases hr:(l.getD i default).1<1
  ·skip
   refine zK ?_
   refine then_n ?_
   refine zS ?_
   refine zB 1 ?_
   refine zP 1 [yH [(0,{k:=i}),(1,yV (AV.agg [ai ((l.getD i default).fst),AV.sl 1 (bytesA (l.getD i default).snd)]))]] [.keep [5,9,0,3,6,7,8] [5,3]] [yR (↑i:Int),yB (i*(2:Nat)<(encA shareC l).length) (by simp only [encA_len (f:=shareC) (e:=2) (fun _=>rfl)];omega),yB (List.take 2 (List.drop (i*(2:Nat)) (encA shareC l))= [ai ((l.getD i default).fst),AV.sl 1 (bytesA (l.getD i default).snd)]) (encA_sub (f:=shareC) (e:=2) (k:=i) (j:=0) (fun _=>rfl) (by omega) (by decide) rfl),yR (2:Nat),yL 2 2] ?_
   refine zS ?_
   refine zP 1 [{}] [.keep [19,5,9,0,3,6,7,8] [5,3]] [yT ((l.getD i default).fst<1),yT ((l.getD i default).fst<1),yT ((l.getD i default).fst<1),yT ((l.getD i default).fst<1)] ?_
   refine zT 19 ?_
   refine zQ 1 [{}] [] ?_
   refine zR ?_
   refine then_r ?_
   refine inb_r ?_
   refine then_r ?_
   refine round_r ?_
   refine inb_r ?_
   refine then_r ?_
   refine zV [yJ 9 (chkE l) (by rw [←hc,if_pos (Or.inl hr)])]
  by_cases hr2:255<(l.getD i default).1
  ·skip
   refine zK ?_
   refine then_n ?_
   refine zS ?_
   refine zB 1 ?_
   refine zP 1 [yH [(0,{k:=i}),(1,yV (AV.agg [ai ((l.getD i default).fst),AV.sl 1 (bytesA (l.getD i default).snd)]))]] [.keep [5,9,0,3,6,7,8] [5,3]] [yR (↑i:Int),yB (i*(2:Nat)<(encA shareC l).length) (by simp only [encA_len (f:=shareC) (e:=2) (fun _=>rfl)];omega),yB (List.take 2 (List.drop (i*(2:Nat)) (encA shareC l))= [ai ((l.getD i default).fst),AV.sl 1 (bytesA (l.getD i default).snd)]) (encA_sub (f:=shareC) (e:=2) (k:=i) (j:=0) (fun _=>rfl) (by omega) (by decide) rfl),yR (2:Nat),yL 2 2] ?_
   refine zS ?_
   refine zP 1 [yH [(4,{g:=false}),(5,{g:=false}),(6,{g:=false}),(7,{b:=false})]] [.keep [19,5,9,0,3,6,7,8] [5,3]] [yF ((l.getD i default).fst<1),yF ((l.getD i default).fst<1),yF ((l.getD i default).fst<1),yF ((l.getD i default).fst<1)] ?_
   refine zTd 19 ((l.getD i default).fst>255) ?_
   refine zQ 1 [{}] [] ?_
   refine zR ?_
   refine then_r ?_
   refine inb_r ?_
   refine then_r ?_
   refine round_r ?_
   refine inb_r ?_
   refine then_r ?_
   refine zV [yJ 9 (chkE l) (by rw [←hc,if_pos (Or.inr hr2)])]
  rw [if_neg (by omega)] at hc
  refine zK ?_
  refine then_n ?_
  refine zS ?_
  refine zB 1 ?_
  refine zP 1 [yH [(0,{k:=i}),(1,yV (AV.agg [ai ((l.getD i default).fst),AV.sl 1 (bytesA (l.getD i default).snd)]))]] [.keep [5,9,0,3,6,7,8] [5,3]] [yR (↑i:Int),yB (i*(2:Nat)<(encA shareC l).length) (by simp only [encA_len (f:=shareC) (e:=2) (fun _=>rfl)];omega),yB (List.take 2 (List.drop (i*(2:Nat)) (encA shareC l))= [ai ((l.getD i default).fst),AV.sl 1 (bytesA (l.getD i default).snd)]) (encA_sub (f:=shareC) (e:=2) (k:=i) (j:=0) (fun _=>rfl) (by omega) (by decide) rfl),yR (2:Nat),yL 2 2] ?_
  refine zS ?_
  refine zP 1 [yH [(4,{g:=false}),(5,{g:=false}),(6,{g:=false}),(7,{b:=false})]] [.keep [19,5,9,0,3,6,7,8] [5,3]] [yF ((l.getD i default).fst<1),yF ((l.getD i default).fst<1),yF ((l.getD i default).fst<1),yF ((l.getD i default).fst<1)] ?_
  refine zFd 19 ((l.getD i default).fst>255) ?_
  refine zK ?_
  refine then_n ?_
  refine zS ?_
  refine zP 1 [yH [(2,{k:=(l.getD i default).fst.toNat}),(3,yV (ao (seen.getD (l.getD i default).fst.toNat false)))]] [.keep [23,19,5,9,0,3,6,7,8] [5,3]] [yO ((l.getD i default).fst=(↑(l.getD i default).fst.toNat:Int)),yO ((l.getD i default).fst.toNat<(256:Nat)),yB ((boolsA seen)[(l.getD i default).fst.toNat]?=some (ao (seen.getD (l.getD i default).fst.toNat false))) (boolsA_at (by omega))] ?_
  refine AWP.cond (x:=.tmp 23) (b:=seen.getD (l.getD i default).fst.toNat false) (by kernel_rfl) (by kernel_rfl) (fun h4=>?_) (fun h4=>?_)
  ·skip
   refine zQ 1 [{}] [] ?_
   refine zR ?_
   refine then_r ?_
   refine inb_r ?_
   refine then_r ?_
   refine round_r ?_
   refine inb_r ?_
   refine then_r ?_
   refine zV [yJ 10 (chkE l) (by rw [←hc,if_pos h4])]
  rw [h4,if_neg (by decide)] at hc
  refine zK ?_
  refine then_n ?_
  refine zP 1 [yH [(2,{k:=(l.getD i default).fst.toNat}),(3,yV (AV.arr (boolsA (seen.set (l.getD i default).fst.toNat true))))]] [.keep [23,19,5,9,0,3,6,7,8] [3,5]] [yO ((l.getD i default).fst=(↑(l.getD i default).fst.toNat:Int)),yO ((l.getD i default).fst.toNat<(256:Nat)),yB ((boolsA seen).set (l.getD i default).fst.toNat (ao true)=boolsA (seen.set (l.getD i default).fst.toNat true)) (boolsA_set _ _ _),yB ((l.getD i default).fst.toNat+(1:Nat)≤(boolsA seen).length) (by simp only [boolsA_len];omega)] ?_
  refine zS ?_
  refine zP 1 [{hs:=[(2,{k:=(l.getD i default).snd.length}),(4,{k:=0}),(6,yV (AV.sl 1 (bytesA (l.getD (0:Nat) default).snd))),(7,{k:=(l.getD (0:Nat) default).snd.length})],T:=8}] [.keep [35,23,19,5,9,0,3,6,7,8] [3,5]] [yI (bytesA_len ((l.getD i default).snd)),yR (0:Int),yB ((0:Nat)<(encA shareC l).length) (by simp only [encA_len (f:=shareC) (e:=2) (fun _=>rfl)];omega),yB ((encA shareC l)[(1:Nat)]?=some (AV.sl 1 (bytesA (l.getD (0:Nat) default).snd))) (encA_at (f:=shareC) (e:=2) (k:=0) (j:=1) (fun _=>rfl) (by omega) rfl),yI (bytesA_len ((l.getD (0:Nat) default).snd))] ?_
  refine zN 35 (↑(l.getD i default).snd.length:Int) (↑(l.getD (0:Nat) default).snd.length:Int) (fun h5=>?_) (fun h5=>?_)
  ·rw [if_pos (by omega)] at hc
   refine zQ 1 [{}] [] ?_
   refine zR ?_
   refine then_r ?_
   refine inb_r ?_
   refine then_r ?_
   refine round_r ?_
   refine inb_r ?_
   refine then_r ?_
   refine zV [yJ 4 (chkE l) (by rw [←hc])]
  rw [if_neg (by omega)] at hc
  refine zK ?_
  refine then_n ?_
  refine zP 1 [yH [(2,{k:=(l.getD i default).snd.length})]] [.keep [39,35,23,19,5,9,0,3,6,7,8] [3,5]] [yI (bytesA_len ((l.getD i default).snd))] ?_
  refine zD 39 ((↑(l.getD i default).snd.length:Int)>64) (fun h6=>?_) (fun h6=>?_)
  ·rw [if_pos (by omega)] at hc
   refine zQ 1 [{}] [] ?_
   refine zR ?_
   refine inb_r ?_
   refine then_r ?_
   refine round_r ?_
   refine inb_r ?_
   refine then_r ?_
   refine zV [yJ 8 (chkE l) (by rw [←hc])]
  rw [if_neg (by omega)] at hc
  refine zK ?_
  refine inb_n ?_
  refine then_n ?_
  refine zX (yH [(0,yV (ai ((↑i:Int)+1)))]) [yN ((↑i:Int)+1)] ?_
  refine round_n (i+1,seen.set (l.getD i default).1.toNat true) ⟨by omega,by simpa using hs,hc⟩ (by omega) (zW [.keep [0,3,6,7,8] [3]])
 ·have e:i=l.length:=by omega
  subst e
  refine zE 0 ?_
  refine then_e ?_
  refine round_e ?_
  refine inb_e ?_
  refine then_n ?_
  refine zQ 1 [{}] [] ?_
  refine zR ?_
  refine zV [yJ 0 (chkE l) (by rw [←hc,List.drop_length];rfl)]
end Go.Proofs.YtejpabdmiagnnaaGreatDoor
