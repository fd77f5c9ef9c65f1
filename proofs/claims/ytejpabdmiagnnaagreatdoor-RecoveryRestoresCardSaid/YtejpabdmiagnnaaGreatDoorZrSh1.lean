import Derived.Test.YtejpabdmiagnnaaGreatDoorZrV8
import Derived.Test.YtejpabdmiagnnaaGreatDoorProg
set_option linter.all false
namespace Go.Proofs.YtejpabdmiagnnaaGreatDoor
open Go.RowKit
set_option maxRecDepth 100000
set_option maxHeartbeats 4000000
set_option linter.unusedVariables false
structure MS where
 a:UInt8
 b:UInt8
 p:UInt8
def mstep (s:MS):MS:=⟨if s.a&&&128≠0 then (s.a<<<1)^^^27 else s.a<<<1,s.b>>>1,if s.b&&&1≠0 then s.p^^^s.a else s.p⟩
def msteps (s:MS):Nat->MS
 | 0=>s
 | k+1=>mstep (msteps s k)
def gmul (a b:UInt8):UInt8:=(msteps ⟨a,b,0⟩ 8).p
theorem mul_ret (a b:UInt8):Ret Tryz.prog 168 [ab a,ab b] (ab (gmul a b)):=by
 refine zO Tryz.func168 27 ?_
 refine zQ 2 [{},{}] [] ?_
 refine zS ?_
 refine zQ 1 [{}] [] ?_
 refine zB 0 ?_
 refine zL (fun (k:Nat)=>(⟨[(0,ab (msteps ⟨a,b,0⟩ k).a),(1,ab (msteps ⟨a,b,0⟩ k).b),(5,ab (msteps ⟨a,b,0⟩ k).p),(7,ai k)],[]⟩:AS)) (fun k=>(k≤8)) (fun k=>(8-k)) (0) ?_ (zW [.keep [0,1,5,7] []]) ?_
 ·omega
 intro k hk
 generalize hm:msteps ⟨a,b,0⟩ k=s
 refine zQ 1 [{}] [] ?_
 refine zS ?_
 refine zD 8 ((↑k:Int)<8) (fun hc=>?_) (fun hc=>?_)
 ·skip
  refine zK ?_
  refine then_n ?_
  refine zS ?_
  refine zB 1 ?_
  refine AWP.join (⟨[(0,ab s.a),(1,ab s.b),(5,ab (if s.b&&&1≠0 then s.p^^^s.a else s.p)),(7,ai (↑k:Int))],[]⟩:AS) (by kernel_rfl) ?_ ?_
  ·refine zP 1 [yH [(1,yV (ab (s.b&&&(1:UInt8)))),(2,yV (ao (s.b&&&(1:UInt8) != 0)))]] [.keep [11,8,0,1,5,7] []] [yI (avb_and s.b 1),yI (avb_ne (s.b&&&(1:UInt8)) 0)] ?_
   refine zN 11 (s.b&&&(1:UInt8)) 0 (fun hc=>?_) (fun hc=>?_)
   ·skip
    refine zX (yH [(2,yV (ab (s.p^^^s.a)))]) [yI (avb_xor s.p s.a)] ?_
    refine then_n ?_
    exact Weaks.of [.keep [0,1,5,7] []] (s1:=AS.mk [(0,ab s.a),(1,ab s.b),(5,ab (s.p^^^s.a)),(7,ai (↑k:Int))] []) (by kernel_rfl) (as_eq (f_cons rfl (f_cons rfl (f_cons (by rw [if_pos hc]) (f_cons rfl rfl)))) rfl)
   ·skip
    refine zK ?_
    refine then_n ?_
    exact Weaks.of [.keep [0,1,5,7] []] (s1:=AS.mk [(0,ab s.a),(1,ab s.b),(5,ab s.p),(7,ai (↑k:Int))] []) (by kernel_rfl) (as_eq (f_cons rfl (f_cons rfl (f_cons (by rw [if_neg (by simpa using hc)]) (f_cons rfl rfl)))) rfl)
  refine zP 2 [yH [(1,yV (ab (s.a&&&(128:UInt8)))),(2,yV (ao (s.a&&&(128:UInt8) != 0)))],yH [(1,yV (ab (s.a<<<(1:UInt8))))]] [.keep [0,6,1,5,7] []] [yI (avb_and s.a 128),yI (avb_ne (s.a&&&(128:UInt8)) 0),yI (avb_shl s.a ((1:Int)) (by omega) (by omega)),yO ((0:Int)≤1)] ?_
  refine AWP.join (⟨[(0,ab (if s.a&&&128≠0 then (s.a<<<1)^^^27 else s.a<<<1)),(1,ab s.b),(5,ab (if s.b&&&(1:UInt8)≠0 then s.p^^^s.a else s.p)),(7,ai (↑k:Int))],[]⟩:AS) (by kernel_rfl) ?_ ?_
  ·refine zQ 1 [{}] [] ?_
   refine zN 20 (s.a&&&(128:UInt8)) 0 (fun hc=>?_) (fun hc=>?_)
   ·skip
    refine zX (yH [(1,yV (ab (s.a<<<(1:UInt8)^^^(27:UInt8))))]) [yI (avb_xor (s.a<<<(1:UInt8)) 27)] ?_
    refine then_n ?_
    exact Weaks.of [.keep [0,1,5,7] []] (s1:=AS.mk [(0,ab (s.a<<<(1:UInt8)^^^(27:UInt8))),(1,ab s.b),(5,ab (if s.b&&&(1:UInt8)≠0 then s.p^^^s.a else s.p)),(7,ai (↑k:Int))] []) (by kernel_rfl) (as_eq (f_cons (by rw [if_pos hc]) (f_cons rfl (f_cons rfl (f_cons rfl rfl)))) rfl)
   ·skip
    refine zK ?_
    refine then_n ?_
    exact Weaks.of [.keep [0,1,5,7] []] (s1:=AS.mk [(0,ab (s.a<<<(1:UInt8))),(1,ab s.b),(5,ab (if s.b&&&(1:UInt8)≠0 then s.p^^^s.a else s.p)),(7,ai (↑k:Int))] []) (by kernel_rfl) (as_eq (f_cons (by rw [if_neg (by simpa using hc)]) (f_cons rfl (f_cons rfl (f_cons rfl rfl)))) rfl)
  refine zX (yH [(1,yV (ab (s.b>>>(1:UInt8))))]) [yI (avb_shr s.b ((1:Int)) (by omega) (by omega)),yO ((0:Int)≤1)] ?_
  refine inb_n ?_
  refine then_n ?_
  refine zX (yH [(0,yV (ai ((↑k:Int)+1)))]) [yN ((↑k:Int)+1)] ?_
  refine round_n (k+1) (by omega) (by omega) (Weaks.of [.keep [0,1,5,7] []] (s1:=AS.mk [(0,ab (if s.a&&&(128:UInt8)≠0 then s.a<<<(1:UInt8)^^^(27:UInt8) else s.a<<<(1:UInt8))),(1,ab (s.b>>>(1:UInt8))),(5,ab (if s.b&&&(1:UInt8)≠0 then s.p^^^s.a else s.p)),(7,ai ((↑k:Int)+1))] []) (by kernel_rfl) (as_eq (f_cons (by simp only [msteps,hm,mstep]) (f_cons (by simp only [msteps,hm,mstep]) (f_cons (by simp only [msteps,hm,mstep]) (f_cons rfl rfl)))) rfl))
 ·have e8:k=8:=by omega
  subst e8
  refine zE 0 ?_
  refine then_e ?_
  refine round_e ?_
  refine inb_e ?_
  refine then_n ?_
  refine zQ 1 [{}] [] ?_
  refine zR ?_
  refine zV [yB (Value.int .u8 (bv s.p)=Value.int .u8 (bv (gmul a b))) (by rw [←hm];rfl)]
end Go.Proofs.YtejpabdmiagnnaaGreatDoor
namespace Go.Proofs.YtejpabdmiagnnaaGreatDoor
open Go.RowKit
set_option maxRecDepth 100000
set_option maxHeartbeats 4000000
set_option linter.unusedVariables false
def isteps (a:UInt8):Nat->UInt8×UInt8
 | 0=>(a,1)
 | k+1=>(gmul (isteps a k).1 (isteps a k).1,gmul (isteps a k).2 (gmul (isteps a k).1 (isteps a k).1))
def ginv (a:UInt8):UInt8:=(isteps a 7).2
theorem inverse_ret (a:UInt8):Ret Tryz.prog 169 [ab a] (ab (ginv a)):=by
 refine zO Tryz.func169 16 ?_
 refine zQ 3 [{},{},{}] [] ?_
 refine zS ?_
 refine zQ 1 [{}] [] ?_
 refine zB 0 ?_
 refine zL (fun (k:Nat)=>(⟨[(3,ab (isteps a k).2),(4,ab (isteps a k).1),(6,ai k)],[]⟩:AS)) (fun k=>(k≤7)) (fun k=>(7-k)) (0) ?_ (zW [.keep [3,4,6] []]) ?_
 ·omega
 intro k hk
 refine zQ 1 [{}] [] ?_
 refine zS ?_
 refine zD 7 ((↑k:Int)<7) (fun hc=>?_) (fun hc=>?_)
 ·skip
  refine zK ?_
  refine then_n ?_
  refine zS ?_
  refine zB 1 ?_
  refine zP 1 [yH [(2,yV (ab (gmul (isteps a k).fst (isteps a k).fst)))]] [.keep [4,7,3,6] []] [yI (mul_ret ((isteps a k).fst) ((isteps a k).fst))] ?_
  refine zX (yH [(2,yV (ab (gmul (isteps a k).snd (gmul (isteps a k).fst (isteps a k).fst))))]) [yI (mul_ret ((isteps a k).snd) (gmul (isteps a k).fst (isteps a k).fst))] ?_
  refine inb_n ?_
  refine then_n ?_
  refine zX (yH [(0,yV (ai ((↑k:Int)+1)))]) [yN ((↑k:Int)+1)] ?_
  refine round_n (k+1) (by omega) (by omega) (zW [.keep [3,4,6] []])
 ·have e8:k=7:=by omega
  subst e8
  refine zE 0 ?_
  refine then_e ?_
  refine round_e ?_
  refine inb_e ?_
  refine then_n ?_
  refine zQ 1 [{}] [] ?_
  refine zR ?_
  refine zV [yR (Value.int .u8 (bv (ginv a)))]
structure RS where
 x:UInt64
 p:UInt8
def rstep (b:UInt8) (k:Nat) (s:RS):RS:=⟨if (s.x<<<1)&&&256≠0 then (s.x<<<1)^^^283 else s.x<<<1,if (b>>>UInt8.ofNat k)&&&1=1 then s.p^^^s.x.toUInt8 else s.p⟩
def rsteps (a b:UInt8):Nat->RS
 | 0=>⟨a.toUInt64,0⟩
 | k+1=>rstep b k (rsteps a b k)
def rgmul (a b:UInt8):UInt8:=(rsteps a b 8).p
theorem refmul_ret (a b:UInt8):Ret Tryz.prog 165 [ab a,ab b] (ab (rgmul a b)):=by
 refine zO Tryz.func165 31 ?_
 refine zP 3 [{},{},yH [(1,yV (aw a.toUInt64))]] [.keep [6,5,4,0,1] []] [yI (avw_bv a)] ?_
 refine zS ?_
 refine zQ 1 [{}] [] ?_
 refine zB 0 ?_
 refine zL (fun (k:Nat)=>(⟨[(1,ab b),(5,ab (rsteps a b k).p),(6,aw (rsteps a b k).x),(7,AV.val (.int .u64 k))],[]⟩:AS)) (fun k=>(k≤8)) (fun k=>(8-k)) (0) ?_ (zW [.keep [1,5,6,7] []]) ?_
 ·omega
 intro k hk
 generalize hm:rsteps a b k=s
 refine zS ?_
 refine zQ 1 [{}] [] ?_
 refine zD 11 ((↑k:Int)<8) (fun hc=>?_) (fun hc=>?_)
 ·skip
  refine zK ?_
  refine then_n ?_
  refine zS ?_
  refine zB 1 ?_
  refine AWP.join (⟨[(1,ab b),(5,ab (if (b>>>UInt8.ofNat k)&&&1=1 then s.p^^^s.x.toUInt8 else s.p)),(6,aw s.x),(7,AV.val (Value.int .u64 (↑k:Int)))],[]⟩:AS) (by kernel_rfl) ?_ ?_
  ·refine zP 1 [yH [(2,yV (ab (b>>>UInt8.ofNat (↑k:Int).toNat))),(3,yV (ab (b>>>UInt8.ofNat (↑k:Int).toNat&&&(1:UInt8)))),(4,yV (ao (b>>>UInt8.ofNat (↑k:Int).toNat&&&(1:UInt8) == 1)))]] [.keep [18,11,1,5,6,7] []] [yI (avb_shr b ((↑k:Int)) (by omega) (by omega)),yO ((0:Int)≤(↑k:Int)),yI (avb_and (b>>>UInt8.ofNat (↑k:Int).toNat) 1),yI (avb_eq (b>>>UInt8.ofNat (↑k:Int).toNat&&&(1:UInt8)) 1)] ?_
   refine AWP.condE (x:=.tmp 18) (u:=b>>>UInt8.ofNat (↑k:Int).toNat&&&(1:UInt8)) (v:=1) (by kernel_rfl) (by kernel_rfl) (fun hc=>?_) (fun hc=>?_)
   ·skip
    refine zX (yH [(2,yV (ab s.x.toUInt8)),(3,yV (ab (s.p^^^s.x.toUInt8)))]) [yI (avb_wv s.x),yI (avb_xor s.p s.x.toUInt8)] ?_
    refine then_n ?_
    exact Weaks.of [.keep [1,5,6,7] []] (s1:=AS.mk [(1,ab b),(5,ab (s.p^^^s.x.toUInt8)),(6,aw s.x),(7,AV.val (Value.int .u64 (↑k:Int)))] []) (by kernel_rfl) (as_eq (f_cons rfl (f_cons (by rw [if_pos (by simpa using hc)]) (f_cons rfl (f_cons rfl rfl)))) rfl)
   ·skip
    refine zK ?_
    refine then_n ?_
    exact Weaks.of [.keep [1,5,6,7] []] (s1:=AS.mk [(1,ab b),(5,ab s.p),(6,aw s.x),(7,AV.val (Value.int .u64 (↑k:Int)))] []) (by kernel_rfl) (as_eq (f_cons rfl (f_cons (by rw [if_neg (by simpa using hc)]) (f_cons rfl (f_cons rfl rfl)))) rfl)
  refine zP 2 [yH [(1,yV (aw (s.x<<<(1:UInt64))))],yH [(1,yV (aw (s.x<<<(1:UInt64)&&&(256:UInt64)))),(2,yV (ao (s.x<<<(1:UInt64)&&&(256:UInt64) != 0)))]] [.keep [27,6,1,5,7] []] [yI (avw_shl s.x ((1:Int)) (by omega) (by omega)),yO ((0:Int)≤1),yI (avw_and (s.x<<<(1:UInt64)) 256),yI (avw_ne (s.x<<<(1:UInt64)&&&(256:UInt64)) 0)] ?_
  refine zN 27 (s.x<<<(1:UInt64)&&&(256:UInt64)) 0 (fun h2=>?_) (fun h2=>?_)
  ·refine zX (yH [(1,yV (aw (s.x<<<(1:UInt64)^^^(283:UInt64))))]) [yI (avw_xor (s.x<<<(1:UInt64)) 283)] ?_
   refine inb_n ?_
   refine then_n ?_
   refine zX (yH [(1,yV (AV.val (Value.int .u64 ((↑k:Int)+1))))]) [yB (AV.val (Value.int .u64 (IntKind.u64.wrap ((↑k:Int)+1)))=AV.val (Value.int .u64 ((↑k:Int)+1))) (av_u64 (by omega) (by omega))] ?_
   refine round_n (k+1) (by omega) (by omega) (Weaks.of [.keep [1,5,6,7] []] (s1:=AS.mk [(1,ab b),(5,ab (if b>>>UInt8.ofNat k&&&(1:UInt8)=1 then s.p^^^s.x.toUInt8 else s.p)),(6,aw (s.x<<<(1:UInt64)^^^(283:UInt64))),(7,AV.val (Value.int .u64 ((↑k:Int)+1)))] []) (by kernel_rfl) (as_eq (f_cons rfl (f_cons (by simp only [rsteps,hm,rstep]<;>rw [if_pos (by simpa using h2)]) (f_cons (by simp only [rsteps,hm,rstep]<;>rw [if_pos (by simpa using h2)]) (f_cons rfl rfl)))) rfl))
  ·refine zK ?_
   refine inb_n ?_
   refine then_n ?_
   refine zX (yH [(1,yV (AV.val (Value.int .u64 ((↑k:Int)+1))))]) [yB (AV.val (Value.int .u64 (IntKind.u64.wrap ((↑k:Int)+1)))=AV.val (Value.int .u64 ((↑k:Int)+1))) (av_u64 (by omega) (by omega))] ?_
   refine round_n (k+1) (by omega) (by omega) (Weaks.of [.keep [1,5,6,7] []] (s1:=AS.mk [(1,ab b),(5,ab (if b>>>UInt8.ofNat k&&&(1:UInt8)=1 then s.p^^^s.x.toUInt8 else s.p)),(6,aw (s.x<<<(1:UInt64))),(7,AV.val (Value.int .u64 ((↑k:Int)+1)))] []) (by kernel_rfl) (as_eq (f_cons rfl (f_cons (by simp only [rsteps,hm,rstep]<;>rw [if_neg (by simpa using h2)]) (f_cons (by simp only [rsteps,hm,rstep]<;>rw [if_neg (by simpa using h2)]) (f_cons rfl rfl)))) rfl))
 ·have e8:k=8:=by omega
  subst e8
  refine zE 0 ?_
  refine then_e ?_
  refine round_e ?_
  refine inb_e ?_
  refine then_n ?_
  refine zP 1 [{}] [.keep [4,11,1,5,6,7] []] [] ?_
  refine zR ?_
  refine zV [yB (Value.int .u8 (bv s.p)=Value.int .u8 (bv (rgmul a b))) (by rw [←hm];rfl)]
def gpow (a:UInt8):Nat->UInt8
 | 0=>1
 | k+1=>rgmul (gpow a k) a
theorem refinverse_ret (a:UInt8):Ret Tryz.prog 174 [ab a] (ab (gpow a 254)):=by
 refine zO Tryz.func174 13 ?_
 refine zQ 2 [{},{}] [] ?_
 refine zS ?_
 refine zQ 1 [{}] [] ?_
 refine zB 0 ?_
 refine zL (fun (k:Nat)=>(⟨[(0,ab a),(3,ab (gpow a k)),(4,ai k)],[]⟩:AS)) (fun k=>(k≤254)) (fun k=>(254-k)) (0) ?_ (zW [.keep [0,3,4] []]) ?_
 ·omega
 intro k hk
 refine zS ?_
 refine zQ 1 [{}] [] ?_
 refine zD 6 ((↑k:Int)<254) (fun hc=>?_) (fun hc=>?_)
 ·skip
  refine zK ?_
  refine then_n ?_
  refine zS ?_
  refine zB 1 ?_
  refine zX (yH [(2,yV (ab (rgmul (gpow a k) a)))]) [yI (refmul_ret (gpow a k) a)] ?_
  refine inb_n ?_
  refine then_n ?_
  refine zX (yH [(1,yV (ai ((↑k:Int)+1)))]) [yN ((↑k:Int)+1)] ?_
  refine round_n (k+1) (by omega) (by omega) (zW [.keep [0,3,4] []])
 ·have e8:k=254:=by omega
  subst e8
  refine zE 0 ?_
  refine then_e ?_
  refine round_e ?_
  refine inb_e ?_
  refine then_n ?_
  refine zP 1 [{}] [.keep [2,6,0,3,4] []] [] ?_
  refine zR ?_
  refine zV [yR (Value.int .u8 (bv (gpow a (254:Nat))))]
end Go.Proofs.YtejpabdmiagnnaaGreatDoor
