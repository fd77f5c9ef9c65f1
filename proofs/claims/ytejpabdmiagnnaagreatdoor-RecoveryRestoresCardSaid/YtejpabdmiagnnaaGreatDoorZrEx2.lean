import Derived.Test.YtejpabdmiagnnaaGreatDoorZrV8
import Derived.Test.YtejpabdmiagnnaaGreatDoorZrEx1
set_option linter.all false
namespace Go.Proofs.YtejpabdmiagnnaaGreatDoor
open Go.RowKit
set_option maxRecDepth 100000
set_option maxHeartbeats 4000000
set_option linter.unusedVariables false
def mq (n:Nat):UInt64:=UInt64.ofNat (n%2305843009213693951)
theorem mq_nat (n:Nat):(mq n).toNat=n%2305843009213693951:=by
 rw [mq,UInt64.toNat_ofNat',Nat.mod_eq_of_lt];omega
theorem mq_of {n m:Nat} (h:n%2305843009213693951=m%2305843009213693951):mq n=mq m:=by rw [mq,mq,h]
theorem modQ_nat (x:UInt64):(x%2305843009213693951).toNat=x.toNat%2305843009213693951:=by rw [UInt64.toNat_mod];rfl
theorem div64z_ret (lo:UInt64):Ret Tryz.prog 221 [aw 0,aw lo,aw 2305843009213693951] (.tup [aw (lo/2305843009213693951),aw (lo%2305843009213693951)]):=by
 refine zO Tryz.func221 135 ?_
 refine zQ 1 [{}] [] ?_
 refine zS ?_
 refine zP 1 [yH [(1,yV (ao (2305843009213693951 == 0)))]] [.keep [20,7,6,0,1,2] []] [yI (avw_eq 2305843009213693951 0)] ?_
 refine zFb 20 (2305843009213693951 == 0) rfl ?_
 refine zK ?_
 refine then_n ?_
 refine zS ?_
 refine zP 1 [{}] [.keep [24,20,7,6,0,1,2] []] [] ?_
 refine zFb 24 (decide (wv 2305843009213693951≤wv 0)) rfl ?_
 refine zK ?_
 refine then_n ?_
 refine zS ?_
 refine zQ 1 [yH [(1,yV (ao (0 == 0)))]] [yI (avw_eq 0 0)] ?_
 refine zTb 27 (0 == 0) rfl ?_
 refine zP 1 [{hs:=[(2,yV (aw (lo/2305843009213693951))),(5,yV (aw (lo%2305843009213693951)))],T:=7}] [.keep [7,6,27,24,20,0,1,2] []] [yI (avw_div lo 2305843009213693951),yB (wv 2305843009213693951≠(0:Int)) (by decide),yI (avw_mod lo 2305843009213693951),yB (wv 2305843009213693951≠(0:Int)) (by decide)] ?_
 refine zR ?_
 refine then_r ?_
 refine zV [yR (Value.int .u64 (wv (lo/2305843009213693951))),yR (Value.int .u64 (wv (lo%2305843009213693951)))]
theorem rem64_ret (hi lo:UInt64):Ret Tryz.prog 212 [aw hi,aw lo,aw 2305843009213693951] (aw (mq (hi.toNat*18446744073709551616+lo.toNat))):=by
 have hm:=modQ_nat hi
 have hl:=lo.toNat_lt
 by_cases h:hi%2305843009213693951=0
 ·have e:lo%2305843009213693951=mq (hi.toNat*18446744073709551616+lo.toNat):=by
   apply UInt64.toNat_inj.1
   rw [h] at hm
   have hm:0=hi.toNat%2305843009213693951:=hm
   rw [mq_nat,modQ_nat]
   omega
  refine zO Tryz.func212 19 ?_
  refine zP 3 [{},yH [(2,yV (aw 0)),(5,yV (AV.tup [aw (lo/2305843009213693951),aw (lo%2305843009213693951)]))],{}] [.keep [6,8,0,1,2] []] [yB (AV.val (Value.int .u64 ((wv hi).tmod (wv 2305843009213693951)))=aw 0) ((avw_mod hi 2305843009213693951).trans (congrArg aw h)),yB (wv 2305843009213693951≠(0:Int)) (by decide),yI (div64z_ret lo)] ?_
  refine zR ?_
  refine zV [yK (wv (lo%2305843009213693951)) (wv (mq (hi.toNat*(18446744073709551616:Nat)+lo.toNat))) (by rw [e])]
 ·have h1:(hi%2305843009213693951).toNat≠0:=fun e=>h (UInt64.toNat_inj.1 e)
  have h2:(hi%2305843009213693951).toNat<2305843009213693951:=by omega
  have e:UInt64.ofNat (((hi%2305843009213693951).toNat*18446744073709551616+lo.toNat)%2305843009213693951)=mq (hi.toNat*18446744073709551616+lo.toNat):=by
   rw [hm];apply mq_of;omega
  refine zO Tryz.func212 19 ?_
  refine zP 3 [{},yH [(2,yV (aw (hi%2305843009213693951))),(5,yV (AV.tup [aw (kq ((hi%2305843009213693951)<<<(3:UInt64)|||lo>>>(61:UInt64)) (lo<<<(3:UInt64)>>>(32:UInt64))*4294967296+kq (kr ((hi%2305843009213693951)<<<(3:UInt64)|||lo>>>(61:UInt64)) (lo<<<(3:UInt64)>>>(32:UInt64))) (lo<<<(3:UInt64)&&&(4294967295:UInt64))),aw (UInt64.ofNat (((hi%2305843009213693951).toNat*(18446744073709551616:Nat)+lo.toNat)%(2305843009213693951:Nat)))]))],{}] [.keep [6,8,0,1,2] []] [yI (avw_mod hi 2305843009213693951),yB (wv 2305843009213693951≠(0:Int)) (by decide),yI (div64_ret (hi%2305843009213693951) lo (by assumption) (by assumption))] ?_
  refine zR ?_
  refine zV [yK (wv (UInt64.ofNat (((hi%2305843009213693951).toNat*(18446744073709551616:Nat)+lo.toNat)%(2305843009213693951:Nat)))) (wv (mq (hi.toNat*(18446744073709551616:Nat)+lo.toNat))) (by rw [e])]
theorem mulx_ret (a b:UInt64):Ret Tryz.prog 170 [aw a,aw b] (aw (mq (a.toNat*b.toNat))):=by
 have e:(UInt64.ofNat (a.toNat*b.toNat/18446744073709551616)).toNat*18446744073709551616+(a*b).toNat=a.toNat*b.toNat:=by
  have ha:=a.toNat_lt
  have hb:=b.toNat_lt
  have h:a.toNat*b.toNat≤18446744073709551615*18446744073709551615:=Nat.mul_le_mul (by omega) (by omega)
  rw [UInt64.toNat_mul,UInt64.toNat_ofNat']
  omega
 refine zO Tryz.func170 16 ?_
 refine zP 3 [{},yH [(2,yV (AV.tup [aw (UInt64.ofNat (a.toNat*b.toNat/(18446744073709551616:Nat))),aw (a*b)]))],yH [(2,yV (aw (mq ((UInt64.ofNat (a.toNat*b.toNat/(18446744073709551616:Nat))).toNat*(18446744073709551616:Nat)+(a*b).toNat))))]] [.keep [4,6,5,0,1] []] [yI (mul64_ret a b),yI (rem64_ret (UInt64.ofNat (a.toNat*b.toNat/(18446744073709551616:Nat))) (a*b))] ?_
 refine zR ?_
 refine zV [yK (wv (mq ((UInt64.ofNat (a.toNat*b.toNat/(18446744073709551616:Nat))).toNat*(18446744073709551616:Nat)+(a*b).toNat))) (wv (mq (a.toNat*b.toNat))) (by rw [e])]
theorem shr1_nat (x:UInt64):(x>>>1).toNat=x.toNat/2:=by
 rw [UInt64.toNat_shiftRight];exact Nat.shiftRight_eq_div_pow x.toNat 1
theorem and1_nat (x:UInt64):(x&&&1).toNat=x.toNat%2:=by
 rw [UInt64.toNat_and];exact Nat.and_two_pow_sub_one_eq_mod x.toNat 1
theorem and1_iff (x:UInt64):x&&&1=1↔x.toNat%2=1:=by
 rw [←and1_nat];exact ⟨fun h=>by rw [h];rfl,fun h=>UInt64.toNat_inj.1 h⟩
theorem pow_half {r a n:Nat}:(n%2=1->(r*a%2305843009213693951)*(a*a%2305843009213693951)^(n/2)%2305843009213693951=r*a^n%2305843009213693951)∧(¬n%2=1->r*(a*a%2305843009213693951)^(n/2)%2305843009213693951=r*a^n%2305843009213693951):=by
 constructor
 ·intro h
  rw [mul_powmod,sq_pow,Nat.mul_mod,Nat.mod_mod,←Nat.mul_mod,Nat.mul_assoc,Nat.mul_comm a,←Nat.pow_succ]
  rw [show (2*(n/2)).succ=n by omega]
 ·intro h
  rw [mul_powmod,sq_pow,show 2*(n/2)=n by omega]
theorem powx_ret (a n:UInt64):Ret Tryz.prog 114 [aw a,aw n] (aw (mq (a.toNat^n.toNat))):=by
 refine zO Tryz.func114 20 ?_
 refine zQ 2 [{},{}] [] ?_
 refine zS ?_
 refine zB 0 ?_
 refine zL (fun (x:UInt64×UInt64×UInt64)=>(⟨[(4,AV.val (Value.int .u64 0)),(5,aw x.1),(0,aw x.2.1),(1,aw x.2.2)],[]⟩:AS)) (fun x=>(x.1.toNat*x.2.1.toNat^x.2.2.toNat%2305843009213693951=a.toNat^n.toNat%2305843009213693951∧x.1.toNat<2305843009213693951)) (fun x=>(x.2.2.toNat)) (((1,a,n):UInt64×UInt64×UInt64)) ?_ (zW [.keep [4,5,0,1] []]) ?_
 ·exact ⟨by dsimp only;rw [show (1:UInt64).toNat=1 from rfl,Nat.one_mul],by dsimp only;decide⟩
 rintro ⟨r,b,m⟩ ⟨hx,hr⟩
 dsimp only at hx hr
 by_cases h0:wv m>0
 ·have h0':0<m.toNat:=by unfold wv at h0;omega
  have hm1:=shr1_nat m
  by_cases h1:m&&&1=1
  ·have h1':=(and1_iff m).1 h1
   have key:=(pow_half (r:=r.toNat) (a:=b.toNat) (n:=m.toNat)).1 h1'
   have inv1:(mq (r.toNat*b.toNat)).toNat*(mq (b.toNat*b.toNat)).toNat^(m>>>1).toNat%2305843009213693951=a.toNat^n.toNat%2305843009213693951:=by
    rw [mq_nat,mq_nat,hm1,key,hx]
   have inv2:(mq (r.toNat*b.toNat)).toNat<2305843009213693951:=by rw [mq_nat];omega
   refine zS ?_
   refine zQ 1 [{}] [] ?_
   refine zTd 7 (wv m>0) ?_
   refine zK ?_
   refine then_n ?_
   refine zS ?_
   refine zB 1 ?_
   refine zS ?_
   refine zP 1 [yH [(1,yV (aw (m&&&(1:UInt64)))),(2,yV (ao (m&&&(1:UInt64) == 1)))]] [.keep [12,7,4,5,0,1] []] [yI (avw_and m 1),yI (avw_eq (m&&&(1:UInt64)) 1)] ?_
   refine zTb 12 (m&&&(1:UInt64) == 1) (decide_eq_true (by omega)) ?_
   refine zX (yH [(2,yV (aw (mq (r.toNat*b.toNat))))]) [yI (mulx_ret r b)] ?_
   refine then_n ?_
   refine zX (yH [(2,yV (aw (mq (b.toNat*b.toNat))))]) [yI (mulx_ret b b)] ?_
   refine inb_n ?_
   refine then_n ?_
   refine zX (yH [(1,yV (aw (m>>>(1:UInt64))))]) [yI (avw_shr m ((1:Int)) (by omega) (by omega)),yO ((0:Int)≤1)] ?_
   refine round_n ((mq (r.toNat*b.toNat),mq (b.toNat*b.toNat),m>>>1):UInt64×UInt64×UInt64) ⟨inv1,inv2⟩ (by dsimp only;omega) (zW [.keep [4,5,0,1] []])
  ·have h1':¬m.toNat%2=1:=fun e=>h1 ((and1_iff m).2 e)
   have key:=(pow_half (r:=r.toNat) (a:=b.toNat) (n:=m.toNat)).2 h1'
   have inv1:r.toNat*(mq (b.toNat*b.toNat)).toNat^(m>>>1).toNat%2305843009213693951=a.toNat^n.toNat%2305843009213693951:=by
    rw [mq_nat,hm1,key,hx]
   refine zS ?_
   refine zQ 1 [{}] [] ?_
   refine zTd 7 (wv m>0) ?_
   refine zK ?_
   refine then_n ?_
   refine zS ?_
   refine zB 1 ?_
   refine zS ?_
   refine zP 1 [yH [(1,yV (aw (m&&&(1:UInt64)))),(2,yV (ao (m&&&(1:UInt64) == 1)))]] [.keep [12,7,4,5,0,1] []] [yI (avw_and m 1),yI (avw_eq (m&&&(1:UInt64)) 1)] ?_
   refine zFb 12 (m&&&(1:UInt64) == 1) (decide_eq_false (by omega)) ?_
   refine zK ?_
   refine then_n ?_
   refine zX (yH [(2,yV (aw (mq (b.toNat*b.toNat))))]) [yI (mulx_ret b b)] ?_
   refine inb_n ?_
   refine then_n ?_
   refine zX (yH [(1,yV (aw (m>>>(1:UInt64))))]) [yI (avw_shr m ((1:Int)) (by omega) (by omega)),yO ((0:Int)≤1)] ?_
   refine round_n ((r,mq (b.toNat*b.toNat),m>>>1):UInt64×UInt64×UInt64) ⟨inv1,hr⟩ (by dsimp only;omega) (zW [.keep [4,5,0,1] []])
 ·have h0':m.toNat=0:=by unfold wv at h0;omega
  have e:r=mq (a.toNat^n.toNat):=by
   apply UInt64.toNat_inj.1
   rw [mq_nat,←hx,h0',Nat.pow_zero,Nat.mul_one,Nat.mod_eq_of_lt hr]
  refine zS ?_
  refine zQ 1 [{}] [] ?_
  refine zFd 7 (wv m>0) ?_
  refine zE 0 ?_
  refine then_e ?_
  refine round_e ?_
  refine inb_e ?_
  refine then_n ?_
  refine zP 1 [{}] [.keep [4,7,5,0,1] []] [] ?_
  refine zR ?_
  refine zV [yK (wv r) (wv (mq (a.toNat^n.toNat))) (by rw [e])]
theorem shr_at (t:UInt64) (j:Nat) (h0:0<j) (hj:j≤64):(t>>>UInt64.ofNat ((j:Int)-1).toNat).toNat=t.toNat/2^(j-1):=by
 rw [show ((j:Int)-1).toNat=j-1 by omega,UInt64.toNat_shiftRight,Nat.shiftRight_eq_div_pow,UInt64.toNat_ofNat',Nat.mod_eq_of_lt (a:=j-1) (by omega),Nat.mod_eq_of_lt (by omega)]
theorem half_at (T j:Nat) (h0:0<j):T/2^(j-1)=2*(T/2^j)+T/2^(j-1)%2:=by
 have e:T/2^j=T/2^(j-1)/2:=by rw [Nat.div_div_eq_div_mul,←Nat.pow_succ];congr 2;omega
 omega
theorem refmulx_ret (a b:UInt64):Ret Tryz.prog 166 [aw a,aw b] (aw (mq (a.toNat*b.toNat))):=by
 have hb:=modQ_nat b
 have ha:=modQ_nat a
 refine zO Tryz.func166 29 ?_
 refine zP 3 [{},yH [(1,yV (aw (a%2305843009213693951))),(3,yV (aw (b%2305843009213693951)))],{}] [.keep [5,1,0,4] []] [yI (avw_mod a 2305843009213693951),yO ((2305843009213693951:Int)≠(0:Int)),yI (avw_mod b 2305843009213693951),yO ((2305843009213693951:Int)≠(0:Int))] ?_
 refine zS ?_
 refine zQ 1 [{}] [] ?_
 refine zB 0 ?_
 refine zL (fun (j:Nat)=>(⟨[(1,aw (b%2305843009213693951)),(0,aw (a%2305843009213693951)),(4,AV.val (Value.int .u64 0)),(6,ai ((j:Int)-1)),(5,aw (mq (a.toNat*((b%2305843009213693951).toNat/2^j))))],[]⟩:AS)) (fun j=>(j≤61)) (fun j=>(j)) (61) ?_ (Weaks.of [.keep [1,0,4,6,5] []] (s1:=AS.mk [(1,aw (b%2305843009213693951)),(0,aw (a%2305843009213693951)),(4,AV.val (Value.int .u64 0)),(6,ai 60),(5,AV.val (Value.int .u64 0))] []) (by kernel_rfl) (as_eq (f_cons rfl (f_cons rfl (f_cons rfl (f_cons rfl (f_cons (congrArg aw (show 0=mq _ by rw [Nat.div_eq_of_lt (by omega),Nat.mul_zero];rfl)) rfl))))) rfl)) ?_
 ·omega
 intro j hj
 by_cases h0:0<j
 ·have hs:=shr_at (b%2305843009213693951) j h0 (by omega)
  have hh:=half_at (b%2305843009213693951).toNat j h0
  have hmn:=mq_nat (a.toNat*((b%2305843009213693951).toNat/2^j))
  have e0:(mq (a.toNat*((b%2305843009213693951).toNat/2^j))*2%2305843009213693951).toNat=2*(a.toNat*((b%2305843009213693951).toNat/2^j))%2305843009213693951:=by
   rw [modQ_nat,UInt64.toNat_mul,hmn]
   generalize a.toNat*((b%2305843009213693951).toNat/2^j)=X
   show X%_*2%18446744073709551616%_=_
   rw [Nat.mod_eq_of_lt (b:=18446744073709551616) (by omega),Nat.mul_comm,Nat.mul_mod,Nat.mod_mod,←Nat.mul_mod]
  by_cases h1:(b%2305843009213693951)>>>UInt64.ofNat ((j:Int)-1).toNat&&&1=1
  ·have h1':=(and1_iff _).1 h1
   rw [hs] at h1'
   have e1:(mq (a.toNat*((b%2305843009213693951).toNat/2^j))*2%2305843009213693951+a%2305843009213693951)%2305843009213693951=mq (a.toNat*((b%2305843009213693951).toNat/2^(j-1))):=by
    apply UInt64.toNat_inj.1
    have e2:a.toNat*(2*((b%2305843009213693951).toNat/2^j)+1)=2*(a.toNat*((b%2305843009213693951).toNat/2^j))+a.toNat:=by rw [Nat.mul_add,Nat.mul_left_comm,Nat.mul_one]
    rw [modQ_nat,UInt64.toNat_add,e0,ha,mq_nat,hh,h1',e2]
    generalize a.toNat*((b%2305843009213693951).toNat/2^j)=X
    show (2*X%_+_)%18446744073709551616%_=_
    rw [Nat.mod_eq_of_lt (b:=18446744073709551616) (by omega),←Nat.add_mod]
   refine zS ?_
   refine zQ 1 [{}] [] ?_
   refine zTd 12 ((↑j:Int)-1≥0) ?_
   refine zK ?_
   refine then_n ?_
   refine zS ?_
   refine zB 1 ?_
   refine zP 2 [yH [(1,yV (aw (mq (a.toNat*((b%2305843009213693951).toNat/(2:Nat)^j))*2))),(2,yV (aw (mq (a.toNat*((b%2305843009213693951).toNat/(2:Nat)^j))*2%2305843009213693951)))],yH [(2,yV (AV.val (Value.int .u64 ((↑j:Int)-1)))),(3,yV (aw ((b%2305843009213693951)>>>UInt64.ofNat ((↑j:Int)-1).toNat))),(4,yV (aw ((b%2305843009213693951)>>>UInt64.ofNat ((↑j:Int)-1).toNat&&&(1:UInt64)))),(5,yV (ao ((b%2305843009213693951)>>>UInt64.ofNat ((↑j:Int)-1).toNat&&&(1:UInt64) == 1)))]] [.keep [23,5,12,1,0,4,6] []] [yI (avw_mul (mq (a.toNat*((b%2305843009213693951).toNat/(2:Nat)^j))) 2),yI (avw_mod (mq (a.toNat*((b%2305843009213693951).toNat/(2:Nat)^j))*2) 2305843009213693951),yO ((2305843009213693951:Int)≠(0:Int)),yB (AV.val (Value.int .u64 (IntKind.u64.wrap ((↑j:Int)-1)))=AV.val (Value.int .u64 ((↑j:Int)-1))) (av_u64 (by omega) (by omega)),yI (avw_shr (b%2305843009213693951) ((↑j:Int)-1) (by omega) (by omega)),yO ((0:Int)≤(↑j:Int)-1),yI (avw_and ((b%2305843009213693951)>>>UInt64.ofNat ((↑j:Int)-1).toNat) 1),yI (avw_eq ((b%2305843009213693951)>>>UInt64.ofNat ((↑j:Int)-1).toNat&&&(1:UInt64)) 1)] ?_
   refine zTb 23 ((b%2305843009213693951)>>>UInt64.ofNat ((↑j:Int)-1).toNat&&&(1:UInt64) == 1) (decide_eq_true (by omega)) ?_
   refine zX (yH [(2,yV (aw (mq (a.toNat*((b%2305843009213693951).toNat/(2:Nat)^j))*2%2305843009213693951+a%2305843009213693951))),(3,yV (aw ((mq (a.toNat*((b%2305843009213693951).toNat/(2:Nat)^j))*2%2305843009213693951+a%2305843009213693951)%2305843009213693951)))]) [yI (avw_add (mq (a.toNat*((b%2305843009213693951).toNat/(2:Nat)^j))*2%2305843009213693951) (a%2305843009213693951)),yI (avw_mod (mq (a.toNat*((b%2305843009213693951).toNat/(2:Nat)^j))*2%2305843009213693951+a%2305843009213693951) 2305843009213693951),yO ((2305843009213693951:Int)≠(0:Int))] ?_
   refine inb_n ?_
   refine then_n ?_
   refine zX (yH [(1,yV (ai ((↑j:Int)-1-1)))]) [yN ((↑j:Int)-1-1)] ?_
   refine round_n (j-1) (by omega) (by omega) (Weaks.of [.keep [1,0,4,6,5] []] (s1:=AS.mk [(1,aw (b%2305843009213693951)),(0,aw (a%2305843009213693951)),(4,AV.val (Value.int .u64 0)),(6,ai ((↑j:Int)-1-1)),(5,aw ((mq (a.toNat*((b%2305843009213693951).toNat/(2:Nat)^j))*2%2305843009213693951+a%2305843009213693951)%2305843009213693951))] []) (by kernel_rfl) (as_eq (f_cons rfl (f_cons rfl (f_cons rfl (f_cons (congrArg ai (by omega)) (f_cons (congrArg aw e1) rfl))))) rfl))
  ·have h1':¬(b%2305843009213693951).toNat/2^(j-1)%2=1:=fun e=>h1 ((and1_iff _).2 (by rw [hs];exact e))
   have e1:mq (a.toNat*((b%2305843009213693951).toNat/2^j))*2%2305843009213693951=mq (a.toNat*((b%2305843009213693951).toNat/2^(j-1))):=by
    apply UInt64.toNat_inj.1
    rw [e0,mq_nat,hh,show (b%2305843009213693951).toNat/2^(j-1)%2=0 by omega,Nat.add_zero,Nat.mul_left_comm]
   refine zS ?_
   refine zQ 1 [{}] [] ?_
   refine zTd 12 ((↑j:Int)-1≥0) ?_
   refine zK ?_
   refine then_n ?_
   refine zS ?_
   refine zB 1 ?_
   refine zP 2 [yH [(1,yV (aw (mq (a.toNat*((b%2305843009213693951).toNat/(2:Nat)^j))*2))),(2,yV (aw (mq (a.toNat*((b%2305843009213693951).toNat/(2:Nat)^j))*2%2305843009213693951)))],yH [(2,yV (AV.val (Value.int .u64 ((↑j:Int)-1)))),(3,yV (aw ((b%2305843009213693951)>>>UInt64.ofNat ((↑j:Int)-1).toNat))),(4,yV (aw ((b%2305843009213693951)>>>UInt64.ofNat ((↑j:Int)-1).toNat&&&(1:UInt64)))),(5,yV (ao ((b%2305843009213693951)>>>UInt64.ofNat ((↑j:Int)-1).toNat&&&(1:UInt64) == 1)))]] [.keep [23,5,12,1,0,4,6] []] [yI (avw_mul (mq (a.toNat*((b%2305843009213693951).toNat/(2:Nat)^j))) 2),yI (avw_mod (mq (a.toNat*((b%2305843009213693951).toNat/(2:Nat)^j))*2) 2305843009213693951),yO ((2305843009213693951:Int)≠(0:Int)),yB (AV.val (Value.int .u64 (IntKind.u64.wrap ((↑j:Int)-1)))=AV.val (Value.int .u64 ((↑j:Int)-1))) (av_u64 (by omega) (by omega)),yI (avw_shr (b%2305843009213693951) ((↑j:Int)-1) (by omega) (by omega)),yO ((0:Int)≤(↑j:Int)-1),yI (avw_and ((b%2305843009213693951)>>>UInt64.ofNat ((↑j:Int)-1).toNat) 1),yI (avw_eq ((b%2305843009213693951)>>>UInt64.ofNat ((↑j:Int)-1).toNat&&&(1:UInt64)) 1)] ?_
   refine zFb 23 ((b%2305843009213693951)>>>UInt64.ofNat ((↑j:Int)-1).toNat&&&(1:UInt64) == 1) (decide_eq_false (by omega)) ?_
   refine zK ?_
   refine inb_n ?_
   refine then_n ?_
   refine zX (yH [(1,yV (ai ((↑j:Int)-1-1)))]) [yN ((↑j:Int)-1-1)] ?_
   refine round_n (j-1) (by omega) (by omega) (Weaks.of [.keep [1,0,4,6,5] []] (s1:=AS.mk [(1,aw (b%2305843009213693951)),(0,aw (a%2305843009213693951)),(4,AV.val (Value.int .u64 0)),(6,ai ((↑j:Int)-1-1)),(5,aw (mq (a.toNat*((b%2305843009213693951).toNat/(2:Nat)^j))*2%2305843009213693951))] []) (by kernel_rfl) (as_eq (f_cons rfl (f_cons rfl (f_cons rfl (f_cons (congrArg ai (by omega)) (f_cons (congrArg aw e1) rfl))))) rfl))
 ·have hj0:j=0:=by omega
  subst hj0
  have e:mq (a.toNat*((b%2305843009213693951).toNat/2^0))=mq (a.toNat*b.toNat):=by
   rw [Nat.pow_zero,Nat.div_one,hb];apply mq_of;rw [Nat.mul_mod,Nat.mod_mod,←Nat.mul_mod]
  refine zS ?_
  refine zP 1 [{}] [.keep [12,1,0,4,6,5] []] [] ?_
  refine zFd 12 ((↑(0:Nat):Int)-1≥0) ?_
  refine zE 0 ?_
  refine then_e ?_
  refine round_e ?_
  refine inb_e ?_
  refine then_n ?_
  refine zP 1 [{}] [.keep [4,12,1,0,6,5] []] [] ?_
  refine zR ?_
  refine zV [yK (wv (mq (a.toNat*((b%2305843009213693951).toNat/(2:Nat)^(0:Nat))))) (wv (mq (a.toNat*b.toNat))) (by rw [e])]
theorem refpowx_ret (a n:UInt64):Ret Tryz.prog 106 [aw a,aw n] (aw (mq (a.toNat^n.toNat))):=by
 have hn:=n.toNat_lt
 refine zO Tryz.func106 24 ?_
 refine zQ 2 [{},{}] [] ?_
 refine zS ?_
 refine zQ 1 [{}] [] ?_
 refine zB 0 ?_
 refine zL (fun (j:Nat)=>(⟨[(4,AV.val (Value.int .u64 0)),(0,aw a),(1,aw n),(6,ai ((j:Int)-1)),(5,aw (mq (a.toNat^(n.toNat/2^j))))],[]⟩:AS)) (fun j=>(j≤64)) (fun j=>(j)) (64) ?_ (Weaks.of [.keep [4,0,1,6,5] []] (s1:=AS.mk [(4,AV.val (Value.int .u64 0)),(0,aw a),(1,aw n),(6,ai 63),(5,AV.val (Value.int .u64 1))] []) (by kernel_rfl) (as_eq (f_cons rfl (f_cons rfl (f_cons rfl (f_cons rfl (f_cons (congrArg aw (show 1=mq _ by rw [Nat.div_eq_of_lt (by omega)];rfl)) rfl))))) rfl)) ?_
 ·omega
 intro j hj
 by_cases h0:0<j
 ·have hs:=shr_at n j h0 (by omega)
  have hh:=half_at n.toNat j h0
  have e0:mq ((mq (a.toNat^(n.toNat/2^j))).toNat*(mq (a.toNat^(n.toNat/2^j))).toNat)=mq (a.toNat^(2*(n.toNat/2^j))):=by
   apply mq_of
   rw [mq_nat,←Nat.mul_mod,←Nat.pow_add];congr 2;omega
  by_cases h1:n>>>UInt64.ofNat ((j:Int)-1).toNat&&&1=1
  ·have h1':=(and1_iff _).1 h1
   rw [hs] at h1'
   have e1:mq ((mq ((mq (a.toNat^(n.toNat/2^j))).toNat*(mq (a.toNat^(n.toNat/2^j))).toNat)).toNat*a.toNat)=mq (a.toNat^(n.toNat/2^(j-1))):=by
    rw [e0,hh,h1',Nat.pow_succ]
    apply mq_of
    rw [mq_nat,Nat.mul_mod,Nat.mod_mod,←Nat.mul_mod]
   refine zS ?_
   refine zQ 1 [{}] [] ?_
   refine zTd 8 ((↑j:Int)-1≥0) ?_
   refine zK ?_
   refine then_n ?_
   refine zS ?_
   refine zB 1 ?_
   refine zP 2 [yH [(2,yV (aw (mq ((mq (a.toNat^(n.toNat/(2:Nat)^j))).toNat*(mq (a.toNat^(n.toNat/(2:Nat)^j))).toNat))))],yH [(2,yV (AV.val (Value.int .u64 ((↑j:Int)-1)))),(3,yV (aw (n>>>UInt64.ofNat ((↑j:Int)-1).toNat))),(4,yV (aw (n>>>UInt64.ofNat ((↑j:Int)-1).toNat&&&(1:UInt64)))),(5,yV (ao (n>>>UInt64.ofNat ((↑j:Int)-1).toNat&&&(1:UInt64) == 1)))]] [.keep [19,5,8,4,0,1,6] []] [yI (refmulx_ret (mq (a.toNat^(n.toNat/(2:Nat)^j))) (mq (a.toNat^(n.toNat/(2:Nat)^j)))),yB (AV.val (Value.int .u64 (IntKind.u64.wrap ((↑j:Int)-1)))=AV.val (Value.int .u64 ((↑j:Int)-1))) (av_u64 (by omega) (by omega)),yI (avw_shr n ((↑j:Int)-1) (by omega) (by omega)),yO ((0:Int)≤(↑j:Int)-1),yI (avw_and (n>>>UInt64.ofNat ((↑j:Int)-1).toNat) 1),yI (avw_eq (n>>>UInt64.ofNat ((↑j:Int)-1).toNat&&&(1:UInt64)) 1)] ?_
   refine zTb 19 (n>>>UInt64.ofNat ((↑j:Int)-1).toNat&&&(1:UInt64) == 1) (decide_eq_true (by omega)) ?_
   refine zX (yH [(2,yV (aw (mq ((mq ((mq (a.toNat^(n.toNat/(2:Nat)^j))).toNat*(mq (a.toNat^(n.toNat/(2:Nat)^j))).toNat)).toNat*a.toNat))))]) [yI (refmulx_ret (mq ((mq (a.toNat^(n.toNat/(2:Nat)^j))).toNat*(mq (a.toNat^(n.toNat/(2:Nat)^j))).toNat)) a)] ?_
   refine inb_n ?_
   refine then_n ?_
   refine zX (yH [(1,yV (ai ((↑j:Int)-1-1)))]) [yN ((↑j:Int)-1-1)] ?_
   refine round_n (j-1) (by omega) (by omega) (Weaks.of [.keep [4,0,1,6,5] []] (s1:=AS.mk [(4,AV.val (Value.int .u64 0)),(0,aw a),(1,aw n),(6,ai ((↑j:Int)-1-1)),(5,aw (mq ((mq ((mq (a.toNat^(n.toNat/(2:Nat)^j))).toNat*(mq (a.toNat^(n.toNat/(2:Nat)^j))).toNat)).toNat*a.toNat)))] []) (by kernel_rfl) (as_eq (f_cons rfl (f_cons rfl (f_cons rfl (f_cons (congrArg ai (by omega)) (f_cons (congrArg aw e1) rfl))))) rfl))
  ·have h1':¬n.toNat/2^(j-1)%2=1:=fun e=>h1 ((and1_iff _).2 (by rw [hs];exact e))
   have e1:mq ((mq (a.toNat^(n.toNat/2^j))).toNat*(mq (a.toNat^(n.toNat/2^j))).toNat)=mq (a.toNat^(n.toNat/2^(j-1))):=by
    rw [e0,hh,show n.toNat/2^(j-1)%2=0 by omega,Nat.add_zero]
   refine zS ?_
   refine zQ 1 [{}] [] ?_
   refine zTd 8 ((↑j:Int)-1≥0) ?_
   refine zK ?_
   refine then_n ?_
   refine zS ?_
   refine zB 1 ?_
   refine zP 2 [yH [(2,yV (aw (mq ((mq (a.toNat^(n.toNat/(2:Nat)^j))).toNat*(mq (a.toNat^(n.toNat/(2:Nat)^j))).toNat))))],yH [(2,yV (AV.val (Value.int .u64 ((↑j:Int)-1)))),(3,yV (aw (n>>>UInt64.ofNat ((↑j:Int)-1).toNat))),(4,yV (aw (n>>>UInt64.ofNat ((↑j:Int)-1).toNat&&&(1:UInt64)))),(5,yV (ao (n>>>UInt64.ofNat ((↑j:Int)-1).toNat&&&(1:UInt64) == 1)))]] [.keep [19,5,8,4,0,1,6] []] [yI (refmulx_ret (mq (a.toNat^(n.toNat/(2:Nat)^j))) (mq (a.toNat^(n.toNat/(2:Nat)^j)))),yB (AV.val (Value.int .u64 (IntKind.u64.wrap ((↑j:Int)-1)))=AV.val (Value.int .u64 ((↑j:Int)-1))) (av_u64 (by omega) (by omega)),yI (avw_shr n ((↑j:Int)-1) (by omega) (by omega)),yO ((0:Int)≤(↑j:Int)-1),yI (avw_and (n>>>UInt64.ofNat ((↑j:Int)-1).toNat) 1),yI (avw_eq (n>>>UInt64.ofNat ((↑j:Int)-1).toNat&&&(1:UInt64)) 1)] ?_
   refine zFb 19 (n>>>UInt64.ofNat ((↑j:Int)-1).toNat&&&(1:UInt64) == 1) (decide_eq_false (by omega)) ?_
   refine zK ?_
   refine inb_n ?_
   refine then_n ?_
   refine zX (yH [(1,yV (ai ((↑j:Int)-1-1)))]) [yN ((↑j:Int)-1-1)] ?_
   refine round_n (j-1) (by omega) (by omega) (Weaks.of [.keep [4,0,1,6,5] []] (s1:=AS.mk [(4,AV.val (Value.int .u64 0)),(0,aw a),(1,aw n),(6,ai ((↑j:Int)-1-1)),(5,aw (mq ((mq (a.toNat^(n.toNat/(2:Nat)^j))).toNat*(mq (a.toNat^(n.toNat/(2:Nat)^j))).toNat)))] []) (by kernel_rfl) (as_eq (f_cons rfl (f_cons rfl (f_cons rfl (f_cons (congrArg ai (by omega)) (f_cons (congrArg aw e1) rfl))))) rfl))
 ·have hj0:j=0:=by omega
  subst hj0
  refine zS ?_
  refine zP 1 [{}] [.keep [8,4,0,1,6,5] []] [] ?_
  refine zFd 8 ((↑(0:Nat):Int)-1≥0) ?_
  refine zE 0 ?_
  refine then_e ?_
  refine round_e ?_
  refine inb_e ?_
  refine then_n ?_
  refine zP 1 [{}] [.keep [4,8,0,1,6,5] []] [] ?_
  refine zR ?_
  refine zV [yK (wv (mq (a.toNat^(n.toNat/(2:Nat)^(0:Nat))))) (wv (mq (a.toNat^n.toNat))) (by rw [Nat.pow_zero,Nat.div_one])]
end Go.Proofs.YtejpabdmiagnnaaGreatDoor
