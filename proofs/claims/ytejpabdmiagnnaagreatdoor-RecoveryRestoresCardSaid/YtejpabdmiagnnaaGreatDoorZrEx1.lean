import Derived.Test.YtejpabdmiagnnaaGreatDoorProg
import Derived.KernelRfl
import Derived.Test.YtejpabdmiagnnaaGreatDoorZrSlN
import Derived.Test.YtejpabdmiagnnaaGreatDoorZrV8
import Derived.Lib.Mul64
set_option linter.all false
namespace Go.Proofs.YtejpabdmiagnnaaGreatDoor
open Go.RowKit
set_option maxRecDepth 100000
set_option maxHeartbeats 4000000
set_option linter.unusedVariables false
theorem lo32 (x:UInt64):(x&&&4294967295).toNat=x.toNat%4294967296:=by
 rw [UInt64.toNat_and];exact Nat.and_two_pow_sub_one_eq_mod x.toNat 32
theorem hi32 (x:UInt64):(x>>>32).toNat=x.toNat/4294967296:=by
 rw [UInt64.toNat_shiftRight];exact Nat.shiftRight_eq_div_pow x.toNat 32
theorem mul64_w (x y:UInt64):x>>>(32:UInt64)*y>>>(32:UInt64)+(x>>>(32:UInt64)*(y&&&(4294967295:UInt64))+((x&&&(4294967295:UInt64))*(y&&&(4294967295:UInt64)))>>>(32:UInt64))>>>(32:UInt64)+((x>>>(32:UInt64)*(y&&&(4294967295:UInt64))+((x&&&(4294967295:UInt64))*(y&&&(4294967295:UInt64)))>>>(32:UInt64)&&&(4294967295:UInt64))+(x&&&(4294967295:UInt64))*y>>>(32:UInt64))>>>(32:UInt64)=UInt64.ofNat (x.toNat*y.toNat/18446744073709551616):=by
 have hx:=x.toNat_lt
 have hy:=y.toNat_lt
 obtain ⟨bd,bt,bw,hhi⟩:=Lib.mul64_hi x.toNat y.toNat hx hy
 have ba:=Lib.half_mul_le (a:=x.toNat/4294967296) (b:=y.toNat/4294967296) (by omega) (by omega)
 have bb:=Lib.half_mul_le (a:=x.toNat/4294967296) (b:=y.toNat%4294967296) (by omega) (by omega)
 have bc:=Lib.half_mul_le (a:=x.toNat%4294967296) (b:=y.toNat/4294967296) (by omega) (by omega)
 apply UInt64.toNat_inj.1
 simp only [UInt64.toNat_add,UInt64.toNat_mul,hi32,lo32,UInt64.toNat_ofNat']
 rw [←hhi]
 generalize x.toNat/4294967296*(y.toNat/4294967296)=a at *
 generalize x.toNat/4294967296*(y.toNat%4294967296)=b at *
 generalize x.toNat%4294967296*(y.toNat/4294967296)=c at *
 generalize x.toNat%4294967296*(y.toNat%4294967296)=d at *
 rw [Nat.mod_eq_of_lt (a:=b) (by omega),Nat.mod_eq_of_lt (a:=a) (by omega),Nat.mod_eq_of_lt (a:=c) (by omega),Nat.mod_eq_of_lt (a:=d) (by omega)]
 omega
theorem shl3_nat (x:UInt64):(x<<<3).toNat=x.toNat*8%18446744073709551616:=by
 rw [UInt64.toNat_shiftLeft];show x.toNat<<<3%2^64=_;rw [Nat.shiftLeft_eq]
theorem shr61_nat (x:UInt64):(x>>>61).toNat=x.toNat/2305843009213693952:=by
 rw [UInt64.toNat_shiftRight];exact Nat.shiftRight_eq_div_pow x.toNat 61
theorem shr3_nat (x:UInt64):(x>>>3).toNat=x.toNat/8:=by
 rw [UInt64.toNat_shiftRight];exact Nat.shiftRight_eq_div_pow x.toNat 3
theorem dU_nat (hi lo:UInt64) (h:hi.toNat<2305843009213693951):(hi<<<3|||lo>>>61).toNat=hi.toNat*8+lo.toNat/2305843009213693952:=by
 have hl:=lo.toNat_lt
 rw [UInt64.toNat_or,shl3_nat,shr61_nat,Nat.mod_eq_of_lt (by omega)]
 have:=Nat.two_pow_add_eq_or_of_lt (i:=3) (b:=lo.toNat/2305843009213693952) (by omega) hi.toNat
 rw [show 2^3*hi.toNat=hi.toNat*8 by omega] at this
 exact this.symm
def kq (U u:UInt64):UInt64:=UInt64.ofNat ((U.toNat*4294967296+u.toNat)/18446744073709551608)
def kr (U u:UInt64):UInt64:=UInt64.ofNat ((U.toNat*4294967296+u.toNat)%18446744073709551608)
theorem kr_nat (U u:UInt64):(kr U u).toNat=(U.toNat*4294967296+u.toNat)%18446744073709551608:=by
 rw [kr,UInt64.toNat_ofNat',Nat.mod_eq_of_lt];omega
theorem kq_nat (U u:UInt64) (hU:U.toNat<18446744073709551608) (hu:u.toNat<4294967296):(kq U u).toNat=(U.toNat*4294967296+u.toNat)/18446744073709551608:=by
 rw [kq,UInt64.toNat_ofNat',Nat.mod_eq_of_lt];omega
def KN (U u:UInt64) (x:UInt64×UInt64):Prop:=x.1.toNat*4294967295+x.2.toNat=U.toNat∧x.2.toNat<4294967296∧x.1.toNat≤4294967296∧(U.toNat*4294967296+u.toNat)/18446744073709551608≤x.1.toNat
theorem KN.init {U u:UInt64} (hU:U.toNat<18446744073709551608) (hu:u.toNat<4294967296):KN U u (U/4294967295,U-U/4294967295*4294967295):=by
 have e1:(U/4294967295).toNat=U.toNat/4294967295:=by rw [UInt64.toNat_div];rfl
 have e2:(U-U/4294967295*4294967295).toNat=U.toNat%4294967295:=by
  rw [UInt64.toNat_sub,UInt64.toNat_mul,e1]
  show (18446744073709551616-U.toNat/4294967295*4294967295%18446744073709551616+U.toNat)%18446744073709551616=_
  omega
 refine ⟨?_,?_,?_,?_⟩<;>simp only [e1,e2]<;>omega
theorem KN.prods {U u:UInt64} {x:UInt64×UInt64} (h:KN U u x) (hu:u.toNat<4294967296) (hq:x.1.toNat<4294967296):wv (x.1*4294967288)=(x.1.toNat*4294967288:Nat)∧wv (4294967296*x.2+u)=(4294967296*x.2.toNat+u.toNat:Nat):=by
 obtain ⟨h1,h2,h3,h4⟩:=h
 constructor
 ·show (((x.1*4294967288).toNat:Nat):Int)=_
  rw [UInt64.toNat_mul,Nat.mod_eq_of_lt];rfl
  show x.1.toNat*4294967288<18446744073709551616
  omega
 ·show (((4294967296*x.2+u).toNat:Nat):Int)=_
  rw [UInt64.toNat_add,UInt64.toNat_mul]
  show (((4294967296*x.2.toNat%18446744073709551616+u.toNat)%18446744073709551616:Nat):Int)=_
  omega
theorem KN.stop {U u:UInt64} {x:UInt64×UInt64} (h:KN U u x) (hU:U.toNat<18446744073709551608) (hu:u.toNat<4294967296) (hq:x.1.toNat<4294967296) (hn:¬wv (x.1*4294967288)>wv (4294967296*x.2+u)):x.1=kq U u:=by
 obtain ⟨p1,p2⟩:=h.prods hu hq
 obtain ⟨h1,h2,h3,h4⟩:=h
 rw [p1,p2] at hn
 apply UInt64.toNat_inj.1
 rw [kq_nat U u hU hu]
 omega
theorem KN.less {U u:UInt64} {x:UInt64×UInt64} (h:KN U u x) (hU:U.toNat<18446744073709551608) (hu:u.toNat<4294967296) (hn:4294967296≤x.1.toNat∨(x.1.toNat<4294967296∧wv (x.1*4294967288)>wv (4294967296*x.2+u))):(U.toNat*4294967296+u.toNat)/18446744073709551608<x.1.toNat∧(x.1-1).toNat=x.1.toNat-1∧(x.2+4294967295).toNat=4294967295+x.2.toNat:=by
 have hlt:(U.toNat*4294967296+u.toNat)/18446744073709551608<x.1.toNat:=by
  rcases hn with hn|⟨hq,hn⟩
  ·omega
  ·obtain ⟨p1,p2⟩:=h.prods hu hq
   obtain ⟨h1,h2,h3,h4⟩:=h
   rw [p1,p2] at hn
   omega
 obtain ⟨h1,h2,h3,h4⟩:=h
 refine ⟨hlt,?_,?_⟩
 ·rw [UInt64.toNat_sub]
  show (18446744073709551616-1+x.1.toNat)%18446744073709551616=_
  omega
 ·rw [UInt64.toNat_add]
  show (x.2.toNat+4294967295)%18446744073709551616=_
  omega
theorem KN.next {U u:UInt64} {x:UInt64×UInt64} (h:KN U u x) (hl:(U.toNat*4294967296+u.toNat)/18446744073709551608<x.1.toNat∧(x.1-1).toNat=x.1.toNat-1∧(x.2+4294967295).toNat=4294967295+x.2.toNat) (hr:x.2.toNat<1):KN U u (x.1-1,x.2+4294967295):=by
 obtain ⟨h1,h2,h3,h4⟩:=h
 obtain ⟨l1,l2,l3⟩:=hl
 have hr0:x.2.toNat=0:=by omega
 unfold KN
 dsimp only
 rw [l2,l3]
 generalize x.1.toNat=q at *
 generalize x.2.toNat=r at *
 subst hr0
 refine ⟨?_,?_,?_,?_⟩
 ·obtain ⟨k,rfl⟩:∃k,q=k+1:=⟨q-1,by omega⟩
  rw [Nat.add_sub_cancel,Nat.add_zero,←h1,Nat.add_mul,Nat.add_zero]
 ·simp
 ·omega
 ·omega
theorem KN.brk {U u:UInt64} {x:UInt64×UInt64} (h:KN U u x) (hU:U.toNat<18446744073709551608) (hu:u.toNat<4294967296) (hl:(U.toNat*4294967296+u.toNat)/18446744073709551608<x.1.toNat∧(x.1-1).toNat=x.1.toNat-1∧(x.2+4294967295).toNat=4294967295+x.2.toNat) (hr:¬x.2.toNat<1):x.1-1=kq U u:=by
 obtain ⟨h1,h2,h3,h4⟩:=h
 obtain ⟨l1,l2,l3⟩:=hl
 apply UInt64.toNat_inj.1
 rw [kq_nat U u hU hu,l2]
 omega
theorem kr_eq (U u:UInt64) (hU:U.toNat<18446744073709551608) (hu:u.toNat<4294967296):U*4294967296+u-kq U u*18446744073709551608=kr U u:=by
 have hq:=kq_nat U u hU hu
 apply UInt64.toNat_inj.1
 rw [kr_nat,UInt64.toNat_sub,UInt64.toNat_mul,UInt64.toNat_add,UInt64.toNat_mul,hq]
 show (18446744073709551616-(U.toNat*4294967296+u.toNat)/18446744073709551608*18446744073709551608%18446744073709551616+(U.toNat*4294967296%18446744073709551616+u.toNat)%18446744073709551616)%18446744073709551616=_
 omega
theorem rem_eq (hi lo:UInt64) (h:hi.toNat<2305843009213693951):kr (kr (hi<<<3|||lo>>>61) (lo<<<3>>>32)) (lo<<<3&&&4294967295)>>>3=UInt64.ofNat ((hi.toNat*18446744073709551616+lo.toNat)%2305843009213693951):=by
 have hl:=lo.toNat_lt
 apply UInt64.toNat_inj.1
 rw [shr3_nat,kr_nat,kr_nat,dU_nat hi lo h,hi32,lo32,shl3_nat,UInt64.toNat_ofNat',Nat.mod_eq_of_lt (b:=2^64) (by omega)]
 generalize hi.toNat=a at *
 generalize lo.toNat=b at *
 have e:((a*8+b/2305843009213693952)*4294967296+b*8%18446744073709551616/4294967296)*4294967296+b*8%18446744073709551616%4294967296=8*(a*18446744073709551616+b):=by omega
 have e2:(((a*8+b/2305843009213693952)*4294967296+b*8%18446744073709551616/4294967296)%18446744073709551608*4294967296+b*8%18446744073709551616%4294967296)%18446744073709551608=(8*(a*18446744073709551616+b))%18446744073709551608:=by
  rw [←e,Nat.add_mod,Nat.mul_mod,Nat.mod_mod,←Nat.mul_mod,←Nat.add_mod]
 rw [e2]
 rw [show (18446744073709551608:Nat)=8*2305843009213693951 by decide,Nat.mul_mod_mul_left]
 omega
theorem len64_ret:Ret Tryz.prog 229 [aw 2305843009213693951] (ai 61):=by
 refine zO Tryz.func229 25 ?_
 refine zQ 1 [{}] [] ?_
 refine zS ?_
 refine zP 1 [{}] [.keep [4,2,0] []] [] ?_
 refine zTb 4 (decide (wv 2305843009213693951≥4294967296)) rfl ?_
 refine zP 1 [yH [(1,yV (aw ((2305843009213693951:UInt64)>>>(32:UInt64))))]] [.keep [0,4,2] []] [yI (avw_shr 2305843009213693951 ((32:Int)) (by omega) (by omega)),yO ((0:Int)≤32)] ?_
 refine zX {} [] ?_
 refine then_n ?_
 refine zS ?_
 refine zP 1 [{}] [.keep [8,2,0,4] []] [] ?_
 refine zTb 8 (decide (wv ((2305843009213693951:UInt64)>>>(32:UInt64))≥65536)) rfl ?_
 refine zP 1 [yH [(1,yV (aw ((2305843009213693951:UInt64)>>>(32:UInt64)>>>(16:UInt64))))]] [.keep [0,8,2,4] []] [yI (avw_shr ((2305843009213693951:UInt64)>>>(32:UInt64)) ((16:Int)) (by omega) (by omega)),yO ((0:Int)≤16)] ?_
 refine zX (yH [(1,yV (ai ((32:Int)+16)))]) [yN ((32:Int)+16)] ?_
 refine then_n ?_
 refine zS ?_
 refine zP 1 [{}] [.keep [14,2,0,8,4] []] [] ?_
 refine zTb 14 (decide (wv ((2305843009213693951:UInt64)>>>(32:UInt64)>>>(16:UInt64))≥256)) rfl ?_
 refine zP 1 [yH [(1,yV (aw ((2305843009213693951:UInt64)>>>(32:UInt64)>>>(16:UInt64)>>>(8:UInt64))))]] [.keep [0,14,2,8,4] []] [yI (avw_shr ((2305843009213693951:UInt64)>>>(32:UInt64)>>>(16:UInt64)) ((8:Int)) (by omega) (by omega)),yO ((0:Int)≤8)] ?_
 refine zX (yH [(1,yV (ai ((32:Int)+16+8)))]) [yN ((32:Int)+16+8)] ?_
 refine then_n ?_
 refine zP 1 [yH [(2,yV (ab (((2305843009213693951:UInt64)>>>(32:UInt64)>>>(16:UInt64)>>>(8:UInt64)).toUInt8))),(3,{av:=some (ab ((([0,1,2,2,3,3,3,3,4,4,4,4,4,4,4,4,5,5,5,5,5,5,5,5,5,5,5,5,5,5,5,5,6,6,6,6,6,6,6,6,6,6,6,6,6,6,6,6,6,6,6,6,6,6,6,6,6,6,6,6,6,6,6,6].append [7,7,7,7,7,7,7,7,7,7,7,7,7,7,7,7,7,7,7,7,7,7,7,7,7,7,7,7,7,7,7,7,7,7,7,7,7,7,7,7,7,7,7,7,7,7,7,7,7,7,7,7,7,7,7,7,7,7,7,7,7,7,7,7]).append ([8,8,8,8,8,8,8,8,8,8,8,8,8,8,8,8,8,8,8,8,8,8,8,8,8,8,8,8,8,8,8,8,8,8,8,8,8,8,8,8,8,8,8,8,8,8,8,8,8,8,8,8,8,8,8,8,8,8,8,8,8,8,8,8].append [8,8,8,8,8,8,8,8,8,8,8,8,8,8,8,8,8,8,8,8,8,8,8,8,8,8,8,8,8,8,8,8,8,8,8,8,8,8,8,8,8,8,8,8,8,8,8,8,8,8,8,8,8,8,8,8,8,8,8,8,8,8,8,8])).getD ((2305843009213693951:UInt64)>>>(32:UInt64)>>>(16:UInt64)>>>(8:UInt64)).toUInt8.toNat 0)),k:=((2305843009213693951:UInt64)>>>(32:UInt64)>>>(16:UInt64)>>>(8:UInt64)).toUInt8.toNat}),(4,yV (ai (bv ((([0,1,2,2,3,3,3,3,4,4,4,4,4,4,4,4,5,5,5,5,5,5,5,5,5,5,5,5,5,5,5,5,6,6,6,6,6,6,6,6,6,6,6,6,6,6,6,6,6,6,6,6,6,6,6,6,6,6,6,6,6,6,6,6].append [7,7,7,7,7,7,7,7,7,7,7,7,7,7,7,7,7,7,7,7,7,7,7,7,7,7,7,7,7,7,7,7,7,7,7,7,7,7,7,7,7,7,7,7,7,7,7,7,7,7,7,7,7,7,7,7,7,7,7,7,7,7,7,7]).append ([8,8,8,8,8,8,8,8,8,8,8,8,8,8,8,8,8,8,8,8,8,8,8,8,8,8,8,8,8,8,8,8,8,8,8,8,8,8,8,8,8,8,8,8,8,8,8,8,8,8,8,8,8,8,8,8,8,8,8,8,8,8,8,8].append [8,8,8,8,8,8,8,8,8,8,8,8,8,8,8,8,8,8,8,8,8,8,8,8,8,8,8,8,8,8,8,8,8,8,8,8,8,8,8,8,8,8,8,8,8,8,8,8,8,8,8,8,8,8,8,8,8,8,8,8,8,8,8,8])).getD ((2305843009213693951:UInt64)>>>(32:UInt64)>>>(16:UInt64)>>>(8:UInt64)).toUInt8.toNat 0))))]] [.keep [2,0,14,8,4] []] [yI (avb_wv ((2305843009213693951:UInt64)>>>(32:UInt64)>>>(16:UInt64)>>>(8:UInt64))),yR (ab ((([0,1,2,2,3,3,3,3,4,4,4,4,4,4,4,4,5,5,5,5,5,5,5,5,5,5,5,5,5,5,5,5,6,6,6,6,6,6,6,6,6,6,6,6,6,6,6,6,6,6,6,6,6,6,6,6,6,6,6,6,6,6,6,6].append [7,7,7,7,7,7,7,7,7,7,7,7,7,7,7,7,7,7,7,7,7,7,7,7,7,7,7,7,7,7,7,7,7,7,7,7,7,7,7,7,7,7,7,7,7,7,7,7,7,7,7,7,7,7,7,7,7,7,7,7,7,7,7,7]).append ([8,8,8,8,8,8,8,8,8,8,8,8,8,8,8,8,8,8,8,8,8,8,8,8,8,8,8,8,8,8,8,8,8,8,8,8,8,8,8,8,8,8,8,8,8,8,8,8,8,8,8,8,8,8,8,8,8,8,8,8,8,8,8,8].append [8,8,8,8,8,8,8,8,8,8,8,8,8,8,8,8,8,8,8,8,8,8,8,8,8,8,8,8,8,8,8,8,8,8,8,8,8,8,8,8,8,8,8,8,8,8,8,8,8,8,8,8,8,8,8,8,8,8,8,8,8,8,8,8])).toArray.toList.getD 31 0)),yR (↑(31:Nat):Int),yB ((31:Nat)<(ByteArray.mk (([0,1,2,2,3,3,3,3,4,4,4,4,4,4,4,4,5,5,5,5,5,5,5,5,5,5,5,5,5,5,5,5,6,6,6,6,6,6,6,6,6,6,6,6,6,6,6,6,6,6,6,6,6,6,6,6,6,6,6,6,6,6,6,6].append [7,7,7,7,7,7,7,7,7,7,7,7,7,7,7,7,7,7,7,7,7,7,7,7,7,7,7,7,7,7,7,7,7,7,7,7,7,7,7,7,7,7,7,7,7,7,7,7,7,7,7,7,7,7,7,7,7,7,7,7,7,7,7,7]).append ([8,8,8,8,8,8,8,8,8,8,8,8,8,8,8,8,8,8,8,8,8,8,8,8,8,8,8,8,8,8,8,8,8,8,8,8,8,8,8,8,8,8,8,8,8,8,8,8,8,8,8,8,8,8,8,8,8,8,8,8,8,8,8,8].append [8,8,8,8,8,8,8,8,8,8,8,8,8,8,8,8,8,8,8,8,8,8,8,8,8,8,8,8,8,8,8,8,8,8,8,8,8,8,8,8,8,8,8,8,8,8,8,8,8,8,8,8,8,8,8,8,8,8,8,8,8,8,8,8])).toArray).size) (by decide),yB (ai (IntKind.i64.wrap (bv ((([0,1,2,2,3,3,3,3,4,4,4,4,4,4,4,4,5,5,5,5,5,5,5,5,5,5,5,5,5,5,5,5,6,6,6,6,6,6,6,6,6,6,6,6,6,6,6,6,6,6,6,6,6,6,6,6,6,6,6,6,6,6,6,6].append [7,7,7,7,7,7,7,7,7,7,7,7,7,7,7,7,7,7,7,7,7,7,7,7,7,7,7,7,7,7,7,7,7,7,7,7,7,7,7,7,7,7,7,7,7,7,7,7,7,7,7,7,7,7,7,7,7,7,7,7,7,7,7,7]).append ([8,8,8,8,8,8,8,8,8,8,8,8,8,8,8,8,8,8,8,8,8,8,8,8,8,8,8,8,8,8,8,8,8,8,8,8,8,8,8,8,8,8,8,8,8,8,8,8,8,8,8,8,8,8,8,8,8,8,8,8,8,8,8,8].append [8,8,8,8,8,8,8,8,8,8,8,8,8,8,8,8,8,8,8,8,8,8,8,8,8,8,8,8,8,8,8,8,8,8,8,8,8,8,8,8,8,8,8,8,8,8,8,8,8,8,8,8,8,8,8,8,8,8,8,8,8,8,8,8])).getD ((2305843009213693951:UInt64)>>>(32:UInt64)>>>(16:UInt64)>>>(8:UInt64)).toUInt8.toNat 0)))=ai (bv ((([0,1,2,2,3,3,3,3,4,4,4,4,4,4,4,4,5,5,5,5,5,5,5,5,5,5,5,5,5,5,5,5,6,6,6,6,6,6,6,6,6,6,6,6,6,6,6,6,6,6,6,6,6,6,6,6,6,6,6,6,6,6,6,6].append [7,7,7,7,7,7,7,7,7,7,7,7,7,7,7,7,7,7,7,7,7,7,7,7,7,7,7,7,7,7,7,7,7,7,7,7,7,7,7,7,7,7,7,7,7,7,7,7,7,7,7,7,7,7,7,7,7,7,7,7,7,7,7,7]).append ([8,8,8,8,8,8,8,8,8,8,8,8,8,8,8,8,8,8,8,8,8,8,8,8,8,8,8,8,8,8,8,8,8,8,8,8,8,8,8,8,8,8,8,8,8,8,8,8,8,8,8,8,8,8,8,8,8,8,8,8,8,8,8,8].append [8,8,8,8,8,8,8,8,8,8,8,8,8,8,8,8,8,8,8,8,8,8,8,8,8,8,8,8,8,8,8,8,8,8,8,8,8,8,8,8,8,8,8,8,8,8,8,8,8,8,8,8,8,8,8,8,8,8,8,8,8,8,8,8])).getD ((2305843009213693951:UInt64)>>>(32:UInt64)>>>(16:UInt64)>>>(8:UInt64)).toUInt8.toNat 0))) (av_i64_bv ((([0,1,2,2,3,3,3,3,4,4,4,4,4,4,4,4,5,5,5,5,5,5,5,5,5,5,5,5,5,5,5,5,6,6,6,6,6,6,6,6,6,6,6,6,6,6,6,6,6,6,6,6,6,6,6,6,6,6,6,6,6,6,6,6].append [7,7,7,7,7,7,7,7,7,7,7,7,7,7,7,7,7,7,7,7,7,7,7,7,7,7,7,7,7,7,7,7,7,7,7,7,7,7,7,7,7,7,7,7,7,7,7,7,7,7,7,7,7,7,7,7,7,7,7,7,7,7,7,7]).append ([8,8,8,8,8,8,8,8,8,8,8,8,8,8,8,8,8,8,8,8,8,8,8,8,8,8,8,8,8,8,8,8,8,8,8,8,8,8,8,8,8,8,8,8,8,8,8,8,8,8,8,8,8,8,8,8,8,8,8,8,8,8,8,8].append [8,8,8,8,8,8,8,8,8,8,8,8,8,8,8,8,8,8,8,8,8,8,8,8,8,8,8,8,8,8,8,8,8,8,8,8,8,8,8,8,8,8,8,8,8,8,8,8,8,8,8,8,8,8,8,8,8,8,8,8,8,8,8,8])).getD ((2305843009213693951:UInt64)>>>(32:UInt64)>>>(16:UInt64)>>>(8:UInt64)).toUInt8.toNat 0))] ?_
 refine zR ?_
 refine zV [yR (Value.int .i64 61)]
theorem zeros64_ret:Ret Tryz.prog 225 [aw 2305843009213693951] (ai 3):=by
 refine zO Tryz.func225 6 ?_
 refine zP 2 [{},yH [(1,yV (ai 61)),(2,yV (ai ((64:Int)-61)))]] [.keep [2,0] []] [yI (len64_ret),yN ((64:Int)-61)] ?_
 refine zR ?_
 refine zV [yR (Value.int .i64 3)]
theorem mul64_ret (x y:UInt64):Ret Tryz.prog 211 [aw x,aw y] (.tup [aw (UInt64.ofNat (x.toNat*y.toNat/18446744073709551616)),aw (x*y)]):=by
 refine zO Tryz.func211 51 ?_
 refine zP 12 [{},yH [(1,yV (aw (x&&&(4294967295:UInt64))))],yH [(1,yV (aw (x>>>(32:UInt64))))],yH [(1,yV (aw (y&&&(4294967295:UInt64))))],yH [(1,yV (aw (y>>>(32:UInt64))))],yH [(2,yV (aw ((x&&&(4294967295:UInt64))*(y&&&(4294967295:UInt64)))))],yH [(2,yV (aw (x>>>(32:UInt64)*(y&&&(4294967295:UInt64))))),(4,yV (aw (((x&&&(4294967295:UInt64))*(y&&&(4294967295:UInt64)))>>>(32:UInt64)))),(5,yV (aw (x>>>(32:UInt64)*(y&&&(4294967295:UInt64))+((x&&&(4294967295:UInt64))*(y&&&(4294967295:UInt64)))>>>(32:UInt64))))],yH [(1,yV (aw (x>>>(32:UInt64)*(y&&&(4294967295:UInt64))+((x&&&(4294967295:UInt64))*(y&&&(4294967295:UInt64)))>>>(32:UInt64)&&&(4294967295:UInt64))))],yH [(1,yV (aw ((x>>>(32:UInt64)*(y&&&(4294967295:UInt64))+((x&&&(4294967295:UInt64))*(y&&&(4294967295:UInt64)))>>>(32:UInt64))>>>(32:UInt64))))],yH [(3,yV (aw ((x&&&(4294967295:UInt64))*y>>>(32:UInt64)))),(4,yV (aw ((x>>>(32:UInt64)*(y&&&(4294967295:UInt64))+((x&&&(4294967295:UInt64))*(y&&&(4294967295:UInt64)))>>>(32:UInt64)&&&(4294967295:UInt64))+(x&&&(4294967295:UInt64))*y>>>(32:UInt64))))],yH [(2,yV (aw (x>>>(32:UInt64)*y>>>(32:UInt64)))),(4,yV (aw (x>>>(32:UInt64)*y>>>(32:UInt64)+(x>>>(32:UInt64)*(y&&&(4294967295:UInt64))+((x&&&(4294967295:UInt64))*(y&&&(4294967295:UInt64)))>>>(32:UInt64))>>>(32:UInt64)))),(6,yV (aw (((x>>>(32:UInt64)*(y&&&(4294967295:UInt64))+((x&&&(4294967295:UInt64))*(y&&&(4294967295:UInt64)))>>>(32:UInt64)&&&(4294967295:UInt64))+(x&&&(4294967295:UInt64))*y>>>(32:UInt64))>>>(32:UInt64)))),(7,yV (aw (x>>>(32:UInt64)*y>>>(32:UInt64)+(x>>>(32:UInt64)*(y&&&(4294967295:UInt64))+((x&&&(4294967295:UInt64))*(y&&&(4294967295:UInt64)))>>>(32:UInt64))>>>(32:UInt64)+((x>>>(32:UInt64)*(y&&&(4294967295:UInt64))+((x&&&(4294967295:UInt64))*(y&&&(4294967295:UInt64)))>>>(32:UInt64)&&&(4294967295:UInt64))+(x&&&(4294967295:UInt64))*y>>>(32:UInt64))>>>(32:UInt64))))],yH [(2,yV (aw (x*y)))]] [.keep [5,4,12,13,11,10,9,8,7,6,0,1] []] [yI (avw_and x 4294967295),yI (avw_shr x ((32:Int)) (by omega) (by omega)),yO ((0:Int)≤32),yI (avw_and y 4294967295),yI (avw_shr y ((32:Int)) (by omega) (by omega)),yO ((0:Int)≤32),yI (avw_mul (x&&&(4294967295:UInt64)) (y&&&(4294967295:UInt64))),yI (avw_mul (x>>>(32:UInt64)) (y&&&(4294967295:UInt64))),yI (avw_shr ((x&&&(4294967295:UInt64))*(y&&&(4294967295:UInt64))) ((32:Int)) (by omega) (by omega)),yO ((0:Int)≤32),yI (avw_add (x>>>(32:UInt64)*(y&&&(4294967295:UInt64))) (((x&&&(4294967295:UInt64))*(y&&&(4294967295:UInt64)))>>>(32:UInt64))),yI (avw_and (x>>>(32:UInt64)*(y&&&(4294967295:UInt64))+((x&&&(4294967295:UInt64))*(y&&&(4294967295:UInt64)))>>>(32:UInt64)) 4294967295),yI (avw_shr (x>>>(32:UInt64)*(y&&&(4294967295:UInt64))+((x&&&(4294967295:UInt64))*(y&&&(4294967295:UInt64)))>>>(32:UInt64)) ((32:Int)) (by omega) (by omega)),yO ((0:Int)≤32),yI (avw_mul (x&&&(4294967295:UInt64)) (y>>>(32:UInt64))),yI (avw_add (x>>>(32:UInt64)*(y&&&(4294967295:UInt64))+((x&&&(4294967295:UInt64))*(y&&&(4294967295:UInt64)))>>>(32:UInt64)&&&(4294967295:UInt64)) ((x&&&(4294967295:UInt64))*y>>>(32:UInt64))),yI (avw_mul (x>>>(32:UInt64)) (y>>>(32:UInt64))),yI (avw_add (x>>>(32:UInt64)*y>>>(32:UInt64)) ((x>>>(32:UInt64)*(y&&&(4294967295:UInt64))+((x&&&(4294967295:UInt64))*(y&&&(4294967295:UInt64)))>>>(32:UInt64))>>>(32:UInt64))),yI (avw_shr ((x>>>(32:UInt64)*(y&&&(4294967295:UInt64))+((x&&&(4294967295:UInt64))*(y&&&(4294967295:UInt64)))>>>(32:UInt64)&&&(4294967295:UInt64))+(x&&&(4294967295:UInt64))*y>>>(32:UInt64)) ((32:Int)) (by omega) (by omega)),yO ((0:Int)≤32),yI (avw_add (x>>>(32:UInt64)*y>>>(32:UInt64)+(x>>>(32:UInt64)*(y&&&(4294967295:UInt64))+((x&&&(4294967295:UInt64))*(y&&&(4294967295:UInt64)))>>>(32:UInt64))>>>(32:UInt64)) (((x>>>(32:UInt64)*(y&&&(4294967295:UInt64))+((x&&&(4294967295:UInt64))*(y&&&(4294967295:UInt64)))>>>(32:UInt64)&&&(4294967295:UInt64))+(x&&&(4294967295:UInt64))*y>>>(32:UInt64))>>>(32:UInt64))),yI (avw_mul x y)] ?_
 refine zR ?_
 refine zV [yK (wv (x>>>(32:UInt64)*y>>>(32:UInt64)+(x>>>(32:UInt64)*(y&&&(4294967295:UInt64))+((x&&&(4294967295:UInt64))*(y&&&(4294967295:UInt64)))>>>(32:UInt64))>>>(32:UInt64)+((x>>>(32:UInt64)*(y&&&(4294967295:UInt64))+((x&&&(4294967295:UInt64))*(y&&&(4294967295:UInt64)))>>>(32:UInt64)&&&(4294967295:UInt64))+(x&&&(4294967295:UInt64))*y>>>(32:UInt64))>>>(32:UInt64))) (wv (UInt64.ofNat (x.toNat*y.toNat/(18446744073709551616:Nat)))) (congrArg (fun z=>Value.int .u64 (wv z)) (mul64_w x y)),yR (Value.int .u64 (wv (x*y)))]
theorem div64_ret (hi lo:UInt64) (h:hi.toNat<2305843009213693951) (h0:hi.toNat≠0):Ret Tryz.prog 221 [aw hi,aw lo,aw 2305843009213693951] (.tup [aw (kq (hi<<<3|||lo>>>61) (lo<<<3>>>32)*(4294967296:UInt64)+kq (kr (hi<<<3|||lo>>>61) (lo<<<3>>>32)) (lo<<<3&&&4294967295)),aw (UInt64.ofNat ((hi.toNat*18446744073709551616+lo.toNat)%2305843009213693951))]):=by
 have h2:¬(wv 2305843009213693951≤wv hi):=by
  show ¬((2305843009213693951:Int)≤(hi.toNat:Int));omega
 have h3:¬hi=0:=fun e=>h0 (by rw [e];rfl)
 have hl:=lo.toNat_lt
 have hU:(hi<<<3|||lo>>>61).toNat<18446744073709551608:=by rw [dU_nat hi lo h];omega
 have hu:(lo<<<3>>>32).toNat<4294967296:=by rw [hi32,shl3_nat];omega
 have hv:(lo<<<3&&&4294967295).toNat<4294967296:=by rw [lo32];omega
 have hV:(kr (hi<<<3|||lo>>>61) (lo<<<3>>>32)).toNat<18446744073709551608:=by rw [kr_nat];omega
 have em:=kr_eq _ _ hU hu
 have em2:=kr_eq _ _ hV hv
 have er:=rem_eq hi lo h
 refine zO Tryz.func221 135 ?_
 refine zQ 1 [{}] [] ?_
 refine zS ?_
 refine zP 1 [yH [(1,yV (ao (2305843009213693951 == 0)))]] [.keep [20,7,6,0,1,2] []] [yI (avw_eq 2305843009213693951 0)] ?_
 refine zFb 20 (2305843009213693951 == 0) rfl ?_
 refine zK ?_
 refine then_n ?_
 refine zS ?_
 refine zP 1 [{}] [.keep [24,20,7,6,0,1,2] []] [] ?_
 refine zFd 24 (wv 2305843009213693951≤wv hi) ?_
 refine zK ?_
 refine then_n ?_
 refine zS ?_
 refine zQ 1 [yH [(1,yV (ao (hi == 0)))]] [yI (avw_eq hi 0)] ?_
 refine zFb 27 (hi == 0) (decide_eq_false (by omega)) ?_
 refine zK ?_
 refine then_n ?_
 refine zP 10 [yH [(1,yV (ai 3)),(2,yV (aw 3))],yH [(2,yV (aw 18446744073709551608))],yH [(1,yV (aw 4294967295))],yH [(1,yV (aw 4294967288))],yH [(2,yV (aw (hi<<<(3:UInt64)))),(5,yV (aw 61)),(6,yV (aw (lo>>>(61:UInt64)))),(7,yV (aw (hi<<<(3:UInt64)|||lo>>>(61:UInt64))))],yH [(2,yV (aw (lo<<<(3:UInt64))))],yH [(1,yV (aw (lo<<<(3:UInt64)>>>(32:UInt64))))],yH [(1,yV (aw (lo<<<(3:UInt64)&&&(4294967295:UInt64))))],yH [(2,yV (aw ((hi<<<(3:UInt64)|||lo>>>(61:UInt64))/4294967295)))],yH [(3,yV (aw ((hi<<<(3:UInt64)|||lo>>>(61:UInt64))/4294967295*4294967295))),(4,yV (aw ((hi<<<(3:UInt64)|||lo>>>(61:UInt64))-(hi<<<(3:UInt64)|||lo>>>(61:UInt64))/4294967295*4294967295)))]] [.keep [16,15,14,13,12,11,10,9,2,8,27,24,20,7,6,0,1] []] [yI (zeros64_ret),yI (avw_conv ((3:Int))),yI (avw_shl 2305843009213693951 ((3:Int)) (by omega) (by omega)),yB ((0:Int)≤wv 3) (by decide),yI (avw_shr 18446744073709551608 ((32:Int)) (by omega) (by omega)),yO ((0:Int)≤32),yI (avw_and 18446744073709551608 4294967295),yI (avw_shl hi ((3:Int)) (by omega) (by omega)),yB ((0:Int)≤wv 3) (by decide),yI (avw_sub 64 3),yI (avw_shr lo ((61:Int)) (by omega) (by omega)),yB ((0:Int)≤wv 61) (by decide),yI (avw_or (hi<<<(3:UInt64)) (lo>>>(61:UInt64))),yI (avw_shl lo ((3:Int)) (by omega) (by omega)),yB ((0:Int)≤wv 3) (by decide),yI (avw_shr (lo<<<(3:UInt64)) ((32:Int)) (by omega) (by omega)),yO ((0:Int)≤32),yI (avw_and (lo<<<(3:UInt64)) 4294967295),yI (avw_div (hi<<<(3:UInt64)|||lo>>>(61:UInt64)) 4294967295),yB (wv 4294967295≠(0:Int)) (by decide),yI (avw_mul ((hi<<<(3:UInt64)|||lo>>>(61:UInt64))/4294967295) 4294967295),yI (avw_sub (hi<<<(3:UInt64)|||lo>>>(61:UInt64)) ((hi<<<(3:UInt64)|||lo>>>(61:UInt64))/4294967295*4294967295))] ?_
 refine AWP.join (⟨[(14,aw (lo<<<(3:UInt64)&&&(4294967295:UInt64))),(13,aw (lo<<<(3:UInt64)>>>(32:UInt64))),(12,aw (lo<<<(3:UInt64))),(11,aw (hi<<<(3:UInt64)|||lo>>>(61:UInt64))),(10,aw 4294967288),(9,aw 4294967295),(2,aw 18446744073709551608),(8,aw 3),(27,ao (hi == 0)),(24,ao (decide (wv 2305843009213693951≤wv hi))),(20,ao (2305843009213693951 == 0)),(7,AV.val (Value.int .u64 0)),(6,AV.val (Value.int .u64 0)),(0,aw hi),(1,aw lo),(15,aw (kq (hi<<<3|||lo>>>61) (lo<<<3>>>32)))],[]⟩:AS) (by kernel_rfl) ?_ ?_
 ·refine zB 0 ?_
  refine zL (fun (x:UInt64×UInt64)=>(⟨[(14,aw (lo<<<(3:UInt64)&&&(4294967295:UInt64))),(13,aw (lo<<<(3:UInt64)>>>(32:UInt64))),(12,aw (lo<<<(3:UInt64))),(11,aw (hi<<<(3:UInt64)|||lo>>>(61:UInt64))),(10,aw 4294967288),(9,aw 4294967295),(2,aw 18446744073709551608),(8,aw 3),(27,ao (hi == 0)),(24,ao (decide (wv 2305843009213693951≤wv hi))),(20,ao (2305843009213693951 == 0)),(7,AV.val (Value.int .u64 0)),(6,AV.val (Value.int .u64 0)),(0,aw hi),(1,aw lo),(15,aw x.1),(16,aw x.2)],[]⟩:AS)) (fun x=>(KN (hi<<<3|||lo>>>61) (lo<<<3>>>32) x)) (fun x=>(x.1.toNat)) ((((hi<<<3|||lo>>>61)/4294967295,(hi<<<3|||lo>>>61)-(hi<<<3|||lo>>>61)/4294967295*4294967295):UInt64×UInt64)) ?_ (zW [.keep [14,13,12,11,10,9,2,8,27,24,20,7,6,0,1,15,16] []]) ?_
  ·exact KN.init hU hu
  intro x hx
  by_cases hq:x.1.toNat<4294967296
  ·have g1:¬wv x.1≥4294967296:=by unfold wv;omega
   by_cases hn:wv (x.1*4294967288)>wv ((4294967296:UInt64)*x.2+(lo<<<3>>>32))
   ·have hl:=hx.less hU hu (.inr ⟨hq,hn⟩)
    have g2:wv (x.2+4294967295)=4294967295+x.2.toNat:=by unfold wv;rw [hl.2.2];omega
    by_cases hr:x.2.toNat<1
    ·have kn:=hx.next hl hr
     refine zS ?_
     refine zP 1 [yH [(3,{g:=false}),(4,{g:=false}),(5,{av:=some (aw (x.fst*4294967288)),g:=false}),(6,{g:=false}),(7,{av:=some (aw (4294967296*x.snd)),g:=false}),(8,{g:=false}),(9,{av:=some (aw (4294967296*x.snd+lo<<<(3:UInt64)>>>(32:UInt64))),g:=false}),(10,{g:=false}),(11,{b:=false})]] [.keep [78,14,13,12,11,10,9,2,8,27,24,20,7,6,0,1,15,16] []] [yF (wv x.fst≥4294967296),yF (wv x.fst≥4294967296),yF (wv x.fst≥4294967296),yI (avw_mul x.fst 4294967288),yF (wv x.fst≥4294967296),yF (wv x.fst≥4294967296),yI (avw_mul 4294967296 x.snd),yF (wv x.fst≥4294967296),yF (wv x.fst≥4294967296),yI (avw_add (4294967296*x.snd) (lo<<<(3:UInt64)>>>(32:UInt64))),yF (wv x.fst≥4294967296),yF (wv x.fst≥4294967296)] ?_
     refine zTd 78 (wv (x.fst*4294967288)>wv (4294967296*x.snd+lo<<<(3:UInt64)>>>(32:UInt64))) ?_
     refine zK ?_
     refine then_n ?_
     refine zB 1 ?_
     refine zP 3 [yH [(1,yV (aw (x.fst-1)))],yH [(2,yV (aw (x.snd+4294967295)))],{}] [.keep [85,16,15,78,14,13,12,11,10,9,2,8,27,24,20,7,6,0,1] []] [yI (avw_sub x.fst 1),yI (avw_add x.snd 4294967295)] ?_
     refine zFd 85 (wv (x.snd+4294967295)≥4294967296) ?_
     refine zK ?_
     refine inb_n ?_
     refine round_n (x.1-1,x.2+4294967295) kn (by have:=hl.1;have:=hl.2.1;dsimp only;omega) (zW [.keep [14,13,12,11,10,9,2,8,27,24,20,7,6,0,1,15,16] []])
    ·have kn:=hx.brk hU hu hl hr
     refine zS ?_
     refine zP 1 [yH [(3,{g:=false}),(4,{g:=false}),(5,{av:=some (aw (x.fst*4294967288)),g:=false}),(6,{g:=false}),(7,{av:=some (aw (4294967296*x.snd)),g:=false}),(8,{g:=false}),(9,{av:=some (aw (4294967296*x.snd+lo<<<(3:UInt64)>>>(32:UInt64))),g:=false}),(10,{g:=false}),(11,{b:=false})]] [.keep [78,14,13,12,11,10,9,2,8,27,24,20,7,6,0,1,15,16] []] [yF (wv x.fst≥4294967296),yF (wv x.fst≥4294967296),yF (wv x.fst≥4294967296),yI (avw_mul x.fst 4294967288),yF (wv x.fst≥4294967296),yF (wv x.fst≥4294967296),yI (avw_mul 4294967296 x.snd),yF (wv x.fst≥4294967296),yF (wv x.fst≥4294967296),yI (avw_add (4294967296*x.snd) (lo<<<(3:UInt64)>>>(32:UInt64))),yF (wv x.fst≥4294967296),yF (wv x.fst≥4294967296)] ?_
     refine zTd 78 (wv (x.fst*4294967288)>wv (4294967296*x.snd+lo<<<(3:UInt64)>>>(32:UInt64))) ?_
     refine zK ?_
     refine then_n ?_
     refine zB 1 ?_
     refine zP 3 [yH [(1,yV (aw (x.fst-1)))],yH [(2,yV (aw (x.snd+4294967295)))],{}] [.keep [85,16,15,78,14,13,12,11,10,9,2,8,27,24,20,7,6,0,1] []] [yI (avw_sub x.fst 1),yI (avw_add x.snd 4294967295)] ?_
     refine zTd 85 (wv (x.snd+4294967295)≥4294967296) ?_
     refine zE 0 ?_
     refine inb_o (by kernel_rfl) ?_
     refine round_e ?_
     refine inb_e ?_
     refine then_n ?_
     exact Weaks.of [.keep [14,13,12,11,10,9,2,8,27,24,20,7,6,0,1,15] []] (s1:=AS.mk [(14,aw (lo<<<(3:UInt64)&&&(4294967295:UInt64))),(13,aw (lo<<<(3:UInt64)>>>(32:UInt64))),(12,aw (lo<<<(3:UInt64))),(11,aw (hi<<<(3:UInt64)|||lo>>>(61:UInt64))),(10,aw 4294967288),(9,aw 4294967295),(2,aw 18446744073709551608),(8,aw 3),(27,ao (hi == 0)),(24,ao (decide (wv 2305843009213693951≤wv hi))),(20,ao (2305843009213693951 == 0)),(7,AV.val (Value.int .u64 0)),(6,AV.val (Value.int .u64 0)),(0,aw hi),(1,aw lo),(15,aw (x.fst-1))] []) (by kernel_rfl) (as_eq (f_cons rfl (f_cons rfl (f_cons rfl (f_cons rfl (f_cons rfl (f_cons rfl (f_cons rfl (f_cons rfl (f_cons rfl (f_cons rfl (f_cons rfl (f_cons rfl (f_cons rfl (f_cons rfl (f_cons rfl (f_cons (congrArg aw kn) rfl)))))))))))))))) rfl)
   ·have kn:=hx.stop hU hu hq hn
    refine zS ?_
    refine zP 1 [yH [(3,{g:=false}),(4,{g:=false}),(5,{av:=some (aw (x.fst*4294967288)),g:=false}),(6,{g:=false}),(7,{av:=some (aw (4294967296*x.snd)),g:=false}),(8,{g:=false}),(9,{av:=some (aw (4294967296*x.snd+lo<<<(3:UInt64)>>>(32:UInt64))),g:=false}),(10,{g:=false}),(11,{b:=false})]] [.keep [78,14,13,12,11,10,9,2,8,27,24,20,7,6,0,1,15,16] []] [yF (wv x.fst≥4294967296),yF (wv x.fst≥4294967296),yF (wv x.fst≥4294967296),yI (avw_mul x.fst 4294967288),yF (wv x.fst≥4294967296),yF (wv x.fst≥4294967296),yI (avw_mul 4294967296 x.snd),yF (wv x.fst≥4294967296),yF (wv x.fst≥4294967296),yI (avw_add (4294967296*x.snd) (lo<<<(3:UInt64)>>>(32:UInt64))),yF (wv x.fst≥4294967296),yF (wv x.fst≥4294967296)] ?_
    refine zFd 78 (wv (x.fst*4294967288)>wv (4294967296*x.snd+lo<<<(3:UInt64)>>>(32:UInt64))) ?_
    refine zE 0 ?_
    refine then_e ?_
    refine round_e ?_
    refine inb_e ?_
    refine then_n ?_
    exact Weaks.of [.keep [14,13,12,11,10,9,2,8,27,24,20,7,6,0,1,15] []] (s1:=AS.mk [(14,aw (lo<<<(3:UInt64)&&&(4294967295:UInt64))),(13,aw (lo<<<(3:UInt64)>>>(32:UInt64))),(12,aw (lo<<<(3:UInt64))),(11,aw (hi<<<(3:UInt64)|||lo>>>(61:UInt64))),(10,aw 4294967288),(9,aw 4294967295),(2,aw 18446744073709551608),(8,aw 3),(27,ao (hi == 0)),(24,ao (decide (wv 2305843009213693951≤wv hi))),(20,ao (2305843009213693951 == 0)),(7,AV.val (Value.int .u64 0)),(6,AV.val (Value.int .u64 0)),(0,aw hi),(1,aw lo),(15,aw x.fst)] []) (by kernel_rfl) (as_eq (f_cons rfl (f_cons rfl (f_cons rfl (f_cons rfl (f_cons rfl (f_cons rfl (f_cons rfl (f_cons rfl (f_cons rfl (f_cons rfl (f_cons rfl (f_cons rfl (f_cons rfl (f_cons rfl (f_cons rfl (f_cons (congrArg aw kn) rfl)))))))))))))))) rfl)
  ·have g1:wv x.1≥4294967296:=by unfold wv;omega
   have hl:=hx.less hU hu (.inl (by omega))
   have g2:wv (x.2+4294967295)=4294967295+x.2.toNat:=by unfold wv;rw [hl.2.2];omega
   by_cases hr:x.2.toNat<1
   ·have kn:=hx.next hl hr
    refine zS ?_
    refine zP 1 [{}] [.keep [78,14,13,12,11,10,9,2,8,27,24,20,7,6,0,1,15,16] []] [yT (wv x.fst≥4294967296),yT (wv x.fst≥4294967296),yT (wv x.fst≥4294967296),yT (wv x.fst≥4294967296),yT (wv x.fst≥4294967296),yT (wv x.fst≥4294967296),yT (wv x.fst≥4294967296),yT (wv x.fst≥4294967296),yT (wv x.fst≥4294967296)] ?_
    refine zT 78 ?_
    refine zK ?_
    refine then_n ?_
    refine zB 1 ?_
    refine zP 3 [yH [(1,yV (aw (x.fst-1)))],yH [(2,yV (aw (x.snd+4294967295)))],{}] [.keep [85,16,15,78,14,13,12,11,10,9,2,8,27,24,20,7,6,0,1] []] [yI (avw_sub x.fst 1),yI (avw_add x.snd 4294967295)] ?_
    refine zFd 85 (wv (x.snd+4294967295)≥4294967296) ?_
    refine zK ?_
    refine inb_n ?_
    refine round_n (x.1-1,x.2+4294967295) kn (by have:=hl.1;have:=hl.2.1;dsimp only;omega) (zW [.keep [14,13,12,11,10,9,2,8,27,24,20,7,6,0,1,15,16] []])
   ·have kn:=hx.brk hU hu hl hr
    refine zS ?_
    refine zP 1 [{}] [.keep [78,14,13,12,11,10,9,2,8,27,24,20,7,6,0,1,15,16] []] [yT (wv x.fst≥4294967296),yT (wv x.fst≥4294967296),yT (wv x.fst≥4294967296),yT (wv x.fst≥4294967296),yT (wv x.fst≥4294967296),yT (wv x.fst≥4294967296),yT (wv x.fst≥4294967296),yT (wv x.fst≥4294967296),yT (wv x.fst≥4294967296)] ?_
    refine zT 78 ?_
    refine zK ?_
    refine then_n ?_
    refine zB 1 ?_
    refine zP 3 [yH [(1,yV (aw (x.fst-1)))],yH [(2,yV (aw (x.snd+4294967295)))],{}] [.keep [85,16,15,78,14,13,12,11,10,9,2,8,27,24,20,7,6,0,1] []] [yI (avw_sub x.fst 1),yI (avw_add x.snd 4294967295)] ?_
    refine zTd 85 (wv (x.snd+4294967295)≥4294967296) ?_
    refine zE 0 ?_
    refine inb_o (by kernel_rfl) ?_
    refine round_e ?_
    refine inb_e ?_
    refine then_n ?_
    exact Weaks.of [.keep [14,13,12,11,10,9,2,8,27,24,20,7,6,0,1,15] []] (s1:=AS.mk [(14,aw (lo<<<(3:UInt64)&&&(4294967295:UInt64))),(13,aw (lo<<<(3:UInt64)>>>(32:UInt64))),(12,aw (lo<<<(3:UInt64))),(11,aw (hi<<<(3:UInt64)|||lo>>>(61:UInt64))),(10,aw 4294967288),(9,aw 4294967295),(2,aw 18446744073709551608),(8,aw 3),(27,ao (hi == 0)),(24,ao (decide (wv 2305843009213693951≤wv hi))),(20,ao (2305843009213693951 == 0)),(7,AV.val (Value.int .u64 0)),(6,AV.val (Value.int .u64 0)),(0,aw hi),(1,aw lo),(15,aw (x.fst-1))] []) (by kernel_rfl) (as_eq (f_cons rfl (f_cons rfl (f_cons rfl (f_cons rfl (f_cons rfl (f_cons rfl (f_cons rfl (f_cons rfl (f_cons rfl (f_cons rfl (f_cons rfl (f_cons rfl (f_cons rfl (f_cons rfl (f_cons rfl (f_cons (congrArg aw kn) rfl)))))))))))))))) rfl)
 refine zP 3 [yH [(1,yV (aw ((hi<<<(3:UInt64)|||lo>>>(61:UInt64))*4294967296))),(3,yV (aw ((hi<<<(3:UInt64)|||lo>>>(61:UInt64))*4294967296+lo<<<(3:UInt64)>>>(32:UInt64)))),(6,yV (aw (kq (hi<<<(3:UInt64)|||lo>>>(61:UInt64)) (lo<<<(3:UInt64)>>>(32:UInt64))*18446744073709551608))),(7,yV (aw (kr (hi<<<(3:UInt64)|||lo>>>(61:UInt64)) (lo<<<(3:UInt64)>>>(32:UInt64)))))],yH [(2,yV (aw (kr (hi<<<(3:UInt64)|||lo>>>(61:UInt64)) (lo<<<(3:UInt64)>>>(32:UInt64))/4294967295)))],yH [(3,yV (aw (kr (hi<<<(3:UInt64)|||lo>>>(61:UInt64)) (lo<<<(3:UInt64)>>>(32:UInt64))/4294967295*4294967295))),(4,yV (aw (kr (hi<<<(3:UInt64)|||lo>>>(61:UInt64)) (lo<<<(3:UInt64)>>>(32:UInt64))-kr (hi<<<(3:UInt64)|||lo>>>(61:UInt64)) (lo<<<(3:UInt64)>>>(32:UInt64))/4294967295*4294967295)))]] [.keep [16,18,17,14,13,12,11,10,9,2,8,27,24,20,7,6,0,1,15] []] [yI (avw_mul (hi<<<(3:UInt64)|||lo>>>(61:UInt64)) 4294967296),yI (avw_add ((hi<<<(3:UInt64)|||lo>>>(61:UInt64))*4294967296) (lo<<<(3:UInt64)>>>(32:UInt64))),yI (avw_mul (kq (hi<<<(3:UInt64)|||lo>>>(61:UInt64)) (lo<<<(3:UInt64)>>>(32:UInt64))) 18446744073709551608),yB (AV.val (Value.int .u64 (IntKind.u64.wrap (wv ((hi<<<(3:UInt64)|||lo>>>(61:UInt64))*4294967296+lo<<<(3:UInt64)>>>(32:UInt64))-wv (kq (hi<<<(3:UInt64)|||lo>>>(61:UInt64)) (lo<<<(3:UInt64)>>>(32:UInt64))*18446744073709551608))))=aw (kr (hi<<<(3:UInt64)|||lo>>>(61:UInt64)) (lo<<<(3:UInt64)>>>(32:UInt64)))) ((avw_sub _ _).trans (congrArg aw em)),yI (avw_div (kr (hi<<<(3:UInt64)|||lo>>>(61:UInt64)) (lo<<<(3:UInt64)>>>(32:UInt64))) 4294967295),yB (wv 4294967295≠(0:Int)) (by decide),yI (avw_mul (kr (hi<<<(3:UInt64)|||lo>>>(61:UInt64)) (lo<<<(3:UInt64)>>>(32:UInt64))/4294967295) 4294967295),yI (avw_sub (kr (hi<<<(3:UInt64)|||lo>>>(61:UInt64)) (lo<<<(3:UInt64)>>>(32:UInt64))) (kr (hi<<<(3:UInt64)|||lo>>>(61:UInt64)) (lo<<<(3:UInt64)>>>(32:UInt64))/4294967295*4294967295))] ?_
 refine AWP.join (⟨[(17,aw (kr (hi<<<(3:UInt64)|||lo>>>(61:UInt64)) (lo<<<(3:UInt64)>>>(32:UInt64)))),(14,aw (lo<<<(3:UInt64)&&&(4294967295:UInt64))),(13,aw (lo<<<(3:UInt64)>>>(32:UInt64))),(12,aw (lo<<<(3:UInt64))),(11,aw (hi<<<(3:UInt64)|||lo>>>(61:UInt64))),(10,aw 4294967288),(9,aw 4294967295),(2,aw 18446744073709551608),(8,aw 3),(27,ao (hi == 0)),(24,ao (decide (wv 2305843009213693951≤wv hi))),(20,ao (2305843009213693951 == 0)),(7,AV.val (Value.int .u64 0)),(6,AV.val (Value.int .u64 0)),(0,aw hi),(1,aw lo),(15,aw (kq (hi<<<(3:UInt64)|||lo>>>(61:UInt64)) (lo<<<(3:UInt64)>>>(32:UInt64)))),(18,aw (kq (kr (hi<<<3|||lo>>>61) (lo<<<3>>>32)) (lo<<<3&&&4294967295)))],[]⟩:AS) (by kernel_rfl) ?_ ?_
 ·refine zB 2 ?_
  refine zL (fun (x:UInt64×UInt64)=>(⟨[(17,aw (kr (hi<<<(3:UInt64)|||lo>>>(61:UInt64)) (lo<<<(3:UInt64)>>>(32:UInt64)))),(14,aw (lo<<<(3:UInt64)&&&(4294967295:UInt64))),(13,aw (lo<<<(3:UInt64)>>>(32:UInt64))),(12,aw (lo<<<(3:UInt64))),(11,aw (hi<<<(3:UInt64)|||lo>>>(61:UInt64))),(10,aw 4294967288),(9,aw 4294967295),(2,aw 18446744073709551608),(8,aw 3),(27,ao (hi == 0)),(24,ao (decide (wv 2305843009213693951≤wv hi))),(20,ao (2305843009213693951 == 0)),(7,AV.val (Value.int .u64 0)),(6,AV.val (Value.int .u64 0)),(0,aw hi),(1,aw lo),(15,aw (kq (hi<<<(3:UInt64)|||lo>>>(61:UInt64)) (lo<<<(3:UInt64)>>>(32:UInt64)))),(18,aw x.1),(16,aw x.2)],[]⟩:AS)) (fun x=>(KN (kr (hi<<<3|||lo>>>61) (lo<<<3>>>32)) (lo<<<3&&&4294967295) x)) (fun x=>(x.1.toNat)) ((((kr (hi<<<3|||lo>>>61) (lo<<<3>>>32))/4294967295,(kr (hi<<<3|||lo>>>61) (lo<<<3>>>32))-(kr (hi<<<3|||lo>>>61) (lo<<<3>>>32))/4294967295*4294967295):UInt64×UInt64)) ?_ (zW [.keep [17,14,13,12,11,10,9,2,8,27,24,20,7,6,0,1,15,18,16] []]) ?_
  ·exact KN.init hV hv
  intro x hx
  by_cases hq:x.1.toNat<4294967296
  ·have g1:¬wv x.1≥4294967296:=by unfold wv;omega
   by_cases hn:wv (x.1*4294967288)>wv ((4294967296:UInt64)*x.2+(lo<<<3&&&4294967295))
   ·have hl:=hx.less hV hv (.inr ⟨hq,hn⟩)
    have g2:wv (x.2+4294967295)=4294967295+x.2.toNat:=by unfold wv;rw [hl.2.2];omega
    by_cases hr:x.2.toNat<1
    ·have kn:=hx.next hl hr
     refine zS ?_
     refine zP 1 [yH [(3,{g:=false}),(4,{g:=false}),(5,{av:=some (aw (x.fst*4294967288)),g:=false}),(6,{g:=false}),(7,{av:=some (aw (4294967296*x.snd)),g:=false}),(8,{g:=false}),(9,{av:=some (aw (4294967296*x.snd+(lo<<<(3:UInt64)&&&(4294967295:UInt64)))),g:=false}),(10,{g:=false}),(11,{b:=false})]] [.keep [113,17,14,13,12,11,10,9,2,8,27,24,20,7,6,0,1,15,18,16] []] [yF (wv x.fst≥4294967296),yF (wv x.fst≥4294967296),yF (wv x.fst≥4294967296),yI (avw_mul x.fst 4294967288),yF (wv x.fst≥4294967296),yF (wv x.fst≥4294967296),yI (avw_mul 4294967296 x.snd),yF (wv x.fst≥4294967296),yF (wv x.fst≥4294967296),yI (avw_add (4294967296*x.snd) (lo<<<(3:UInt64)&&&(4294967295:UInt64))),yF (wv x.fst≥4294967296),yF (wv x.fst≥4294967296)] ?_
     refine zTd 113 (wv (x.fst*4294967288)>wv (4294967296*x.snd+(lo<<<(3:UInt64)&&&(4294967295:UInt64)))) ?_
     refine zK ?_
     refine then_n ?_
     refine zB 3 ?_
     refine zP 3 [yH [(1,yV (aw (x.fst-1)))],yH [(2,yV (aw (x.snd+4294967295)))],{}] [.keep [120,16,18,113,17,14,13,12,11,10,9,2,8,27,24,20,7,6,0,1,15] []] [yI (avw_sub x.fst 1),yI (avw_add x.snd 4294967295)] ?_
     refine zFd 120 (wv (x.snd+4294967295)≥4294967296) ?_
     refine zK ?_
     refine inb_n ?_
     refine round_n (x.1-1,x.2+4294967295) kn (by have:=hl.1;have:=hl.2.1;dsimp only;omega) (zW [.keep [17,14,13,12,11,10,9,2,8,27,24,20,7,6,0,1,15,18,16] []])
    ·have kn:=hx.brk hV hv hl hr
     refine zS ?_
     refine zP 1 [yH [(3,{g:=false}),(4,{g:=false}),(5,{av:=some (aw (x.fst*4294967288)),g:=false}),(6,{g:=false}),(7,{av:=some (aw (4294967296*x.snd)),g:=false}),(8,{g:=false}),(9,{av:=some (aw (4294967296*x.snd+(lo<<<(3:UInt64)&&&(4294967295:UInt64)))),g:=false}),(10,{g:=false}),(11,{b:=false})]] [.keep [113,17,14,13,12,11,10,9,2,8,27,24,20,7,6,0,1,15,18,16] []] [yF (wv x.fst≥4294967296),yF (wv x.fst≥4294967296),yF (wv x.fst≥4294967296),yI (avw_mul x.fst 4294967288),yF (wv x.fst≥4294967296),yF (wv x.fst≥4294967296),yI (avw_mul 4294967296 x.snd),yF (wv x.fst≥4294967296),yF (wv x.fst≥4294967296),yI (avw_add (4294967296*x.snd) (lo<<<(3:UInt64)&&&(4294967295:UInt64))),yF (wv x.fst≥4294967296),yF (wv x.fst≥4294967296)] ?_
     refine zTd 113 (wv (x.fst*4294967288)>wv (4294967296*x.snd+(lo<<<(3:UInt64)&&&(4294967295:UInt64)))) ?_
     refine zK ?_
     refine then_n ?_
     refine zB 3 ?_
     refine zP 3 [yH [(1,yV (aw (x.fst-1)))],yH [(2,yV (aw (x.snd+4294967295)))],{}] [.keep [120,16,18,113,17,14,13,12,11,10,9,2,8,27,24,20,7,6,0,1,15] []] [yI (avw_sub x.fst 1),yI (avw_add x.snd 4294967295)] ?_
     refine zTd 120 (wv (x.snd+4294967295)≥4294967296) ?_
     refine zE 2 ?_
     refine inb_o (by kernel_rfl) ?_
     refine round_e ?_
     refine inb_e ?_
     refine then_n ?_
     exact Weaks.of [.keep [17,14,13,12,11,10,9,2,8,27,24,20,7,6,0,1,15,18] []] (s1:=AS.mk [(17,aw (kr (hi<<<(3:UInt64)|||lo>>>(61:UInt64)) (lo<<<(3:UInt64)>>>(32:UInt64)))),(14,aw (lo<<<(3:UInt64)&&&(4294967295:UInt64))),(13,aw (lo<<<(3:UInt64)>>>(32:UInt64))),(12,aw (lo<<<(3:UInt64))),(11,aw (hi<<<(3:UInt64)|||lo>>>(61:UInt64))),(10,aw 4294967288),(9,aw 4294967295),(2,aw 18446744073709551608),(8,aw 3),(27,ao (hi == 0)),(24,ao (decide (wv 2305843009213693951≤wv hi))),(20,ao (2305843009213693951 == 0)),(7,AV.val (Value.int .u64 0)),(6,AV.val (Value.int .u64 0)),(0,aw hi),(1,aw lo),(15,aw (kq (hi<<<(3:UInt64)|||lo>>>(61:UInt64)) (lo<<<(3:UInt64)>>>(32:UInt64)))),(18,aw (x.fst-1))] []) (by kernel_rfl) (as_eq (f_cons rfl (f_cons rfl (f_cons rfl (f_cons rfl (f_cons rfl (f_cons rfl (f_cons rfl (f_cons rfl (f_cons rfl (f_cons rfl (f_cons rfl (f_cons rfl (f_cons rfl (f_cons rfl (f_cons rfl (f_cons rfl (f_cons rfl (f_cons (congrArg aw kn) rfl)))))))))))))))))) rfl)
   ·have kn:=hx.stop hV hv hq hn
    refine zS ?_
    refine zP 1 [yH [(3,{g:=false}),(4,{g:=false}),(5,{av:=some (aw (x.fst*4294967288)),g:=false}),(6,{g:=false}),(7,{av:=some (aw (4294967296*x.snd)),g:=false}),(8,{g:=false}),(9,{av:=some (aw (4294967296*x.snd+(lo<<<(3:UInt64)&&&(4294967295:UInt64)))),g:=false}),(10,{g:=false}),(11,{b:=false})]] [.keep [113,17,14,13,12,11,10,9,2,8,27,24,20,7,6,0,1,15,18,16] []] [yF (wv x.fst≥4294967296),yF (wv x.fst≥4294967296),yF (wv x.fst≥4294967296),yI (avw_mul x.fst 4294967288),yF (wv x.fst≥4294967296),yF (wv x.fst≥4294967296),yI (avw_mul 4294967296 x.snd),yF (wv x.fst≥4294967296),yF (wv x.fst≥4294967296),yI (avw_add (4294967296*x.snd) (lo<<<(3:UInt64)&&&(4294967295:UInt64))),yF (wv x.fst≥4294967296),yF (wv x.fst≥4294967296)] ?_
    refine zFd 113 (wv (x.fst*4294967288)>wv (4294967296*x.snd+(lo<<<(3:UInt64)&&&(4294967295:UInt64)))) ?_
    refine zE 2 ?_
    refine then_e ?_
    refine round_e ?_
    refine inb_e ?_
    refine then_n ?_
    exact Weaks.of [.keep [17,14,13,12,11,10,9,2,8,27,24,20,7,6,0,1,15,18] []] (s1:=AS.mk [(17,aw (kr (hi<<<(3:UInt64)|||lo>>>(61:UInt64)) (lo<<<(3:UInt64)>>>(32:UInt64)))),(14,aw (lo<<<(3:UInt64)&&&(4294967295:UInt64))),(13,aw (lo<<<(3:UInt64)>>>(32:UInt64))),(12,aw (lo<<<(3:UInt64))),(11,aw (hi<<<(3:UInt64)|||lo>>>(61:UInt64))),(10,aw 4294967288),(9,aw 4294967295),(2,aw 18446744073709551608),(8,aw 3),(27,ao (hi == 0)),(24,ao (decide (wv 2305843009213693951≤wv hi))),(20,ao (2305843009213693951 == 0)),(7,AV.val (Value.int .u64 0)),(6,AV.val (Value.int .u64 0)),(0,aw hi),(1,aw lo),(15,aw (kq (hi<<<(3:UInt64)|||lo>>>(61:UInt64)) (lo<<<(3:UInt64)>>>(32:UInt64)))),(18,aw x.fst)] []) (by kernel_rfl) (as_eq (f_cons rfl (f_cons rfl (f_cons rfl (f_cons rfl (f_cons rfl (f_cons rfl (f_cons rfl (f_cons rfl (f_cons rfl (f_cons rfl (f_cons rfl (f_cons rfl (f_cons rfl (f_cons rfl (f_cons rfl (f_cons rfl (f_cons rfl (f_cons (congrArg aw kn) rfl)))))))))))))))))) rfl)
  ·have g1:wv x.1≥4294967296:=by unfold wv;omega
   have hl:=hx.less hV hv (.inl (by omega))
   have g2:wv (x.2+4294967295)=4294967295+x.2.toNat:=by unfold wv;rw [hl.2.2];omega
   by_cases hr:x.2.toNat<1
   ·have kn:=hx.next hl hr
    refine zS ?_
    refine zP 1 [{}] [.keep [113,17,14,13,12,11,10,9,2,8,27,24,20,7,6,0,1,15,18,16] []] [yT (wv x.fst≥4294967296),yT (wv x.fst≥4294967296),yT (wv x.fst≥4294967296),yT (wv x.fst≥4294967296),yT (wv x.fst≥4294967296),yT (wv x.fst≥4294967296),yT (wv x.fst≥4294967296),yT (wv x.fst≥4294967296),yT (wv x.fst≥4294967296)] ?_
    refine zT 113 ?_
    refine zK ?_
    refine then_n ?_
    refine zB 3 ?_
    refine zP 3 [yH [(1,yV (aw (x.fst-1)))],yH [(2,yV (aw (x.snd+4294967295)))],{}] [.keep [120,16,18,113,17,14,13,12,11,10,9,2,8,27,24,20,7,6,0,1,15] []] [yI (avw_sub x.fst 1),yI (avw_add x.snd 4294967295)] ?_
    refine zFd 120 (wv (x.snd+4294967295)≥4294967296) ?_
    refine zK ?_
    refine inb_n ?_
    refine round_n (x.1-1,x.2+4294967295) kn (by have:=hl.1;have:=hl.2.1;dsimp only;omega) (zW [.keep [17,14,13,12,11,10,9,2,8,27,24,20,7,6,0,1,15,18,16] []])
   ·have kn:=hx.brk hV hv hl hr
    refine zS ?_
    refine zP 1 [{}] [.keep [113,17,14,13,12,11,10,9,2,8,27,24,20,7,6,0,1,15,18,16] []] [yT (wv x.fst≥4294967296),yT (wv x.fst≥4294967296),yT (wv x.fst≥4294967296),yT (wv x.fst≥4294967296),yT (wv x.fst≥4294967296),yT (wv x.fst≥4294967296),yT (wv x.fst≥4294967296),yT (wv x.fst≥4294967296),yT (wv x.fst≥4294967296)] ?_
    refine zT 113 ?_
    refine zK ?_
    refine then_n ?_
    refine zB 3 ?_
    refine zP 3 [yH [(1,yV (aw (x.fst-1)))],yH [(2,yV (aw (x.snd+4294967295)))],{}] [.keep [120,16,18,113,17,14,13,12,11,10,9,2,8,27,24,20,7,6,0,1,15] []] [yI (avw_sub x.fst 1),yI (avw_add x.snd 4294967295)] ?_
    refine zTd 120 (wv (x.snd+4294967295)≥4294967296) ?_
    refine zE 2 ?_
    refine inb_o (by kernel_rfl) ?_
    refine round_e ?_
    refine inb_e ?_
    refine then_n ?_
    exact Weaks.of [.keep [17,14,13,12,11,10,9,2,8,27,24,20,7,6,0,1,15,18] []] (s1:=AS.mk [(17,aw (kr (hi<<<(3:UInt64)|||lo>>>(61:UInt64)) (lo<<<(3:UInt64)>>>(32:UInt64)))),(14,aw (lo<<<(3:UInt64)&&&(4294967295:UInt64))),(13,aw (lo<<<(3:UInt64)>>>(32:UInt64))),(12,aw (lo<<<(3:UInt64))),(11,aw (hi<<<(3:UInt64)|||lo>>>(61:UInt64))),(10,aw 4294967288),(9,aw 4294967295),(2,aw 18446744073709551608),(8,aw 3),(27,ao (hi == 0)),(24,ao (decide (wv 2305843009213693951≤wv hi))),(20,ao (2305843009213693951 == 0)),(7,AV.val (Value.int .u64 0)),(6,AV.val (Value.int .u64 0)),(0,aw hi),(1,aw lo),(15,aw (kq (hi<<<(3:UInt64)|||lo>>>(61:UInt64)) (lo<<<(3:UInt64)>>>(32:UInt64)))),(18,aw (x.fst-1))] []) (by kernel_rfl) (as_eq (f_cons rfl (f_cons rfl (f_cons rfl (f_cons rfl (f_cons rfl (f_cons rfl (f_cons rfl (f_cons rfl (f_cons rfl (f_cons rfl (f_cons rfl (f_cons rfl (f_cons rfl (f_cons rfl (f_cons rfl (f_cons rfl (f_cons rfl (f_cons (congrArg aw kn) rfl)))))))))))))))))) rfl)
 refine zP 1 [yH [(1,yV (aw (kq (hi<<<(3:UInt64)|||lo>>>(61:UInt64)) (lo<<<(3:UInt64)>>>(32:UInt64))*4294967296))),(3,yV (aw (kq (hi<<<(3:UInt64)|||lo>>>(61:UInt64)) (lo<<<(3:UInt64)>>>(32:UInt64))*4294967296+kq (kr (hi<<<(3:UInt64)|||lo>>>(61:UInt64)) (lo<<<(3:UInt64)>>>(32:UInt64))) (lo<<<(3:UInt64)&&&(4294967295:UInt64))))),(5,yV (aw (kr (hi<<<(3:UInt64)|||lo>>>(61:UInt64)) (lo<<<(3:UInt64)>>>(32:UInt64))*4294967296))),(7,yV (aw (kr (hi<<<(3:UInt64)|||lo>>>(61:UInt64)) (lo<<<(3:UInt64)>>>(32:UInt64))*4294967296+(lo<<<(3:UInt64)&&&(4294967295:UInt64))))),(10,yV (aw (kq (kr (hi<<<(3:UInt64)|||lo>>>(61:UInt64)) (lo<<<(3:UInt64)>>>(32:UInt64))) (lo<<<(3:UInt64)&&&(4294967295:UInt64))*18446744073709551608))),(11,yV (aw (kr (hi<<<(3:UInt64)|||lo>>>(61:UInt64)) (lo<<<(3:UInt64)>>>(32:UInt64))*4294967296+(lo<<<(3:UInt64)&&&(4294967295:UInt64))-kq (kr (hi<<<(3:UInt64)|||lo>>>(61:UInt64)) (lo<<<(3:UInt64)>>>(32:UInt64))) (lo<<<(3:UInt64)&&&(4294967295:UInt64))*18446744073709551608))),(13,yV (aw ((kr (hi<<<(3:UInt64)|||lo>>>(61:UInt64)) (lo<<<(3:UInt64)>>>(32:UInt64))*4294967296+(lo<<<(3:UInt64)&&&(4294967295:UInt64))-kq (kr (hi<<<(3:UInt64)|||lo>>>(61:UInt64)) (lo<<<(3:UInt64)>>>(32:UInt64))) (lo<<<(3:UInt64)&&&(4294967295:UInt64))*18446744073709551608)>>>(3:UInt64))))]] [.keep [7,6,17,14,13,12,11,10,9,2,8,27,24,20,0,1,15,18] []] [yI (avw_mul (kq (hi<<<(3:UInt64)|||lo>>>(61:UInt64)) (lo<<<(3:UInt64)>>>(32:UInt64))) 4294967296),yI (avw_add (kq (hi<<<(3:UInt64)|||lo>>>(61:UInt64)) (lo<<<(3:UInt64)>>>(32:UInt64))*4294967296) (kq (kr (hi<<<(3:UInt64)|||lo>>>(61:UInt64)) (lo<<<(3:UInt64)>>>(32:UInt64))) (lo<<<(3:UInt64)&&&(4294967295:UInt64)))),yI (avw_mul (kr (hi<<<(3:UInt64)|||lo>>>(61:UInt64)) (lo<<<(3:UInt64)>>>(32:UInt64))) 4294967296),yI (avw_add (kr (hi<<<(3:UInt64)|||lo>>>(61:UInt64)) (lo<<<(3:UInt64)>>>(32:UInt64))*4294967296) (lo<<<(3:UInt64)&&&(4294967295:UInt64))),yI (avw_mul (kq (kr (hi<<<(3:UInt64)|||lo>>>(61:UInt64)) (lo<<<(3:UInt64)>>>(32:UInt64))) (lo<<<(3:UInt64)&&&(4294967295:UInt64))) 18446744073709551608),yI (avw_sub (kr (hi<<<(3:UInt64)|||lo>>>(61:UInt64)) (lo<<<(3:UInt64)>>>(32:UInt64))*4294967296+(lo<<<(3:UInt64)&&&(4294967295:UInt64))) (kq (kr (hi<<<(3:UInt64)|||lo>>>(61:UInt64)) (lo<<<(3:UInt64)>>>(32:UInt64))) (lo<<<(3:UInt64)&&&(4294967295:UInt64))*18446744073709551608)),yI (avw_shr (kr (hi<<<(3:UInt64)|||lo>>>(61:UInt64)) (lo<<<(3:UInt64)>>>(32:UInt64))*4294967296+(lo<<<(3:UInt64)&&&(4294967295:UInt64))-kq (kr (hi<<<(3:UInt64)|||lo>>>(61:UInt64)) (lo<<<(3:UInt64)>>>(32:UInt64))) (lo<<<(3:UInt64)&&&(4294967295:UInt64))*18446744073709551608) ((3:Int)) (by omega) (by omega)),yB ((0:Int)≤wv 3) (by decide)] ?_
 refine zR ?_
 refine zV [yR (Value.int .u64 (wv (kq (hi<<<(3:UInt64)|||lo>>>(61:UInt64)) (lo<<<(3:UInt64)>>>(32:UInt64))*4294967296+kq (kr (hi<<<(3:UInt64)|||lo>>>(61:UInt64)) (lo<<<(3:UInt64)>>>(32:UInt64))) (lo<<<(3:UInt64)&&&(4294967295:UInt64))))),yK (wv ((kr (hi<<<(3:UInt64)|||lo>>>(61:UInt64)) (lo<<<(3:UInt64)>>>(32:UInt64))*4294967296+(lo<<<(3:UInt64)&&&(4294967295:UInt64))-kq (kr (hi<<<(3:UInt64)|||lo>>>(61:UInt64)) (lo<<<(3:UInt64)>>>(32:UInt64))) (lo<<<(3:UInt64)&&&(4294967295:UInt64))*18446744073709551608)>>>(3:UInt64))) (wv (UInt64.ofNat ((hi.toNat*(18446744073709551616:Nat)+lo.toNat)%(2305843009213693951:Nat)))) (by rw [em2,er])]
end Go.Proofs.YtejpabdmiagnnaaGreatDoor
