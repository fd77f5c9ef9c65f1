import Derived.Test.YtejpabdmiagnnaaGreatDoorZrSh1
import Derived.Test.YtejpabdmiagnnaaGreatDoorZrV8
import Derived.Test.YtejpabdmiagnnaaGreatDoorZrSh6
import Derived.Test.YtejpabdmiagnnaaGreatDoorZrRJ
set_option linter.all false
namespace Go.Proofs.YtejpabdmiagnnaaGreatDoor
open Go.RowKit
def xt (a:UInt8):UInt8:=if a&&&128≠0 then (a<<<1)^^^27 else a<<<1
theorem all256 (p:UInt8->Bool) (h:(List.range 256).all (fun n=>p (UInt8.ofNat n))=true) (a:UInt8):p a=true:=by
 rw [List.all_eq_true] at h
 have:=h a.toNat (List.mem_range.2 (UInt8.toNat_lt a))
 simpa using this
theorem and_xor8 (a b c:UInt8):(a^^^b)&&&c=(a&&&c)^^^(b&&&c):=by
 apply UInt8.toBitVec_inj.1;simp only [UInt8.toBitVec_and,UInt8.toBitVec_xor];ext i hi;simp;cases a.toBitVec[i]<;>cases b.toBitVec[i]<;>cases c.toBitVec[i]<;>rfl
theorem xor_shl8 (a b:UInt8):(a^^^b)<<<1=(a<<<1)^^^(b<<<1):=by
 apply UInt8.toBitVec_inj.1;simp [UInt8.toBitVec_shiftLeft,UInt8.toBitVec_xor,BitVec.shiftLeft_xor_distrib]
theorem xor_shr8 (a b:UInt8):(a^^^b)>>>1=(a>>>1)^^^(b>>>1):=by
 apply UInt8.toBitVec_inj.1;simp [UInt8.toBitVec_shiftRight,UInt8.toBitVec_xor,BitVec.ushiftRight_xor_distrib]
theorem xor4 (a b c d:UInt8):(a^^^b)^^^(c^^^d)=(a^^^c)^^^(b^^^d):=by
 rw [UInt8.xor_assoc,UInt8.xor_assoc,←UInt8.xor_assoc b,UInt8.xor_comm b c,UInt8.xor_assoc c]
theorem hi_cases (a:UInt8):a&&&128=0∨a&&&128=128:=by
 have:=all256 (fun a=>decide (a&&&128=0∨a&&&128=128)) (by decide +kernel) a
 exact of_decide_eq_true this
theorem lo_cases (a:UInt8):a&&&1=0∨a&&&1=1:=by
 have:=all256 (fun a=>decide (a&&&1=0∨a&&&1=1)) (by decide +kernel) a
 exact of_decide_eq_true this
theorem xt_add (a b:UInt8):xt (a^^^b)=xt a^^^xt b:=by
 unfold xt
 rw [and_xor8,xor_shl8]
 rcases hi_cases a with h|h<;>rcases hi_cases b with k|k<;>rw [h,k]<;>simp [UInt8.xor_assoc]
 ·rw [UInt8.xor_comm 27]
 ·rw [←UInt8.xor_assoc 27,UInt8.xor_comm 27,UInt8.xor_assoc];simp
theorem msteps_a (a b p:UInt8) (k:Nat):(msteps ⟨a,b,p⟩ (k+1)).a=xt (msteps ⟨a,b,p⟩ k).a:=rfl
theorem msteps_addA (a c b p q:UInt8):∀k,msteps ⟨a^^^c,b,p^^^q⟩ k=⟨(msteps ⟨a,b,p⟩ k).a^^^(msteps ⟨c,b,q⟩ k).a,(msteps ⟨a,b,p⟩ k).b,(msteps ⟨a,b,p⟩ k).p^^^(msteps ⟨c,b,q⟩ k).p⟩∧(msteps ⟨c,b,q⟩ k).b=(msteps ⟨a,b,p⟩ k).b
 | 0=>⟨rfl,rfl⟩
 | k+1=>by
  obtain ⟨h,hb⟩:=msteps_addA a c b p q k
  refine ⟨?_,?_⟩
  ·rw [msteps,h]
   simp only [msteps,mstep,hb]
   have:=xt_add (msteps ⟨a,b,p⟩ k).a (msteps ⟨c,b,q⟩ k).a
   unfold xt at this
   rw [this]
   congr 1
   split
   ·exact xor4 _ _ _ _
   ·rfl
  ·simp only [msteps,mstep,hb]
theorem msteps_addB (a b c p q:UInt8):∀k,msteps ⟨a,b^^^c,p^^^q⟩ k=⟨(msteps ⟨a,b,p⟩ k).a,(msteps ⟨a,b,p⟩ k).b^^^(msteps ⟨a,c,q⟩ k).b,(msteps ⟨a,b,p⟩ k).p^^^(msteps ⟨a,c,q⟩ k).p⟩∧(msteps ⟨a,c,q⟩ k).a=(msteps ⟨a,b,p⟩ k).a
 | 0=>⟨rfl,rfl⟩
 | k+1=>by
  obtain ⟨h,hb⟩:=msteps_addB a b c p q k
  refine ⟨?_,?_⟩
  ·rw [msteps,h]
   simp only [msteps,mstep,hb,xor_shr8,and_xor8]
   congr 1
   rcases lo_cases (msteps ⟨a,b,p⟩ k).b with h1|h1<;>rcases lo_cases (msteps ⟨a,c,q⟩ k).b with h2|h2<;>rw [h1,h2]<;>simp [UInt8.xor_assoc]
   ·rw [UInt8.xor_comm (msteps ⟨a,c,q⟩ k).p]
   ·rw [←UInt8.xor_assoc (msteps ⟨a,b,p⟩ k).a,UInt8.xor_comm (msteps ⟨a,b,p⟩ k).a (msteps ⟨a,c,q⟩ k).p,UInt8.xor_assoc,UInt8.xor_self,UInt8.xor_zero]
  ·simp only [msteps,mstep,hb]
theorem gmul_addL (a c b:UInt8):gmul (a^^^c) b=gmul a b^^^gmul c b:=by
 have:=(msteps_addA a c b 0 0 8).1
 rw [UInt8.xor_self] at this
 unfold gmul;rw [this]
theorem gmul_addR (a b c:UInt8):gmul a (b^^^c)=gmul a b^^^gmul a c:=by
 have:=(msteps_addB a b c 0 0 8).1
 rw [UInt8.xor_self] at this
 unfold gmul;rw [this]
theorem add_ext {f g:UInt8->UInt8} (hf:∀a b,f (a^^^b)=f a^^^f b) (hg:∀a b,g (a^^^b)=g a^^^g b) (h:∀i,i<8->f (UInt8.ofNat (2^i))=g (UInt8.ofNat (2^i))) (a:UInt8):f a=g a:=by
 have f0:f 0=0:=by have:=hf 0 0;rwa [UInt8.xor_self,UInt8.xor_self] at this
 have g0:g 0=0:=by have:=hg 0 0;rwa [UInt8.xor_self,UInt8.xor_self] at this
 have e:a=(((((((a&&&1)^^^(a&&&2))^^^(a&&&4))^^^(a&&&8))^^^(a&&&16))^^^(a&&&32))^^^(a&&&64))^^^(a&&&128):=by
  have:=all256 (fun a=>decide (a=(((((((a&&&1)^^^(a&&&2))^^^(a&&&4))^^^(a&&&8))^^^(a&&&16))^^^(a&&&32))^^^(a&&&64))^^^(a&&&128))) (by decide +kernel) a
  exact of_decide_eq_true this
 have one:∀i,i<8->a&&&UInt8.ofNat (2^i)=0∨a&&&UInt8.ofNat (2^i)=UInt8.ofNat (2^i):=by
  intro i hi
  have:=all256 (fun a=>decide (∀i,i<8->a&&&UInt8.ofNat (2^i)=0∨a&&&UInt8.ofNat (2^i)=UInt8.ofNat (2^i))) (by decide +kernel) a
  exact of_decide_eq_true this i hi
 have s:∀i,i<8->f (a&&&UInt8.ofNat (2^i))=g (a&&&UInt8.ofNat (2^i)):=by
  intro i hi
  rcases one i hi with h1|h1<;>rw [h1]
  ·rw [f0,g0]
  ·exact h i hi
 rw [e]
 simp only [hf,hg]
 rw [show f (a&&&1)=g (a&&&1) from s 0 (by omega),show f (a&&&2)=g (a&&&2) from s 1 (by omega),show f (a&&&4)=g (a&&&4) from s 2 (by omega),show f (a&&&8)=g (a&&&8) from s 3 (by omega),show f (a&&&16)=g (a&&&16) from s 4 (by omega),show f (a&&&32)=g (a&&&32) from s 5 (by omega),show f (a&&&64)=g (a&&&64) from s 6 (by omega),show f (a&&&128)=g (a&&&128) from s 7 (by omega)]
theorem gmul_comm (a b:UInt8):gmul a b=gmul b a:=by
 refine add_ext (f:=fun a=>gmul a b) (g:=fun a=>gmul b a) (fun x y=>gmul_addL x y b) (fun x y=>gmul_addR b x y) (fun i hi=>?_) a
 refine add_ext (f:=fun b=>gmul (UInt8.ofNat (2^i)) b) (g:=fun b=>gmul b (UInt8.ofNat (2^i))) (fun x y=>gmul_addR _ x y) (fun x y=>gmul_addL x y _) (fun j hj=>?_) b
 have:∀i,i<8-> ∀j,j<8->gmul (UInt8.ofNat (2^i)) (UInt8.ofNat (2^j))=gmul (UInt8.ofNat (2^j)) (UInt8.ofNat (2^i)):=by decide +kernel
 exact this i hi j hj
theorem gmul_assoc (a b c:UInt8):gmul (gmul a b) c=gmul a (gmul b c):=by
 refine add_ext (f:=fun a=>gmul (gmul a b) c) (g:=fun a=>gmul a (gmul b c)) (fun x y=>by simp only [gmul_addL]) (fun x y=>by simp only [gmul_addL]) (fun i hi=>?_) a
 refine add_ext (f:=fun b=>gmul (gmul (UInt8.ofNat (2^i)) b) c) (g:=fun b=>gmul (UInt8.ofNat (2^i)) (gmul b c)) (fun x y=>by simp only [gmul_addL,gmul_addR]) (fun x y=>by simp only [gmul_addL,gmul_addR]) (fun j hj=>?_) b
 refine add_ext (f:=fun c=>gmul (gmul (UInt8.ofNat (2^i)) (UInt8.ofNat (2^j))) c) (g:=fun c=>gmul (UInt8.ofNat (2^i)) (gmul (UInt8.ofNat (2^j)) c)) (fun x y=>by simp only [gmul_addR]) (fun x y=>by simp only [gmul_addR]) (fun k hk=>?_) c
 have:∀i,i<8-> ∀j,j<8-> ∀k,k<8->gmul (gmul (UInt8.ofNat (2^i)) (UInt8.ofNat (2^j))) (UInt8.ofNat (2^k))=gmul (UInt8.ofNat (2^i)) (gmul (UInt8.ofNat (2^j)) (UInt8.ofNat (2^k))):=by decide +kernel
 exact this i hi j hj k hk
theorem gmul_one (a:UInt8):gmul a 1=a:=of_decide_eq_true (all256 (fun a=>decide (gmul a 1=a)) (by decide +kernel) a)
theorem one_gmul (a:UInt8):gmul 1 a=a:=by rw [gmul_comm,gmul_one]
theorem gmul_zero (a:UInt8):gmul a 0=0:=by have:=gmul_addR a 0 0;rwa [UInt8.xor_self,UInt8.xor_self] at this
theorem zero_gmul (a:UInt8):gmul 0 a=0:=by rw [gmul_comm,gmul_zero]
theorem gmul_ginv {a:UInt8} (h:a≠0):gmul a (ginv a)=1:=by
 have:=of_decide_eq_true (all256 (fun a=>decide (a=0∨gmul a (ginv a)=1)) (by decide +kernel) a)
 exact this.resolve_left h
theorem rsteps_eq (a b:UInt8):∀k,k≤8->(rsteps a b k).x=(msteps ⟨a,b,0⟩ k).a.toUInt64∧(rsteps a b k).p=(msteps ⟨a,b,0⟩ k).p∧(k<8->(msteps ⟨a,b,0⟩ k).b=b>>>UInt8.ofNat k)
 | 0,_=>⟨rfl,rfl,fun _=>by simp [msteps]⟩
 | k+1,hk=>by
  obtain ⟨h1,h2,h3⟩:=rsteps_eq a b k (by omega)
  have h3:=h3 (by omega)
  refine ⟨?_,?_,fun h8=>?_⟩
  ·rw [rsteps,rstep,h1,msteps_a]
   have:=all256 (fun a=>decide ((if (a.toUInt64<<<1)&&&256≠0 then (a.toUInt64<<<1)^^^283 else a.toUInt64<<<1)=(xt a).toUInt64)) (by decide +kernel) (msteps ⟨a,b,0⟩ k).a
   exact of_decide_eq_true this
  ·rw [rsteps,rstep,h1,h2,msteps,mstep,←h3]
   have e:(msteps ⟨a,b,0⟩ k).a.toUInt64.toUInt8=(msteps ⟨a,b,0⟩ k).a:=by simp
   rw [e]
   rcases lo_cases (msteps ⟨a,b,0⟩ k).b with h|h<;>rw [h]<;>rfl
  ·rw [msteps,mstep]
   show (msteps ⟨a,b,0⟩ k).b>>>1=_
   rw [h3]
   have:=all256 (fun b=>(List.range 7).all fun k=>(b>>>UInt8.ofNat k)>>>1 == b>>>UInt8.ofNat (k+1)) (by decide +kernel) b
   rw [List.all_eq_true] at this
   simpa using this k (List.mem_range.2 (by omega))
theorem rgmul_eq (a b:UInt8):rgmul a b=gmul a b:=(rsteps_eq a b 8 (Nat.le_refl _)).2.1
theorem gpow_add (a:UInt8) (m:Nat):∀n,gpow a (m+n)=gmul (gpow a m) (gpow a n)
 | 0=>by rw [Nat.add_zero];simp only [gpow];rw [gmul_one]
 | n+1=>by rw [←Nat.add_assoc];simp only [gpow,rgmul_eq];rw [gpow_add a m n,gmul_assoc]
theorem isteps_eq (a:UInt8):∀k,isteps a k=(gpow a (2^k),gpow a (2^(k+1)-2))
 | 0=>by simp only [isteps,gpow,rgmul_eq,one_gmul,Nat.pow_zero];rfl
 | k+1=>by
  have hp:2≤2^(k+1):=by have:=Nat.one_le_two_pow (n:=k);rw [Nat.pow_succ];omega
  have e:gmul (gpow a (2^k)) (gpow a (2^k))=gpow a (2^(k+1)):=by
   rw [←gpow_add];congr 1;rw [Nat.pow_succ];omega
  simp only [isteps,isteps_eq a k,e]
  rw [←gpow_add,show 2^(k+1)-2+2^(k+1)=2^(k+1+1)-2 by rw [Nat.pow_succ 2 (k+1)];omega]
theorem ginv_eq (a:UInt8):ginv a=gpow a 254:=by rw [ginv,isteps_eq]
end Go.Proofs.YtejpabdmiagnnaaGreatDoor
namespace Go.Proofs.YtejpabdmiagnnaaGreatDoor
open Go.RowKit
set_option maxRecDepth 100000
set_option maxHeartbeats 4000000
set_option linter.unusedVariables false
def dupB (l:List Sh) (v:Int):Nat->Bool
 | 0=>false
 | k+1=>dupB l v k || decide ((l.getD k default).1=v)
def svE (l:List Sh) (i:Nat):Int:=if (l.getD i default).1<1∨255<(l.getD i default).1 then 9 else if dupB l (l.getD i default).1 i=true then 10 else if (l.getD i default).2.length≠(l.getD 0 default).2.length then 4 else if 64<(l.getD i default).2.length then 8 else 0
theorem dupB_up {l:List Sh} {v:Int}:∀ {k n:Nat},k<n->(l.getD k default).1=v->dupB l v n=true
 | k,0,h,_=>by omega
 | k,n+1,h,e=>by
  rw [dupB]
  by_cases hk:k=n
  ·subst hk;rw [decide_eq_true e,Bool.or_true]
  ·rw [dupB_up (show k<n by omega) e,Bool.true_or]
theorem refshare_ret (l:List Sh) (i:Nat) (hi:i<l.length):Ret Tryz.prog 173 [.sl 2 (encA shareC l),ai i] (ai (svE l i)):=by
 refine Ret.len 0 rfl fun hlen=>?_
 rw [encA_len (e:=2) (fun _=>rfl)] at hlen
 by_cases hr:(l.getD i default).1<1
 ·have e:svE l i=9:=by rw [svE,if_pos (.inl hr)]
  refine zO Tryz.func173 55 ?_
  refine zQ 1 [{}] [] ?_
  refine zS ?_
  refine zP 1 [yH [(2,{k:=i}),(4,yV (ai ((l.getD i default).fst)))]] [.keep [19,4,0,1] []] [yR (↑i:Int),yB (i*(2:Nat)<(encA shareC l).length) (by simp only [encA_len (f:=shareC) (e:=2) (fun _=>rfl)];omega),yB ((encA shareC l)[i*(2:Nat)]?=some (ai ((l.getD i default).fst))) (encA_at (f:=shareC) (e:=2) (k:=i) (j:=0) (fun _=>rfl) (by omega) rfl),yT ((l.getD i default).fst<1),yT ((l.getD i default).fst<1),yT ((l.getD i default).fst<1),yT ((l.getD i default).fst<1),yT ((l.getD i default).fst<1),yT ((l.getD i default).fst<1),yT ((l.getD i default).fst<1)] ?_
  refine zT 19 ?_
  refine zQ 1 [{}] [] ?_
  refine zR ?_
  refine then_r ?_
  refine zV [yJ 9 (svE l i) (by rw [e])]
 by_cases hr2:255<(l.getD i default).1
 ·have e:svE l i=9:=by rw [svE,if_pos (.inr hr2)]
  refine zO Tryz.func173 55 ?_
  refine zQ 1 [{}] [] ?_
  refine zS ?_
  refine zP 1 [yH [(2,{k:=i}),(4,yV (ai ((l.getD i default).fst))),(7,{g:=false}),(8,{g:=false}),(9,{k:=i,g:=false}),(10,{g:=false}),(11,{av:=some (ai ((l.getD i default).fst)),g:=false}),(12,{g:=false}),(13,{b:=false})]] [.keep [19,4,0,1] []] [yR (↑i:Int),yB (i*(2:Nat)<(encA shareC l).length) (by simp only [encA_len (f:=shareC) (e:=2) (fun _=>rfl)];omega),yB ((encA shareC l)[i*(2:Nat)]?=some (ai ((l.getD i default).fst))) (encA_at (f:=shareC) (e:=2) (k:=i) (j:=0) (fun _=>rfl) (by omega) rfl),yF ((l.getD i default).fst<1),yF ((l.getD i default).fst<1),yF ((l.getD i default).fst<1),yR (↑i:Int),yB (i*(2:Nat)<(encA shareC l).length) (by simp only [encA_len (f:=shareC) (e:=2) (fun _=>rfl)];omega),yF ((l.getD i default).fst<1),yF ((l.getD i default).fst<1),yB ((encA shareC l)[i*(2:Nat)]?=some (ai ((l.getD i default).fst))) (encA_at (f:=shareC) (e:=2) (k:=i) (j:=0) (fun _=>rfl) (by omega) rfl),yF ((l.getD i default).fst<1),yF ((l.getD i default).fst<1)] ?_
  refine zTd 19 ((l.getD i default).fst>255) ?_
  refine zQ 1 [{}] [] ?_
  refine zR ?_
  refine then_r ?_
  refine zV [yJ 9 (svE l i) (by rw [e])]
 have e0:svE l i=if dupB l (l.getD i default).1 i=true then 10 else if (l.getD i default).2.length≠(l.getD 0 default).2.length then 4 else if 64<(l.getD i default).2.length then 8 else 0:=by rw [svE,if_neg (by omega)]
 refine zO Tryz.func173 55 ?_
 refine zQ 1 [{}] [] ?_
 refine zS ?_
 refine zP 1 [yH [(2,{k:=i}),(4,yV (ai ((l.getD i default).fst))),(7,{g:=false}),(8,{g:=false}),(9,{k:=i,g:=false}),(10,{g:=false}),(11,{av:=some (ai ((l.getD i default).fst)),g:=false}),(12,{g:=false}),(13,{b:=false})]] [.keep [19,4,0,1] []] [yR (↑i:Int),yB (i*(2:Nat)<(encA shareC l).length) (by simp only [encA_len (f:=shareC) (e:=2) (fun _=>rfl)];omega),yB ((encA shareC l)[i*(2:Nat)]?=some (ai ((l.getD i default).fst))) (encA_at (f:=shareC) (e:=2) (k:=i) (j:=0) (fun _=>rfl) (by omega) rfl),yF ((l.getD i default).fst<1),yF ((l.getD i default).fst<1),yF ((l.getD i default).fst<1),yR (↑i:Int),yB (i*(2:Nat)<(encA shareC l).length) (by simp only [encA_len (f:=shareC) (e:=2) (fun _=>rfl)];omega),yF ((l.getD i default).fst<1),yF ((l.getD i default).fst<1),yB ((encA shareC l)[i*(2:Nat)]?=some (ai ((l.getD i default).fst))) (encA_at (f:=shareC) (e:=2) (k:=i) (j:=0) (fun _=>rfl) (by omega) rfl),yF ((l.getD i default).fst<1),yF ((l.getD i default).fst<1)] ?_
 refine zFd 19 ((l.getD i default).fst>255) ?_
 refine zK ?_
 refine then_n ?_
 refine zS ?_
 refine zQ 1 [{}] [] ?_
 refine zB 0 ?_
 refine zL (fun (k:Nat)=>(⟨[(19,ao (decide ((l.getD i default).fst>255))),(0,AV.sl 2 (encA shareC l)),(1,ai (↑i:Int)),(5,ai k)],[]⟩:AS)) (fun k=>(k≤i∧dupB l (l.getD i default).1 k=false)) (fun k=>(i-k)) (0) ?_ (zW [.keep [19,0,1,5] []]) ?_
 ·exact ⟨by omega,rfl⟩
 rintro k ⟨hk,hd⟩
 refine zS ?_
 refine zP 1 [{}] [.keep [22,19,0,1,5] []] [] ?_
 refine zD 22 ((↑k:Int)<(↑i:Int)) (fun h1=>?_) (fun h1=>?_)
 ·have hk2:k<i:=by omega
  by_cases h2:(l.getD k default).1=(l.getD i default).1
  ·have e:svE l i=10:=by rw [e0,if_pos (dupB_up hk2 h2)]
   refine zK ?_
   refine then_n ?_
   refine zS ?_
   refine zB 1 ?_
   refine zP 1 [{hs:=[(2,{k:=k}),(4,yV (ai ((l.getD k default).fst))),(7,{k:=i}),(9,yV (ai ((l.getD i default).fst)))],T:=10}] [.keep [35,22,19,0,1,5] []] [yR (↑k:Int),yB (k*(2:Nat)<(encA shareC l).length) (by simp only [encA_len (f:=shareC) (e:=2) (fun _=>rfl)];omega),yB ((encA shareC l)[k*(2:Nat)]?=some (ai ((l.getD k default).fst))) (encA_at (f:=shareC) (e:=2) (k:=k) (j:=0) (fun _=>rfl) (by omega) rfl),yR (↑i:Int),yB (i*(2:Nat)<(encA shareC l).length) (by simp only [encA_len (f:=shareC) (e:=2) (fun _=>rfl)];omega),yB ((encA shareC l)[i*(2:Nat)]?=some (ai ((l.getD i default).fst))) (encA_at (f:=shareC) (e:=2) (k:=i) (j:=0) (fun _=>rfl) (by omega) rfl)] ?_
   refine zTb 35 ((l.getD k default).fst == (l.getD i default).fst) (decide_eq_true (by omega)) ?_
   refine zQ 1 [{}] [] ?_
   refine zR ?_
   refine inb_r ?_
   refine then_r ?_
   refine round_r ?_
   refine inb_r ?_
   refine then_r ?_
   refine zV [yJ 10 (svE l i) (by rw [e])]
  ·have hn:dupB l (l.getD i default).1 (k+1)=false:=by rw [dupB,hd,decide_eq_false h2];rfl
   refine zK ?_
   refine then_n ?_
   refine zS ?_
   refine zB 1 ?_
   refine zP 1 [{hs:=[(2,{k:=k}),(4,yV (ai ((l.getD k default).fst))),(7,{k:=i}),(9,yV (ai ((l.getD i default).fst)))],T:=10}] [.keep [35,22,19,0,1,5] []] [yR (↑k:Int),yB (k*(2:Nat)<(encA shareC l).length) (by simp only [encA_len (f:=shareC) (e:=2) (fun _=>rfl)];omega),yB ((encA shareC l)[k*(2:Nat)]?=some (ai ((l.getD k default).fst))) (encA_at (f:=shareC) (e:=2) (k:=k) (j:=0) (fun _=>rfl) (by omega) rfl),yR (↑i:Int),yB (i*(2:Nat)<(encA shareC l).length) (by simp only [encA_len (f:=shareC) (e:=2) (fun _=>rfl)];omega),yB ((encA shareC l)[i*(2:Nat)]?=some (ai ((l.getD i default).fst))) (encA_at (f:=shareC) (e:=2) (k:=i) (j:=0) (fun _=>rfl) (by omega) rfl)] ?_
   refine zFb 35 ((l.getD k default).fst == (l.getD i default).fst) (decide_eq_false (by omega)) ?_
   refine zK ?_
   refine inb_n ?_
   refine then_n ?_
   refine zX (yH [(1,yV (ai ((↑k:Int)+1)))]) [yN ((↑k:Int)+1)] ?_
   refine round_n (k+1) ⟨by omega,hn⟩ (by omega) (zW [.keep [19,0,1,5] []])
 ·have ek:k=i:=by omega
  subst ek
  rw [if_neg (by rw [hd];decide)] at e0
  refine zE 0 ?_
  refine then_e ?_
  refine round_e ?_
  refine inb_e ?_
  refine then_n ?_
  refine zS ?_
  refine zP 1 [{hs:=[(2,{k:=k}),(4,yV (AV.sl 1 (bytesA (l.getD k default).snd))),(5,{k:=(l.getD k default).snd.length}),(7,{k:=0}),(9,yV (AV.sl 1 (bytesA (l.getD (0:Nat) default).snd))),(10,{k:=(l.getD (0:Nat) default).snd.length})],T:=11}] [.keep [47,22,19,0,1,5] []] [yR (↑k:Int),yB (k*(2:Nat)<(encA shareC l).length) (by simp only [encA_len (f:=shareC) (e:=2) (fun _=>rfl)];omega),yB ((encA shareC l)[k*(2:Nat)+(1:Nat)]?=some (AV.sl 1 (bytesA (l.getD k default).snd))) (encA_at (f:=shareC) (e:=2) (k:=k) (j:=1) (fun _=>rfl) (by omega) rfl),yI (bytesA_len ((l.getD k default).snd)),yR (0:Int),yB ((0:Nat)<(encA shareC l).length) (by simp only [encA_len (f:=shareC) (e:=2) (fun _=>rfl)];omega),yB ((encA shareC l)[(1:Nat)]?=some (AV.sl 1 (bytesA (l.getD (0:Nat) default).snd))) (encA_at (f:=shareC) (e:=2) (k:=0) (j:=1) (fun _=>rfl) (by omega) rfl),yI (bytesA_len ((l.getD (0:Nat) default).snd))] ?_
  refine zN 47 (↑(l.getD k default).snd.length:Int) (↑(l.getD (0:Nat) default).snd.length:Int) (fun h3=>?_) (fun h3=>?_)
  ·skip
   refine zQ 1 [{}] [] ?_
   refine zR ?_
   refine then_r ?_
   refine zV [yJ 4 (svE l k) (by rw [e0,if_pos (by omega)])]
  rw [if_neg (by omega)] at e0
  refine zK ?_
  refine then_n ?_
  refine zS ?_
  refine zP 1 [yH [(2,{k:=k}),(4,yV (AV.sl 1 (bytesA (l.getD k default).snd))),(5,{k:=(l.getD k default).snd.length})]] [.keep [54,47,22,19,0,1,5] []] [yR (↑k:Int),yB (k*(2:Nat)<(encA shareC l).length) (by simp only [encA_len (f:=shareC) (e:=2) (fun _=>rfl)];omega),yB ((encA shareC l)[k*(2:Nat)+(1:Nat)]?=some (AV.sl 1 (bytesA (l.getD k default).snd))) (encA_at (f:=shareC) (e:=2) (k:=k) (j:=1) (fun _=>rfl) (by omega) rfl),yI (bytesA_len ((l.getD k default).snd))] ?_
  refine zD 54 ((↑(l.getD k default).snd.length:Int)>64) (fun h4=>?_) (fun h4=>?_)
  ·skip
   refine zQ 1 [{}] [] ?_
   refine zR ?_
   refine then_r ?_
   refine zV [yJ 8 (svE l k) (by rw [e0,if_pos (by omega)])]
  rw [if_neg (by omega)] at e0
  refine zK ?_
  refine then_n ?_
  refine zQ 1 [{}] [] ?_
  refine zR ?_
  refine zV [yJ 0 (svE l k) (by rw [e0])]
theorem shE_zero {l:List Sh} {i:Nat} (h:svE l i=0):1≤(l.getD i default).1∧(l.getD i default).1≤255∧dupB l (l.getD i default).1 i=false∧(l.getD i default).2.length=(l.getD 0 default).2.length∧(l.getD i default).2.length≤64:=by
 unfold svE at h
 split at h
 ·cases h
 split at h
 ·cases h
 rename_i hd
 split at h
 ·cases h
 split at h
 ·cases h
 exact ⟨by omega,by omega,by simpa using hd,by omega,by omega⟩
theorem chk_run (l:List Sh):∀i,i≤l.length->(∀k,k<i->svE l k=0)-> ∃seen:List Bool,seen.length=256∧(∀v:Int,1≤v->v≤255->seen.getD v.toNat false=dupB l v i)∧chk (l.getD 0 default).2.length seen (l.drop i)=chkE l
 | 0,_,_=>⟨List.replicate 256 false,by simp,fun v h1 h2=>by
   rw [List.getD_eq_getElem?_getD,List.getElem?_replicate,if_pos (by omega)];rfl,rfl⟩
 | i+1,hi,h=>by
  obtain ⟨seen,h1,h2,h3⟩:=chk_run l i (by omega) fun k hk=>h k (by omega)
  obtain ⟨a1,a2,a3,a4,a5⟩:=shE_zero (h i (by omega))
  refine ⟨seen.set (l.getD i default).1.toNat true,by rw [List.length_set,h1],fun v v1 v2=>?_,?_⟩
  ·rw [dupB,←h2 v v1 v2]
   generalize (l.getD i default).1=X at *
   rw [List.getD_eq_getElem?_getD,List.getD_eq_getElem?_getD]
   by_cases e:X=v
   ·rw [←e,List.getElem?_set_self (by omega),decide_eq_true rfl,Bool.or_true];rfl
   ·rw [List.getElem?_set_ne (by omega),decide_eq_false e,Bool.or_false]
  ·rw [←h3,drop_getD (show i<l.length by omega),chk,if_neg (by omega),if_neg (by rw [h2 _ a1 a2,a3];decide),if_neg (by omega),if_neg (by omega)]
theorem chk_err (l:List Sh) {i:Nat} (hi:i<l.length) (h:∀k,k<i->svE l k=0) (he:svE l i≠0):chkE l=svE l i:=by
 obtain ⟨seen,h1,h2,h3⟩:=chk_run l i (by omega) h
 rw [←h3,drop_getD hi,chk]
 unfold svE at he ⊢
 by_cases c1:(l.getD i default).1<1∨255<(l.getD i default).1
 ·rw [if_pos c1,if_pos c1]
 rw [if_neg c1] at he ⊢
 rw [if_neg c1]
 rw [h2 _ (by omega) (by omega)]
 by_cases c2:dupB l (l.getD i default).1 i=true
 ·rw [if_pos c2,if_pos c2]
 rw [if_neg c2] at he ⊢
 rw [if_neg c2]
 by_cases c3:(l.getD i default).2.length≠(l.getD 0 default).2.length
 ·rw [if_pos c3,if_pos c3]
 rw [if_neg c3] at he ⊢
 rw [if_neg c3]
 by_cases c4:64<(l.getD i default).2.length
 ·rw [if_pos c4,if_pos c4]
 ·rw [if_neg c4] at he;exact absurd rfl he
theorem svchk_ok (l:List Sh) (h:∀k,k<l.length->svE l k=0):chkE l=0:=by
 obtain ⟨seen,h1,h2,h3⟩:=chk_run l l.length (Nat.le_refl _) h
 rw [←h3,List.drop_length,chk]
theorem gpow_mul (a b:UInt8):∀n,gpow (gmul a b) n=gmul (gpow a n) (gpow b n)
 | 0=>(gmul_one 1).symm
 | n+1=>by
  have h:∀(c:UInt8),gpow c (n+1)=gmul (gpow c n) (gpow c 1):=fun c=>gpow_add c n 1
  have h1:∀(c:UInt8),gpow c 1=c:=fun c=>by rw [gpow,gpow,rgmul_eq];exact one_gmul c
  rw [h,h a,h b,h1,h1,h1,gpow_mul a b n,gmul_assoc,gmul_assoc,←gmul_assoc (gpow b n),gmul_comm (gpow b n) a,gmul_assoc a]
theorem ginv_mul (a b:UInt8):ginv (gmul a b)=gmul (ginv a) (ginv b):=by rw [ginv_eq,ginv_eq,ginv_eq,gpow_mul]
def rwg (l:List Sh) (x:UInt8) (i:Nat):Nat->UInt8
 | 0=>1
 | m+1=>if m≠i then gmul (rwg l x i m) (gmul (x^^^u8 (l.getD m default).1) (ginv (u8 (l.getD i default).1^^^u8 (l.getD m default).1))) else rwg l x i m
theorem rwg_eq (l:List Sh) (x:UInt8) (i:Nat):∀m,rwg l x i m=gmul (ovr l x i m) (ginv (ovr l (u8 (l.getD i default).1) i m))
 | 0=>(by decide +kernel:(1:UInt8)=gmul 1 (ginv 1))
 | m+1=>by
  rw [rwg,ovr,ovr]
  by_cases h:m≠i
  ·rw [if_pos h,if_pos h,if_pos h,rwg_eq l x i m,ginv_mul]
   generalize ovr l x i m=a
   generalize ginv (ovr l (u8 (l.getD i default).1) i m)=b
   generalize x^^^u8 (l.getD m default).1=c
   generalize ginv (u8 (l.getD i default).1^^^u8 (l.getD m default).1)=d
   rw [gmul_assoc,gmul_assoc,←gmul_assoc b,gmul_comm b c,gmul_assoc]
  ·rw [if_neg h,if_neg h,if_neg h,rwg_eq l x i m]
theorem rwg_wgt (l:List Sh) (x:UInt8) (i:Nat):rwg l x i l.length=wgt l x i:=rwg_eq l x i l.length
theorem refmulG_ret (a b:UInt8):Ret Tryz.prog 165 [ab a,ab b] (ab (gmul a b)):=by rw [←rgmul_eq];exact refmul_ret a b
theorem refinvG_ret (a:UInt8):Ret Tryz.prog 174 [ab a] (ab (ginv a)):=by rw [ginv_eq];exact refinverse_ret a
end Go.Proofs.YtejpabdmiagnnaaGreatDoor
