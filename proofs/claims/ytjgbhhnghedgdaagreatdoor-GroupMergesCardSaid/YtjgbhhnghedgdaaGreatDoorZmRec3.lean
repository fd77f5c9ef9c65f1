import Derived.Test.YtjgbhhnghedgdaaGreatDoorZmEx3
import Derived.Test.YtjgbhhnghedgdaaGreatDoorZmRN
import Derived.StillTailTactics
import Derived.Deep.RegionWith
import Derived.Deep.DeepCutAuto
set_option linter.all false
namespace Go.Proofs.YtjgbhhnghedgdaaGreatDoor
open Go.RowKit
set_option maxRecDepth 100000
set_option maxHeartbeats 4000000
def s7 (r:List UInt8):List AV:=[.sl 1 (ag r)]
theorem wu.qf (w:World) (e:TypeId):wu (w.alloc (.cells #[] e)) w.heap.size (.slice (some ⟨w.heap.size,0,none⟩) 0 0) [] :=
 .inr ⟨w.heap.size,0,#[],e,(0,0),rfl,Nat.le_refl _,heap_alloc_new w _,by simp,by simp,rfl,rfl,by simp⟩
theorem kF {P:Program} {w:World} {t e:TypeId} (ht:P.underlying t=some (.slice e)) (A:Option Addr) (n c:Nat):(binOp .eql t (.slice A n c) (.slice none 0 0)).run P w= .ok (.bool A.isNone) w:=by
 have key:∀d,(Op.equalIn (d+1) t (.slice A n c) (.slice none 0 0)).run P w= .ok A.isNone w:=by
  intro d
  unfold Op.equalIn
  cases A<;>simp [run_underlying ht]
 show (Op.equalIn (9999+1) t (.slice A n c) (.slice none 0 0) >>= fun b=>pure (Value.bool b)).run P w=_
 rw [Sem.run_bind,key 9999]
 rfl
theorem GR (v:Value) (l:List UInt8) (w:World) (h:i4 w v (sM l)) (hl:l.length≤70368744177664) :
  Calls Tryz.prog 100 #[v] w fun e w'=>qP w e w' l:=by
 have h':=h
 obtain ⟨A,c,rfl,hc,hm,hr⟩:=h
 rcases A with _|ad
 ·have vM:l= []:=by
   rcases Nat.eq_zero_or_pos l.length with h0|h0
   ·exact List.length_eq_zero_iff.1 h0
   ·obtain ⟨ad,h,_⟩:=hr.2 (by rw [gn];exact h0)
    cases h
  subst vM
  have hq:= @kF Tryz.prog w 25 5 Tryz.underlying25 none (sM []).length c
  go_enter Tryz.func100,Tryz.ntmps100
  go_wp2
  go_ret
  exact ⟨_,rfl,.inl ⟨rfl,rfl⟩,Below.refl _ _⟩
 ·have Tq:=Lib.hid h'
  clear h' hr
  have hq:= @kF Tryz.prog w 25 5 Tryz.underlying25 (some ad) (sM l).length c
  go_enter Tryz.func100,Tryz.ntmps100
  go_wp2_with (at_builtin;refine tK _ rfl _ _ 25 rfl E8 w.heap.size _ _ rfl (wu.qf w _) _ (sM l) rfl (Tq.out.below ((Below.refl _ _).alloc (Nat.le_refl _) _)) (Fm _) (by rw [gn];simp;omega) (by simp) ?_;intro v2 w2 Ha Qd _)
  go_ret
  exact ⟨_,rfl,by simpa using Ha,((Below.refl w.heap.size w).alloc (Nat.le_refl _) _).Ep (wu.qf w _) Qd⟩
theorem GQ (l:List UInt8) (hl:l.length≤70368744177664):bC Tryz.prog 100 [.sl 1 (ag l)] (.own 1 (ag l)):=by
 refine bC.A7 fun w vs h1 hr=>?_
 obtain ⟨a,rfl⟩:=Fq h1 rfl
 exact GR a l w (wW (hr 0 a _ rfl rfl) fun _ h=>h) hl
def pT (us:List Value):List AV:=us.map AV.val
theorem lU (us:List Value):(pT us).length=us.length:=by simp [pT]
theorem HR {S:Nat->Prop} {w:World} {v:Value} {bs:List Value} (h:cB S w v (.sl 1 (pT bs))) (hS:∀b,S b->b<w.heap.size):i4 w v bs:=by
 cases h with
 | sl A n c e us row hl hn hc hm ha h =>
  have Gc:us=bs:=by
   apply List.ext_getElem?
   intro j
   cases hu:us[j]? with
   | none =>
    have:us.length≤j:=List.getElem?_eq_none_iff.1 hu
    rw [List.getElem?_eq_none (by rw [lU] at hl;omega)]
   | some u =>
    have hj:j<bs.length:=by have:=(List.getElem?_eq_some_iff.1 hu).1;rw [hl,lU] at this;exact this
    have hx:(pT bs)[j]?=some (.val bs[j]):=by simp [pT,hj]
    have:=h j u _ hu hx
    cases this
    simp [hj]
  subst Gc
  rw [lU] at hn ha
  have sV:us.length=n:=ah
  subst sV
  exact ⟨A,c,rfl,hc,hm,rfl,fun h0=>by
   obtain ⟨ad,e,hs,bw⟩:=ha h0
   exact ⟨ad,e,hS _ hs,bw⟩⟩
def Fw (w:World) (e:Ending) (w':World) (us:List Value):Prop:=∃v,e= .returned v∧wu w' w.heap.size v us∧Below w.heap.size w w'
theorem bC.KZ {P:Program} {f:FuncId} {args:List AV} {us:List Value} (h:∀(w:World) (vs:List Value),vs.length=args.length->(∀(j:Nat) v x,vs[j]?=some v->args[j]?=some x->cB (fun b=>b<w.heap.size) w v x) ->
  Calls P f vs.toArray w fun e w'=>Fw w e w' us):bC P f args (.own 1 (pT us)):=by
 intro w S vs _ hS hl hr
 refine (h w vs hl fun j v x hv hx=>(hr j v x hv hx).mono fun b hb=>⟨hS b hb,rfl⟩).mono fun e w' ⟨v,he,ho,hb⟩=>?_
 rcases ho with ⟨rfl,hn⟩|⟨g,cap,cur,te,fr,rfl,Bu,hg,Gh,tq,xi,Mn,gJ⟩
 ·subst hn
  exact ⟨_,[],he,hb,List.nodup_nil,by simp,.inl (.inl (.nil 1))⟩
 ·have dk:g<w'.heap.size:=by
   rcases Nat.lt_or_ge g w'.heap.size with h|h
   ·exact h
   ·rw [Array.getElem?_eq_none h] at hg;cases hg
  refine ⟨_,[g],he,hb,by simp,by simp [Bu,dk],.inl (.inl (.own g _ cap 1 (pT us) cur te fr hg (fun j hj=>gJ j ah) (by rw [lU,Nat.one_mul]) Gh tq ah ?_))⟩
  intro j u x hu hx
  have hj:j<us.length:=by have:=(List.getElem?_eq_some_iff.1 hx).1;rwa [lU] at this
  have Kn:x= .val us[j]:=by simp [pT,hj] at hx;exact hx.symm
  subst Kn
  have IG:us[j]?=some u:=by
   rw [←Mn,List.getElem?_take_of_lt hj];simpa using hu
  have:u=us[j]:=by simp [hj] at IG;exact IG.symm
  subst this
  exact .val _
theorem Lc:(Tryz.prog.info? 9).map (fun i=>(i.zero,i.size,i.bytes))=some (some (.string ⟨#[]⟩),1,16):=by kernel_rfl
theorem Ts:Cf Tryz.prog 26 9 (.string ⟨#[]⟩) 16:=by
 obtain ⟨i,h,h1,h2,h3⟩:=info_parts Lc
 exact ⟨Tryz.underlying26,⟨i,h,h1,h2,h3⟩,rfl,by decide⟩
set_option maxRecDepth 100000 in
theorem Cz (v:Value) (l:List Value) (w:World) (h:i4 w v l) (h1:∀u∈l,u.oneCell'=true) (hl:l.length≤1000000) :
  Calls Tryz.prog 101 #[v] w fun e w'=>Fw w e w' l:=by
 have h':=h
 obtain ⟨A,c,rfl,hc,hm,hr⟩:=h
 rcases A with _|ad
 ·have vM:l= []:=by
   rcases Nat.eq_zero_or_pos l.length with h0|h0
   ·exact List.length_eq_zero_iff.1 h0
   ·obtain ⟨ad,h,_⟩:=hr.2 h0
    cases h
  clear h' hr
  have hq:= @kF Tryz.prog w 26 9 Tryz.underlying26 none l.length c
  have HL:=Lib.hid vM
  clear vM
  go_enter Tryz.func101,Tryz.ntmps101
  go_wp2
  go_ret
  exact ⟨_,rfl,.inl ⟨rfl,HL.out⟩,Below.refl _ _⟩
 ·have Tq:=Lib.hid h'
  clear h' hr
  have hq:= @kF Tryz.prog w 26 9 Tryz.underlying26 (some ad) l.length c
  go_enter Tryz.func101,Tryz.ntmps101
  go_wp2_with (at_builtin;refine tK _ rfl _ _ 26 rfl Ts w.heap.size _ _ rfl (wu.qf w _) _ l rfl (Tq.out.below ((Below.refl _ _).alloc (Nat.le_refl _) _)) h1 (by simp;omega) (by simp) ?_;intro v2 w2 Ha Qd _)
  go_ret
  exact ⟨_,rfl,by simpa using Ha,((Below.refl w.heap.size w).alloc (Nat.le_refl _) _).Ep (wu.qf w _) Qd⟩
theorem Cy (l:List (List UInt8)) (hl:l.length≤1000000):bC Tryz.prog 101 [.sl 1 (ae (fun s=>[cQ s]) l)] (.own 1 (ae (fun s=>[cQ s]) l)):=by
 have e:ae (fun s:List UInt8=>[cQ s]) l=pT (l.map fun s=>.string ⟨s.toArray⟩):=by
  induction l with
  | nil=>rfl
  | cons x l ih=>rw [jn,ih (by simp at hl;omega)];rfl
 rw [e]
 refine bC.KZ fun w vs h1 hr=>?_
 obtain ⟨a,rfl⟩:=Fq h1 rfl
 exact Cz a _ w (HR (hr 0 a _ rfl rfl) fun _ h=>h) (by simp [Value.oneCell']) (by simpa using hl)
def xt (a:UInt8):UInt8:=if a&&&128≠0 then (a<<<1)^^^27 else a<<<1
theorem pO (p:UInt8->Bool) (h:(List.range 256).all (fun n=>p (UInt8.ofNat n))=true) (a:UInt8):p a=true:=by
 rw [List.all_eq_true] at h
 have:=h a.toNat (List.mem_range.2 (UInt8.toNat_lt a))
 simpa using this
theorem B9 (a b c:UInt8):(a^^^b)&&&c=(a&&&c)^^^(b&&&c):=by
 apply UInt8.toBitVec_inj.1;simp only [UInt8.toBitVec_and,UInt8.toBitVec_xor];ext i hi;simp;cases a.toBitVec[i]<;>cases b.toBitVec[i]<;>cases c.toBitVec[i]<;>rfl
theorem Hh (a b:UInt8):(a^^^b)<<<1=(a<<<1)^^^(b<<<1):=by
 apply UInt8.toBitVec_inj.1;simp [UInt8.toBitVec_shiftLeft,UInt8.toBitVec_xor,BitVec.shiftLeft_xor_distrib]
theorem Hg (a b:UInt8):(a^^^b)>>>1=(a>>>1)^^^(b>>>1):=by
 apply UInt8.toBitVec_inj.1;simp [UInt8.toBitVec_shiftRight,UInt8.toBitVec_xor,BitVec.ushiftRight_xor_distrib]
theorem Rx (a b c d:UInt8):(a^^^b)^^^(c^^^d)=(a^^^c)^^^(b^^^d):=by
 rw [UInt8.xor_assoc,UInt8.xor_assoc,←UInt8.xor_assoc b,UInt8.xor_comm b c,UInt8.xor_assoc c]
theorem Bt (a:UInt8):a&&&128=0∨a&&&128=128:=by
 have:=pO (fun a=>decide (a&&&128=0∨a&&&128=128)) (by decide +kernel) a
 exact of_decide_eq_true this
theorem uJ (a:UInt8):a&&&1=0∨a&&&1=1:=by
 have:=pO (fun a=>decide (a&&&1=0∨a&&&1=1)) (by decide +kernel) a
 exact of_decide_eq_true this
theorem MG (a b:UInt8):xt (a^^^b)=xt a^^^xt b:=by
 unfold xt
 rw [B9,Hh]
 rcases Bt a with h|h<;>rcases Bt b with k|k<;>rw [h,k]<;>simp [UInt8.xor_assoc]
 ·rw [UInt8.xor_comm 27]
 ·rw [←UInt8.xor_assoc 27,UInt8.xor_comm 27,UInt8.xor_assoc];simp
theorem Ic (a b p:UInt8) (k:Nat):(bS ⟨a,b,p⟩ (k+1)).a=xt (bS ⟨a,b,p⟩ k).a:=rfl
theorem sr (a c b p q:UInt8):∀k,bS ⟨a^^^c,b,p^^^q⟩ k=⟨(bS ⟨a,b,p⟩ k).a^^^(bS ⟨c,b,q⟩ k).a,(bS ⟨a,b,p⟩ k).b,(bS ⟨a,b,p⟩ k).p^^^(bS ⟨c,b,q⟩ k).p⟩∧(bS ⟨c,b,q⟩ k).b=(bS ⟨a,b,p⟩ k).b
 | 0=>⟨rfl,rfl⟩
 | k+1=>by
  obtain ⟨h,hb⟩:=sr a c b p q k
  refine ⟨?_,?_⟩
  ·rw [bS,h]
   simp only [bS,uB,hb]
   have:=MG (bS ⟨a,b,p⟩ k).a (bS ⟨c,b,q⟩ k).a
   unfold xt at this
   rw [this]
   congr 1
   split
   ·exact Rx _ _ _ _
   ·rfl
  ·simp only [bS,uB,hb]
theorem sq (a b c p q:UInt8):∀k,bS ⟨a,b^^^c,p^^^q⟩ k=⟨(bS ⟨a,b,p⟩ k).a,(bS ⟨a,b,p⟩ k).b^^^(bS ⟨a,c,q⟩ k).b,(bS ⟨a,b,p⟩ k).p^^^(bS ⟨a,c,q⟩ k).p⟩∧(bS ⟨a,c,q⟩ k).a=(bS ⟨a,b,p⟩ k).a
 | 0=>⟨rfl,rfl⟩
 | k+1=>by
  obtain ⟨h,hb⟩:=sq a b c p q k
  refine ⟨?_,?_⟩
  ·rw [bS,h]
   simp only [bS,uB,hb,Hg,B9]
   congr 1
   rcases uJ (bS ⟨a,b,p⟩ k).b with h1|h1<;>rcases uJ (bS ⟨a,c,q⟩ k).b with h2|h2<;>rw [h1,h2]<;>simp [UInt8.xor_assoc]
   ·rw [UInt8.xor_comm (bS ⟨a,c,q⟩ k).p]
   ·rw [←UInt8.xor_assoc (bS ⟨a,b,p⟩ k).a,UInt8.xor_comm (bS ⟨a,b,p⟩ k).a (bS ⟨a,c,q⟩ k).p,UInt8.xor_assoc,UInt8.xor_self,UInt8.xor_zero]
  ·simp only [bS,uB,hb]
theorem iF (a c b:UInt8):eF (a^^^c) b=eF a b^^^eF c b:=by
 have:=(sr a c b 0 0 8).1
 rw [UInt8.xor_self] at this
 unfold eF;rw [this]
theorem jj (a b c:UInt8):eF a (b^^^c)=eF a b^^^eF a c:=by
 have:=(sq a b c 0 0 8).1
 rw [UInt8.xor_self] at this
 unfold eF;rw [this]
theorem qN {f g:UInt8->UInt8} (hf:∀a b,f (a^^^b)=f a^^^f b) (hg:∀a b,g (a^^^b)=g a^^^g b) (h:∀i,i<8->f (UInt8.ofNat (2^i))=g (UInt8.ofNat (2^i))) (a:UInt8):f a=g a:=by
 have f0:f 0=0:=by have:=hf 0 0;rwa [UInt8.xor_self,UInt8.xor_self] at this
 have g0:g 0=0:=by have:=hg 0 0;rwa [UInt8.xor_self,UInt8.xor_self] at this
 have e:a=(((((((a&&&1)^^^(a&&&2))^^^(a&&&4))^^^(a&&&8))^^^(a&&&16))^^^(a&&&32))^^^(a&&&64))^^^(a&&&128):=by
  have:=pO (fun a=>decide (a=(((((((a&&&1)^^^(a&&&2))^^^(a&&&4))^^^(a&&&8))^^^(a&&&16))^^^(a&&&32))^^^(a&&&64))^^^(a&&&128))) (by decide +kernel) a
  exact of_decide_eq_true this
 have one:∀i,i<8->a&&&UInt8.ofNat (2^i)=0∨a&&&UInt8.ofNat (2^i)=UInt8.ofNat (2^i):=by
  intro i hi
  have:=pO (fun a=>decide (∀i,i<8->a&&&UInt8.ofNat (2^i)=0∨a&&&UInt8.ofNat (2^i)=UInt8.ofNat (2^i))) (by decide +kernel) a
  exact of_decide_eq_true this i hi
 have s:∀i,i<8->f (a&&&UInt8.ofNat (2^i))=g (a&&&UInt8.ofNat (2^i)):=by
  intro i hi
  rcases one i hi with h1|h1<;>rw [h1]
  ·rw [f0,g0]
  ·exact h i hi
 rw [e]
 simp only [hf,hg]
 rw [show f (a&&&1)=g (a&&&1) from s 0 ah,show f (a&&&2)=g (a&&&2) from s 1 ah,show f (a&&&4)=g (a&&&4) from s 2 ah,show f (a&&&8)=g (a&&&8) from s 3 ah,show f (a&&&16)=g (a&&&16) from s 4 ah,show f (a&&&32)=g (a&&&32) from s 5 ah,show f (a&&&64)=g (a&&&64) from s 6 ah,show f (a&&&128)=g (a&&&128) from s 7 ah]
theorem xl (a b:UInt8):eF a b=eF b a:=by
 refine qN (f:=fun a=>eF a b) (g:=fun a=>eF b a) (fun x y=>iF x y b) (fun x y=>jj b x y) (fun i hi=>?_) a
 refine qN (f:=fun b=>eF (UInt8.ofNat (2^i)) b) (g:=fun b=>eF b (UInt8.ofNat (2^i))) (fun x y=>jj _ x y) (fun x y=>iF x y _) (fun j hj=>?_) b
 have:∀i,i<8-> ∀j,j<8->eF (UInt8.ofNat (2^i)) (UInt8.ofNat (2^j))=eF (UInt8.ofNat (2^j)) (UInt8.ofNat (2^i)):=by decide +kernel
 exact this i hi j hj
theorem Di (a b c:UInt8):eF (eF a b) c=eF a (eF b c):=by
 refine qN (f:=fun a=>eF (eF a b) c) (g:=fun a=>eF a (eF b c)) (fun x y=>by simp only [iF]) (fun x y=>by simp only [iF]) (fun i hi=>?_) a
 refine qN (f:=fun b=>eF (eF (UInt8.ofNat (2^i)) b) c) (g:=fun b=>eF (UInt8.ofNat (2^i)) (eF b c)) (fun x y=>by simp only [iF,jj]) (fun x y=>by simp only [iF,jj]) (fun j hj=>?_) b
 refine qN (f:=fun c=>eF (eF (UInt8.ofNat (2^i)) (UInt8.ofNat (2^j))) c) (g:=fun c=>eF (UInt8.ofNat (2^i)) (eF (UInt8.ofNat (2^j)) c)) (fun x y=>by simp only [jj]) (fun x y=>by simp only [jj]) (fun k hk=>?_) c
 have:∀i,i<8-> ∀j,j<8-> ∀k,k<8->eF (eF (UInt8.ofNat (2^i)) (UInt8.ofNat (2^j))) (UInt8.ofNat (2^k))=eF (UInt8.ofNat (2^i)) (eF (UInt8.ofNat (2^j)) (UInt8.ofNat (2^k))):=by decide +kernel
 exact this i hi j hj k hk
theorem Jh (a:UInt8):eF a 1=a:=of_decide_eq_true (pO (fun a=>decide (eF a 1=a)) (by decide +kernel) a)
theorem H7 (a:UInt8):eF 1 a=a:=by rw [xl,Jh]
theorem Gq (a:UInt8):eF a 0=0:=by have:=jj a 0 0;rwa [UInt8.xor_self,UInt8.xor_self] at this
theorem Fz (a:UInt8):eF 0 a=0:=by rw [xl,Gq]
theorem wV (a b:UInt8):∀k,k≤8->(gA a b k).x=(bS ⟨a,b,0⟩ k).a.toUInt64∧(gA a b k).p=(bS ⟨a,b,0⟩ k).p∧(k<8->(bS ⟨a,b,0⟩ k).b=b>>>UInt8.ofNat k)
 | 0,_=>⟨rfl,rfl,fun _=>by simp [bS]⟩
 | k+1,hk=>by
  obtain ⟨h1,h2,h3⟩:=wV a b k ah
  have h3:=h3 ah
  refine ⟨?_,?_,fun h8=>?_⟩
  ·rw [gA,uc,h1,Ic]
   have:=pO (fun a=>decide ((if (a.toUInt64<<<1)&&&256≠0 then (a.toUInt64<<<1)^^^283 else a.toUInt64<<<1)=(xt a).toUInt64)) (by decide +kernel) (bS ⟨a,b,0⟩ k).a
   exact of_decide_eq_true this
  ·rw [gA,uc,h1,h2,bS,uB,←h3]
   have e:(bS ⟨a,b,0⟩ k).a.toUInt64.toUInt8=(bS ⟨a,b,0⟩ k).a:=by simp
   rw [e]
   rcases uJ (bS ⟨a,b,0⟩ k).b with h|h<;>rw [h]<;>rfl
  ·rw [bS,uB]
   show (bS ⟨a,b,0⟩ k).b>>>1=_
   rw [h3]
   have:=pO (fun b=>(List.range 7).all fun k=>(b>>>UInt8.ofNat k)>>>1 == b>>>UInt8.ofNat (k+1)) (by decide +kernel) b
   rw [List.all_eq_true] at this
   simpa using this k (List.mem_range.2 ah)
theorem AD (a b:UInt8):kI a b=eF a b:=(wV a b 8 (Nat.le_refl _)).2.1
def nq (f:Nat->UInt8):Nat->UInt8
 | 0=>0
 | n+1=>nq f n^^^f n
theorem tJ {f g:Nat->UInt8}:∀ {n:Nat},(∀i,i<n->f i=g i)->nq f n=nq g n
 | 0,_=>rfl
 | n+1,h=>by rw [nq,nq,tJ (fun i hi=>h i ah),h n ah]
theorem Ab (f:Nat->UInt8) (x:UInt8):∀n,eF (nq f n) x=nq (fun i=>eF (f i) x) n
 | 0=>Fz x
 | n+1=>by rw [nq,iF,Ab f x n];rfl
theorem tI (f:Nat->UInt8):∀n,nq f (n+1)=f 0^^^nq (fun i=>f (i+1)) n
 | 0=>by simp [nq]
 | n+1=>by rw [nq,tI f n,nq,UInt8.xor_assoc]
theorem rH (x:UInt8) (k:Nat):yU x (k+1)=eF (yU x k) x:=by rw [yU,AD]
theorem II (aV:List UInt8) (L j:Nat) (x:UInt8) (need:Nat):∀m,m≤need-1->dC aV L j x need m=nq (fun t=>eF (aV.getD ((need-1-m+t)*L+j) 0) (yU x (t+1))) m
 | 0,_=>rfl
 | m+1,h=>by
  rw [dC,II aV L j x need m ah,iF,Ab,tI,UInt8.xor_comm]
  congr 1
  ·rw [Nat.add_zero,rH,yU,H7,show need-1-m-1=need-1-(m+1) by omega]
  ·refine tJ fun i hi=>?_
   rw [Di,←rH,show need-1-m+i=need-1-(m+1)+(i+1) by omega]
theorem H2 (aV:List UInt8) (L j:Nat) (x c:UInt8):∀d,uq aV L j x c d=(c^^^nq (fun t=>eF (aV.getD (t*L+j) 0) (yU x (t+1))) d,yU x d)
 | 0=>by simp [uq,nq,yU]
 | d+1=>by rw [uq,H2 aV L j x c d,nq];simp only [AD,rH,UInt8.xor_assoc]
theorem CD (s r:List UInt8) (need:Nat) (x:UInt8) (j:Nat):gG s r need x j=Cu s r need x j:=by
 rw [gG,Cu,H2,II _ _ _ _ _ _ (Nat.le_refl _),UInt8.xor_comm]
 simp only [Nat.sub_self,Nat.zero_add]
theorem CB (s r:List UInt8) (need n:Int):fU s r need n=iM s r need n:=by
 unfold fU iM jw HB Ez xJ
 split
 ·refine List.map_congr_left fun i _=>?_
  congr 1
  exact List.map_congr_left fun j _=>CD ..
 ·rfl
theorem xU (ar aV:List UInt8) (need n:Int):bC Tryz.prog 119 [.sl 1 (ag ar),.sl 1 (ag aV),ai need,ai n] (.bk [.own 2 (ae dS (fU ar aV need n)),ai (dr ar aV need n)]):=by
 refine zO Tryz.func119 91 ?_
 by_cases hl:64<ar.length
 ·have e1:dr ar aV need n=8:=by simp [dr,hl]
  refine zq<|zS<|zB 0<|zP 1 [yH [(1,{k:=ar.length})]] [.aa [17,9,8,0,1,2,3] []] [yI (aD ar)]<|gN 17 ((↑ar.length:Int)>64)<|zq<|zR<|bc<|aN (zV [yB (ae dS (fU ar aV need n)= []) (by rw [fU,e1];rfl),yJ 8 (dr ar aV need n) (by rw [e1])])
 by_cases h1:need<1
 ·have e1:dr ar aV need n=9:=by simp [dr,hl,h1]
  refine zq<|zS<|zB 0<|zP 1 [yH [(1,{k:=ar.length})]] [.aa [17,9,8,0,1,2,3] []] [yI (aD ar)]<|dq 17 ((↑ar.length:Int)>64)<|zP 1 [{}] [.aa [21,17,9,8,0,1,2,3] []] (yM 4 (yT (need<1))++yM 3 (yR true))<|zT 21<|zq<|zR<|bc<|aN (zV [yB (ae dS (fU ar aV need n)= []) (by rw [fU,e1];rfl),yJ 9 (dr ar aV need n) (by rw [e1])])
 by_cases h2:n<need
 ·have e1:dr ar aV need n=9:=by simp [dr,hl,h2]
  refine zq<|zS<|zB 0<|zP 1 [yH [(1,{k:=ar.length})]] [.aa [17,9,8,0,1,2,3] []] [yI (aD ar)]<|dq 17 ((↑ar.length:Int)>64)<|zP 1 [yH ([(6,{b:=false})]++yg [3,4,5])] [.aa [21,17,9,8,0,1,2,3] []] (yM 4 (yF (need<1))++yM 3 (yT (n<need)))<|zT 21<|zq<|zR<|bc<|aN (zV [yB (ae dS (fU ar aV need n)= []) (by rw [fU,e1];rfl),yJ 9 (dr ar aV need n) (by rw [e1])])
 by_cases h3:255<n
 ·have e1:dr ar aV need n=9:=by simp [dr,hl,h3]
  refine zq<|zS<|zB 0<|zP 1 [yH [(1,{k:=ar.length})]] [.aa [17,9,8,0,1,2,3] []] [yI (aD ar)]<|dq 17 ((↑ar.length:Int)>64)<|zP 1 [yH ([(6,{b:=false}),(10,{b:=false})]++yg [3,4,5,8,9])] [.aa [21,17,9,8,0,1,2,3] []] (yM 4 (yF (need<1))++yM 3 (yF (n<need)))<|gN 21 (n>255)<|zq<|zR<|bc<|aN (zV [yB (ae dS (fU ar aV need n)= []) (by rw [fU,e1];rfl),yJ 9 (dr ar aV need n) (by rw [e1])])
 obtain ⟨N,rfl⟩:=Int.eq_ofNat_of_zero_le (by omega:0≤need)
 obtain ⟨M,rfl⟩:=Int.eq_ofNat_of_zero_le (by omega:0≤n)
 have hp:((N:Int)-1)*ar.length≤254*64:=Int.mul_le_mul ah ah ah ah
 have Wx:0≤((N:Int)-1)*ar.length:=Int.mul_nonneg ah ah
 by_cases h4:(aV.length:Int)<((N:Int)-1)*ar.length
 ·have e1:dr ar aV N M=1:=by simp [dr,hl,h1,h2,h3,h4]
  refine zq<|zS<|zB 0<|zP 1 [yH [(1,{k:=ar.length})]] [.aa [17,9,8,0,1,2,3] []] [yI (aD ar)]<|dq 17 ((↑ar.length:Int)>64)<|zP 1 [yH ([(6,{b:=false}),(10,{b:=false})]++yg [3,4,5,8,9])] [.aa [21,17,9,8,0,1,2,3] []] (yM 4 (yF ((↑N:Int)<1))++yM 3 (yF ((↑M:Int)<(↑N:Int))))<|dq 21 ((↑M:Int)>255)<|zP 1 [yH [(1,{k:=aV.length}),(3,yV (ai ((↑N:Int)-1))),(5,{k:=ar.length}),(6,yV (ai (((↑N:Int)-1)*(↑ar.length:Int))))]] [.aa [33,21,17,9,8,0,1,2,3] []] [yI (aD aV),yN ((↑N:Int)-1),yI (aD ar),yN (((↑N:Int)-1)*(↑ar.length:Int))]<|gN 33 ((↑aV.length:Int)<((↑N:Int)-1)*(↑ar.length:Int))<|zq<|zR<|bc<|aN (zV [yB (ae dS (fU ar aV (↑N:Int) (↑M:Int))= []) (by rw [fU,e1];rfl),yJ 1 (dr ar aV (↑N:Int) (↑M:Int)) (by rw [e1])])
 have e0:dr ar aV N M=0:=by simp [dr,hl,h1,h2,h3,h4]
 refine zq<|zS<|zB 0<|zP 1 [yH [(1,{k:=ar.length})]] [.aa [17,9,8,0,1,2,3] []] [yI (aD ar)]<|dq 17 ((↑ar.length:Int)>64)<|zP 1 [yH ([(6,{b:=false}),(10,{b:=false})]++yg [3,4,5,8,9])] [.aa [21,17,9,8,0,1,2,3] []] (yM 4 (yF ((↑N:Int)<1))++yM 3 (yF ((↑M:Int)<(↑N:Int))))<|dq 21 ((↑M:Int)>255)<|zP 1 [yH [(1,{k:=aV.length}),(3,yV (ai ((↑N:Int)-1))),(5,{k:=ar.length}),(6,yV (ai (((↑N:Int)-1)*(↑ar.length:Int))))]] [.aa [33,21,17,9,8,0,1,2,3] []] [yI (aD aV),yN ((↑N:Int)-1),yI (aD ar),yN (((↑N:Int)-1)*(↑ar.length:Int))]<|dq 33 ((↑aV.length:Int)<((↑N:Int)-1)*(↑ar.length:Int))<|zK<|aM<|ak<|zq<|zS<|zq<|zB 1 (zL (fun (i:Nat)=>(⟨[(0,AV.sl 1 (ag ar)),(1,AV.sl 1 (ag aV)),(2,ai ↑N),(3,ai ↑M),(10,AV.ref 89),(11,ai ((i:Int)+1))],[(89,⟨2,true,false,ae dS ((List.range i).map (jw ar aV N))⟩)]⟩:AS)) (fun i=>(i≤M)) (fun i=>(M-i)) (0) ?_ (zW [.nil 10 89 2,.aa [0,1,2,3,10,11] [89]]) ?_)
 ·omega
 intro i hi
 refine zS<|zP 1 [{}] [.aa [44,0,1,2,3,10,11] [89]] [] (zD 44 ((↑i:Int)+1≤(↑M:Int)) (fun hc=>?_) (fun hc=>?_))
 ·skip
  refine aW<|zS<|zB 2<|zq<|zS<|zq<|zB 3 (zL (fun (j:Nat)=>(⟨[(0,AV.sl 1 (ag ar)),(1,AV.sl 1 (ag aV)),(2,ai ↑N),(3,ai ↑M),(10,AV.ref 89),(11,ai ((↑i:Int)+1)),(12,AV.ref 83),(13,ai j)],[(89,⟨2,true,false,ae dS (List.map (jw ar aV N) (List.range i))⟩),(83,⟨1,true,false,ag ((List.range j).map (gG ar aV N (u8 (i+1))))⟩)]⟩:AS)) (fun j=>(j≤ar.length)) (fun j=>(ar.length-j)) (0) ?_ (zW [.nil 12 83 1,.aa [0,1,2,3,10,11,12,13] [89,83]]) ?_)
  ·omega
  intro j hj
  refine zS<|zP 1 [yH [(2,{k:=ar.length})]] [.aa [50,0,1,2,3,10,11,12,13] [89,83]] [yI (aD ar)] (zD 50 ((↑j:Int)<(↑ar.length:Int)) (fun h5=>?_) (fun h5=>?_))
  ·skip
   refine aW<|zS<|zB 4<|zP 1 [yH [(2,{k:=j}),(3,yV (ab (ar.getD j 0)))]] [.aa [15,14,50,0,1,2,3,10,11,12,13] [89,83]] [yR (↑j:Int),yB (j<(ag ar).length) (by simp only [aD];omega),yB ((ag ar)[j]?=some (ab (ar.getD j 0))) (oB ah)]<|zS<|zq<|zB 5 (zL (fun (d:Nat)=>(⟨[(0,AV.sl 1 (ag ar)),(1,AV.sl 1 (ag aV)),(2,ai ↑N),(3,ai ↑M),(10,AV.ref 89),(11,ai ((↑i:Int)+1)),(12,AV.ref 83),(13,ai ↑j),(14,ab (uq aV ar.length j (u8 (i+1)) (ar.getD j 0) d).1),(15,ab (uq aV ar.length j (u8 (i+1)) (ar.getD j 0) d).2),(16,ai ((d:Int)+1))],[(89,⟨2,true,false,ae dS (List.map (jw ar aV N) (List.range i))⟩),(83,⟨1,true,false,ag (List.map (gG ar aV N (u8 ((↑i:Int)+1))) (List.range j))⟩)]⟩:AS)) (fun d=>(d≤N-1)) (fun d=>(N-1-d)) (0) ?_ (zW [.aa [0,1,2,3,10,11,12,13,14,15,16] [89,83]]) ?_)
   ·omega
   intro d hd
   refine zS<|zP 1 [{}] [.aa [59,0,1,2,3,10,11,12,13,14,15,16] [89,83]] [] (zD 59 ((↑d:Int)+1<(↑N:Int)) (fun h6=>?_) (fun h6=>?_))
   ·have hN:d+1≤N-1:=ah
    have hk:((d:Int)+1-1)*ar.length=((d*ar.length:Nat):Int):=by
     rw [Int.natCast_mul,show (d:Int)+1-1=d by omega]
    have hb:=Nat.mul_le_mul_right ar.length hN
    rw [Nat.add_mul,Nat.one_mul] at hb
    have Uc:(((N-1)*ar.length:Nat):Int)=((N:Int)-1)*ar.length:=by rw [Int.natCast_mul,show ((N-1:Nat):Int)=(N:Int)-1 by omega]
    have Hd:d+1-1=d:=ah
    have pB:((d:Int)+1-1)*ar.length+j=(((d+1-1)*ar.length+j:Nat):Int):=by rw [hk,Hd];omega
    have dk:(d+1-1)*ar.length+j<aV.length:=by rw [Hd];omega
    refine aW<|zS<|zB 6<|zP 1 [yH [(2,yV (ab (u8 ((↑i:Int)+1)))),(3,yV (ab (kI (uq aV ar.length j (u8 ((↑i:Int)+1)) (ar.getD j 0) d).snd (u8 ((↑i:Int)+1)))))]] [.aa [15,59,0,1,2,3,10,11,12,13,14,16] [89,83]] [yI (i3 ((↑i:Int)+1)),yI (uj ((uq aV ar.length j (u8 ((↑i:Int)+1)) (ar.getD j 0) d).snd) (u8 ((↑i:Int)+1)))]<|zX (yH [(3,yV (ai ((↑d:Int)+1-1))),(5,{k:=ar.length}),(6,yV (ai (((↑d:Int)+1-1)*(↑ar.length:Int)))),(8,yV (ai (((↑d:Int)+1-1)*(↑ar.length:Int)+(↑j:Int)))),(9,{k:=(d+1-1)*ar.length+j}),(10,yV (ab (aV.getD ((d+1-1)*ar.length+j) 0))),(12,yV (ab (kI (aV.getD ((d+1-1)*ar.length+j) 0) (kI (uq aV ar.length j (u8 ((↑i:Int)+1)) (ar.getD j 0) d).snd (u8 ((↑i:Int)+1)))))),(13,yV (ab ((uq aV ar.length j (u8 ((↑i:Int)+1)) (ar.getD j 0) d).fst^^^kI (aV.getD ((d+1-1)*ar.length+j) 0) (kI (uq aV ar.length j (u8 ((↑i:Int)+1)) (ar.getD j 0) d).snd (u8 ((↑i:Int)+1))))))]) [yN ((↑d:Int)+1-1),yI (aD ar),yN (((↑d:Int)+1-1)*(↑ar.length:Int)),yN (((↑d:Int)+1-1)*(↑ar.length:Int)+(↑j:Int)),yI pB,yB ((d+1-1)*ar.length+j<(ag aV).length) (by simp only [aD];omega),yB ((ag aV)[(d+1-1)*ar.length+j]?=some (ab (aV.getD ((d+1-1)*ar.length+j) 0))) (oB ah),yI (uj (aV.getD ((d+1-1)*ar.length+j) 0) (kI (uq aV ar.length j (u8 ((↑i:Int)+1)) (ar.getD j 0) d).snd (u8 ((↑i:Int)+1)))),yI (Fp ((uq aV ar.length j (u8 ((↑i:Int)+1)) (ar.getD j 0) d).fst) (kI (aV.getD ((d+1-1)*ar.length+j) 0) (kI (uq aV ar.length j (u8 ((↑i:Int)+1)) (ar.getD j 0) d).snd (u8 ((↑i:Int)+1)))))]<|aM<|ak<|zX (yH [(1,yV (ai ((↑d:Int)+1+1)))]) [yN ((↑d:Int)+1+1)] (aH (d+1) hN ah (zW [.aa [0,1,2,3,10,11,12,13,14,15,16] [89,83]]))
   ·have e6:d=N-1:=ah
    subst e6
    refine zE 5<|aS<|aK<|bg<|ak<|zX (yH [(2,yV (AV.arr (ag [(uq aV ar.length j (u8 ((↑i:Int)+1)) (ar.getD j 0) (N-1)).fst]))),(3,yV (AV.arr (ag (List.map (gG ar aV N (u8 ((↑i:Int)+1))) (List.range j)++ [(uq aV ar.length j (u8 ((↑i:Int)+1)) (ar.getD j 0) (N-1)).fst]))))]) [yR [ab ((uq aV ar.length j (u8 ((↑i:Int)+1)) (ar.getD j 0) (N-1)).fst)],yB (ag (List.map (gG ar aV N (u8 ((↑i:Int)+1))) (List.range j))++ag [(uq aV ar.length j (u8 ((↑i:Int)+1)) (ar.getD j 0) (N-1)).fst]=ag (List.map (gG ar aV N (u8 ((↑i:Int)+1))) (List.range j)++ [(uq aV ar.length j (u8 ((↑i:Int)+1)) (ar.getD j 0) (N-1)).fst])) (da _ _),yB (((ag (List.map (gG ar aV N (u8 ((↑i:Int)+1))) (List.range j))).length+1)*1≤140737488355328) (by simp only [aD,List.length_map,List.length_range];omega)]<|aM<|ak<|zX (yH [(1,yV (ai ((↑j:Int)+1)))]) [yN ((↑j:Int)+1)] (aH (j+1) ah ah (eu [.aa [0,1,2,3,10,11,12,13] [89,83]] [] [83] [yB (ag (List.map (gG ar aV N (u8 ((↑i:Int)+1))) (List.range j)++ [(uq aV ar.length j (u8 ((↑i:Int)+1)) (ar.getD j 0) (N-1)).fst])=ag (List.map (gG ar aV N (u8 ((↑i:Int)+1))) (List.range (j+1)))) (congrArg ag (uo (gG ar aV N (u8 (i+1))) j))]))
  ·have e6:j=ar.length:=ah
   subst e6
   refine zE 3<|aS<|aK<|bg<|ak<|zX {} [yB (((ae dS (List.map (jw ar aV N) (List.range i))).length+2)*32≤281474976710656) (by simp only [List.length_map,List.length_range,aE (f:=dS) (e:=2) (fun _=>rfl)];omega)]<|aM<|ak<|zX (yH [(1,yV (ai ((↑i:Int)+1+1)))]) [yN ((↑i:Int)+1+1)] (aH (i+1) ah ah (eu [.aa [0,1,2,3,10,11] [89]] [] [89] [yB (ae dS (List.map (jw ar aV N) (List.range i))++ [ai ((↑i:Int)+1),AV.sl 1 (ag (List.map (gG ar aV N (u8 ((↑i:Int)+1))) (List.range ar.length)))]=ae dS (List.map (jw ar aV N) (List.range (i+1)))) (GK (f:=dS) (jw ar aV N) i)]))
 ·have e8:i=M:=ah
  subst e8
  refine zE 1<|aS<|aK<|bg<|ak<|zq<|zR (zV [yB (ae dS (List.map (jw ar aV N) (List.range i))=ae dS (fU ar aV (↑N:Int) (↑i:Int))) (by simp [fU,e0]),yJ 0 (dr ar aV (↑N:Int) (↑i:Int)) (by rw [e0])])
theorem xT (ar aV:List UInt8) (need n:Int):bC Tryz.prog 119 [.sl 1 (ag ar),.sl 1 (ag aV),ai need,ai n] (.bk [.own 2 (ae dS (iM ar aV need n)),ai (dr ar aV need n)]):=by
 rw [←CB];exact xU ar aV need n
def ff (E:Nat->Int):Nat->Int
 | 0=>0
 | n+1=>if ff E n≠0 then ff E n else E n
theorem jB {E:Nat->Int} {m:Nat} {e:Int} (he:e≠0) (h:ff E m=e):∀n,m≤n->ff E n=e
 | 0,hn=>by
  have:m=0:=ah
  subst this;exact h
 | n+1,hn=>by
  by_cases hm:m=n+1
  ·subst hm;exact h
  ·have:=jB he h n ah
   unfold ff
   rw [this,if_pos he]
def eh (x:List UInt8):Int:=if x.length<1∨32<x.length then 9 else if Lib.validD x=false then 6 else 0
def F9 (a b:List UInt8):Bool:=Op.bytesLess (⟨a.toArray⟩:ByteArray).toList (⟨b.toArray⟩:ByteArray).toList || (⟨a.toArray⟩:ByteArray).toList == (⟨b.toArray⟩:ByteArray).toList
def mN (l:List (List UInt8)) (i:Nat):Int:=if eh (l.getD i default)≠0 then eh (l.getD i default) else if 0<i∧F9 (l.getD i default) (l.getD (i-1) default)=true then 7 else 0
theorem qg {x:List UInt8} (h:x.length<1∨32<x.length):eh x=9:=by unfold eh;rw [if_pos h]
theorem ya {x:List UInt8} (h:¬(x.length<1∨32<x.length)) (hv:Lib.validD x=false):eh x=6:=by unfold eh;rw [if_neg h,if_pos hv]
theorem EI {x:List UInt8} (h:¬(x.length<1∨32<x.length)) (hv:Lib.validD x=true):eh x=0:=by unfold eh;rw [if_neg h,if_neg (by simp [hv])]
theorem I2 {l:List (List UInt8)} {i:Nat} {e:Int} (h:eh (l.getD i default)=e) (he:e≠0):mN l i=e:=by unfold mN;rw [if_pos ah,h]
theorem I1 {l:List (List UInt8)} {i k:Nat} (h:eh (l.getD i default)=0) (hk:k+1=i):mN l i=if F9 (l.getD i default) (l.getD k default)=true then 7 else 0:=by
 unfold mN
 subst hk
 rw [if_neg ah,Nat.add_sub_cancel]
 by_cases hc:F9 (l.getD (k+1) default) (l.getD k default)=true
 ·rw [if_pos ⟨ah,hc⟩,if_pos hc]
 ·rw [if_neg (fun h=>hc h.2),if_neg hc]
theorem E2 {l:List (List UInt8)} (h:eh (l.getD 0 default)=0):mN l 0=0:=by unfold mN;rw [if_neg ah,if_neg (fun h=>ah)]
def nX (n:Nat) (need:Int):Prop:=n<1∨8<n∨need<1∨(n:Int)<need
instance (n:Nat) (need:Int):Decidable (nX n need):=inferInstanceAs (Decidable (_∨_∨_∨_))
def rh (l:List (List UInt8)) (need:Int):Int:=if nX l.length need then 9 else ff (mN l) l.length
def KM (seed:UInt64) (a8:Int):UInt64:=derive seed [100,101,112,111,115,105,116] a8
def HH (seed:UInt64) (a8:Int) (n:Nat) (need:Int):List Sh:=iM (words [KM seed a8]) (stream (derive seed [115,104,97,114,101,115] a8) 0 (8*(need-1))) need n
def sS (seed:UInt64) (a8:Int) (l:List (List UInt8)) (need:Int):List (List UInt8):=if rh l need=0 then (List.range l.length).map (fun i=>((HH seed a8 l.length need).getD i default).2) else []
def fK (seed:UInt64) (a8:Int) (l:List (List UInt8)) (need:Int):np :=
 if rh l need=0 then ⟨A2 (KM seed a8),0,[],l,(List.range l.length).map (fun i=>oM (l.getD i default) ((HH seed a8 l.length need).getD i default).2),need,0⟩ else default
def QE (d:np):List AV:=[aw d.bY,aw d.peer,.own 1 (ag d.box),.own 1 (ae ax d.af),.own 1 (aj d.ay),ai d.need,aw d.target]
def part {T:Type} (f:Nat->T) (z:T) (n i:Nat):List T:=(List.range n).map fun k=>if k<i then f k else z
def nk (m:UInt64) (k:Nat):Nat:=m.toNat/2^(60-4*k)%16
def bm (m:UInt64):Nat->Nat
 | 0=>0
 | k+1=>bm m k+(15-nk m k)
def ck (m:UInt64):List Int:=(List.range 16).map (fun k=>(nk m k:Int))++ [((bm m 16/16:Nat):Int),((bm m 16%16:Nat):Int)]
theorem CU (m:UInt64) (k:Nat):nk m k<16:=Nat.mod_lt _ (by decide)
theorem rq (m:UInt64) (k:Nat):bm m k≤15*k:=by
 induction k with
 | zero=>simp [bm]
 | succ k ih=>simp only [bm];omega
theorem nW (m:UInt64):(ck m).length=18:=by simp [ck]
def iv (m:UInt64) (k:Nat):List Int:=(List.range k).map fun j=>(nk m j:Int)
theorem BZ (m:UInt64) (k:Nat):iv m (k+1)=iv m k++ [(nk m k:Int)]:=by simp [iv,List.range_succ]
theorem DS (m:UInt64) (k:Nat):(iv m k).length=k:=by simp [iv]
theorem LP (m:UInt64):ck m=iv m 16++ [((bm m 16/16:Nat):Int),((bm m 16%16:Nat):Int)]:=rfl
def Pk (leaf chain:Int) (p:Int) (x:UInt64):UInt64:=hash 1 (words [u64 leaf,u64 chain,u64 p,x])
def jI (leaf chain:Int) (p:Int) (x:UInt64):Nat->UInt64
 | 0=>x
 | n+1=>Pk leaf chain (p+n) (jI leaf chain p x n)
theorem wU (leaf chain:Int) (p:Int) (x:UInt64) (n:Nat):jI leaf chain p x (n+1)=hash 1 (words [u64 leaf,u64 chain,u64 (p+n),jI leaf chain p x n]):=rfl
def run (leaf chain src dst:Int) (x:UInt64):UInt64:=jI leaf chain (max src 0) x (min dst 15-max src 0).toNat
theorem HN (leaf chain p:Int) (x:UInt64) (a b:Nat):jI leaf chain p x (a+b)=jI leaf chain (p+a) (jI leaf chain p x a) b:=by
 induction b with
 | zero=>rfl
 | succ b ih =>
  show jI leaf chain p x (a+b+1)=_
  rw [wU,wU,ih,show p+((a+b:Nat):Int)=p+a+b by omega]
theorem FK (leaf chain p q r:Int) (x:UInt64) (h0:0≤p) (h1:p≤q) (h2:q≤r) (hp:p≤15):run leaf chain p r x=run leaf chain q r (run leaf chain p q x):=by
 unfold run
 rw [show max p 0=p by omega,show max q 0=q by omega]
 by_cases hq:q≤15
 ·have e:(min r 15-p).toNat=(q-p).toNat+(min r 15-q).toNat:=ah
  rw [e,HN,show min q 15=q by omega,show p+((q-p).toNat:Int)=q by omega]
 ·rw [show (min r 15-q).toNat=0 by omega,show min r 15=15 by omega,show min q 15=15 by omega];rfl
def ar (seed:UInt64) (leaf c:Int):UInt64:=z1 seed 1 (words [u64 leaf,u64 c])
def combine (leaf:Int) (l:List UInt64):UInt64:=hash 2 (words (u64 leaf::l))
def bG (seed:UInt64) (leaf:Int) (n:Nat):List UInt64:=(List.range n).map fun (i:Nat)=>run leaf i 0 15 (ar seed leaf i)
def bW (seed:UInt64) (leaf:Int) (m:UInt64) (n:Nat):List UInt64:=(List.range n).map fun (i:Nat)=>run leaf i 0 ((ck m).getD i 0) (ar seed leaf i)
def cO (leaf:Int) (m:UInt64) (s:List UInt64) (n:Nat):List UInt64:=(List.range n).map fun (i:Nat)=>run leaf i ((ck m).getD i 0) 15 (s.getD i 0)
theorem sj (seed:UInt64) (leaf:Int) (n:Nat):(bG seed leaf n).length=n:=by simp [bG]
theorem qZ (seed:UInt64) (leaf:Int) (m:UInt64) (n:Nat):(bW seed leaf m n).length=n:=by simp [bW]
theorem AY (leaf:Int) (m:UInt64) (s:List UInt64) (n:Nat):(cO leaf m s n).length=n:=by simp [cO]
theorem x8 (seed:UInt64) (leaf:Int) (n:Nat):bG seed leaf (n+1)=bG seed leaf n++ [run leaf n 0 15 (ar seed leaf n)]:=by simp [bG,List.range_succ]
theorem Cx (seed:UInt64) (leaf:Int) (m:UInt64) (n:Nat):bW seed leaf m (n+1)=bW seed leaf m n++ [run leaf n 0 ((ck m).getD n 0) (ar seed leaf n)]:=by simp [bW,List.range_succ]
theorem FR (leaf:Int) (m:UInt64) (s:List UInt64) (n:Nat):cO leaf m s (n+1)=cO leaf m s n++ [run leaf n ((ck m).getD n 0) 15 (s.getD n 0)]:=by simp [cO,List.range_succ]
theorem LQ (m:UInt64) (i:Nat):0≤(ck m).getD i 0∧(ck m).getD i 0≤15:=by
 have hs:=rq m 16
 by_cases h:i<16
 ·have:=CU m i
  have e:(ck m).getD i 0=(nk m i:Int):=by simp [ck,List.getElem?_append,h]
  omega
 ·by_cases S9:i=16
  ·subst S9
   have e:(ck m).getD 16 0=((bm m 16/16:Nat):Int):=by simp [ck]
   omega
  ·by_cases V4:i=17
   ·subst V4
    have e:(ck m).getD 17 0=((bm m 16%16:Nat):Int):=by simp [ck]
    omega
   ·have e:(ck m).getD i 0=0:=by
     rw [List.getD_eq_getElem?_getD,List.getElem?_eq_none (by rw [nW];omega)];rfl
    omega
theorem HX (seed:UInt64) (leaf:Int) (m:UInt64):cO leaf m (bW seed leaf m 18) 18=bG seed leaf 18:=by
 unfold cO bG
 apply List.map_congr_left
 intro i hi
 have ji:=List.mem_range.1 hi
 have hb:=LQ m i
 have e:(bW seed leaf m 18).getD i 0=run leaf i 0 ((ck m).getD i 0) (ar seed leaf i):=by simp [bW,ji]
 rw [e,←FK leaf i 0 _ 15 _ ah hb.1 hb.2 ah]
def i6 (m:UInt64) (k:Nat):List Int:=(List.range 18).map fun j=>if j<k then (nk m j:Int) else 0
theorem JP (m:UInt64) (k:Nat):(i6 m k).length=18:=by simp [i6]
theorem LR (m:UInt64) (k j:Nat) (hj:j<18):(i6 m k).getD j 0=if j<k then (nk m j:Int) else 0:=by
 rw [List.getD_eq_getElem?_getD];simp [i6,hj]
theorem JO (m:UInt64) (k:Nat):(i6 m k).set k (nk m k:Int)=i6 m (k+1):=by
 apply List.ext_getElem (by simp [i6])
 intro j h1 h2
 rw [List.getElem_set]
 simp only [i6,List.getElem_map,List.getElem_range]
 by_cases hk:k=j
 ·subst hk;rw [if_pos rfl,if_pos ah]
 ·rw [if_neg hk]
  by_cases h:j<k
  ·rw [if_pos h,if_pos ah]
  ·rw [if_neg h,if_neg ah]
theorem JQ (m:UInt64):((i6 m 16).set 16 ((bm m 16/16:Nat):Int)).set 17 ((bm m 16%16:Nat):Int)=ck m:=by
 simp [i6,ck,List.range_succ]
def cT (n:Nat) (l:List UInt64) (k:Nat):List UInt64:=l.take k++List.replicate (n-k) 0
theorem kx {n k:Nat} {l:List UInt64} (hl:l.length=n) (hk:k≤n):(cT n l k).length=n:=by simp [cT];omega
theorem kR {n:Nat} {l:List UInt64} (hl:l.length=n):cT n l n=l:=by simp [cT,←hl]
theorem ma {n k:Nat} {l:List UInt64} (hl:l.length=n) (hk:k<n):(cT n l k).set k (l.getD k 0)=cT n l (k+1):=by
 apply List.ext_getElem (by simp [cT];omega)
 intro j h1 h2
 have hj:j<n:=by rw [List.length_set,kx hl ah] at h1;exact h1
 rw [List.getElem_set]
 by_cases h:k=j
 ·subst h
  simp [cT,hl,hk,List.getElem_append]
  omega
 ·rw [if_neg h]
  simp only [cT,List.getElem_append,List.length_take,hl]
  by_cases wh:j<k
  ·simp [show j<min k n by omega,show j<min (k+1) n by omega]
  ·simp [show ¬j<min k n by omega,show ¬j<min (k+1) n by omega]
theorem HE (seed:UInt64) (leaf:Int) (m:UInt64) (i:Nat) (h:i<18):(bW seed leaf m 18).getD i 0=run leaf i 0 ((ck m).getD i 0) (ar seed leaf i):=by simp [bW,h]
theorem KW (leaf:Int) (m:UInt64) (s:List UInt64) (i:Nat) (h:i<18):(cO leaf m s 18).getD i 0=run leaf i ((ck m).getD i 0) 15 (s.getD i 0):=by simp [cO,h]
theorem CO (seed:UInt64) (leaf:Int) (i:Nat) (h:i<18):(bG seed leaf 18).getD i 0=run leaf i 0 15 (ar seed leaf i):=by simp [bG,h]
theorem EK (m:UInt64) (k:Nat) (hk:k≤15):wv ((m>>>UInt64.ofNat (60-4*k))&&&15)=(nk m k:Int):=by
 unfold wv nk
 rw [UInt64.toNat_and,UInt64.toNat_shiftRight,UInt64.toNat_ofNat_of_lt' (by show _<2^64;omega),Nat.mod_eq_of_lt ah,Nat.shiftRight_eq_div_pow]
 rw [show (15:UInt64).toNat=2^4-1 from rfl,Nat.and_two_pow_sub_one_eq_mod]
end Go.Proofs.YtjgbhhnghedgdaaGreatDoor
