import Derived.Test.YtjgbhhnghedgdaaGreatDoorZbEx3
import Derived.Test.YtjgbhhnghedgdaaGreatDoorZbRN
import Derived.StillTailTactics
import Derived.Deep.RegionWith
import Derived.Deep.DeepCutAuto
set_option linter.all false
namespace Go.Proofs.YtjgbhhnghedgdaaGreatDoor
open Go.RowKit
set_option maxRecDepth 100000
set_option maxHeartbeats 4000000
def sO (r:List UInt8):List AV:=[.sl 1 (ag r)]
theorem Own.pV (w:World) (e:TypeId):Own (w.alloc (.cells #[] e)) w.heap.size (.slice (some ⟨w.heap.size,0,none⟩) 0 0) [] :=
 .inr ⟨w.heap.size,0,#[],e,(0,0),rfl,Nat.le_refl _,heap_alloc_new w _,by simp,by simp,rfl,rfl,by simp⟩
theorem kC {P:Program} {w:World} {t e:TypeId} (ht:P.underlying t=some (.slice e)) (A:Option Addr) (n c:Nat):(binOp .eql t (.slice A n c) (.slice none 0 0)).run P w= .ok (.bool A.isNone) w:=by
 have key:∀d,(Op.equalIn (d+1) t (.slice A n c) (.slice none 0 0)).run P w= .ok A.isNone w:=by
  intro d
  unfold Op.equalIn
  cases A<;>simp [run_underlying ht]
 show (Op.equalIn (9999+1) t (.slice A n c) (.slice none 0 0) >>= fun b=>pure (Value.bool b)).run P w=_
 rw [Sem.run_bind,key 9999]
 rfl
theorem Gc (v:Value) (l:List UInt8) (w:World) (h:i4 w v (sr l)) (hl:l.length≤70368744177664) :
  Calls Tryz.prog 100 #[v] w fun e w'=>qC w e w' l:=by
 have h':=h
 obtain ⟨A,c,rfl,hc,hm,hr⟩:=h
 rcases A with _|ad
 ·have y1:l= []:=by
   rcases Nat.eq_zero_or_pos l.length with h0|h0
   ·exact List.length_eq_zero_iff.1 h0
   ·obtain ⟨ad,h,_⟩:=hr.2 (by rw [gi];exact h0)
    cases h
  subst y1
  have hq:= @kC Tryz.prog w 25 5 Tryz.underlying25 none (sr []).length c
  go_enter Tryz.func100,Tryz.ntmps100
  go_wp2
  go_ret
  exact ⟨_,rfl,.inl ⟨rfl,rfl⟩,Below.refl _ _⟩
 ·have SH:=Lib.hid h'
  clear h' hr
  have hq:= @kC Tryz.prog w 25 5 Tryz.underlying25 (some ad) (sr l).length c
  go_enter Tryz.func100,Tryz.ntmps100
  go_wp2_with (at_builtin;refine tw _ rfl _ _ 25 rfl E8 w.heap.size _ _ rfl (Own.pV w _) _ (sr l) rfl (SH.out.below ((Below.refl _ _).alloc (Nat.le_refl _) _)) (EH _) (by rw [gi];simp;omega) (by simp) ?_;intro v2 w2 Gt PH _)
  go_ret
  exact ⟨_,rfl,by simpa using Gt,((Below.refl w.heap.size w).alloc (Nat.le_refl _) _).DK (Own.pV w _) PH⟩
theorem Gb (l:List UInt8) (hl:l.length≤70368744177664):bL Tryz.prog 100 [.sl 1 (ag l)] (.own 1 (ag l)):=by
 refine bL.Aj fun w vs h1 hr=>?_
 obtain ⟨a,rfl⟩:=EK h1 rfl
 exact Gc a l w (wq (hr 0 a _ rfl rfl) fun _ h=>h) hl
def pG (us:List Value):List AV:=us.map AV.val
theorem lP (us:List Value):(pG us).length=us.length:=by simp [pG]
theorem Hf {S:Nat->Prop} {w:World} {v:Value} {bs:List Value} (h:cB S w v (.sl 1 (pG bs))) (hS:∀b,S b->b<w.heap.size):i4 w v bs:=by
 cases h with
 | sl A n c e us row hl hn hc hm ha h =>
  have Fw:us=bs:=by
   apply List.ext_getElem?
   intro j
   cases hu:us[j]? with
   | none =>
    have:us.length≤j:=List.getElem?_eq_none_iff.1 hu
    rw [List.getElem?_eq_none (by rw [lP] at hl;omega)]
   | some u =>
    have hj:j<bs.length:=by have:=(List.getElem?_eq_some_iff.1 hu).1;rw [hl,lP] at this;exact this
    have hx:(pG bs)[j]?=some (.val bs[j]):=by simp [pG,hj]
    have:=h j u _ hu hx
    cases this
    simp [hj]
  subst Fw
  rw [lP] at hn ha
  have sE:us.length=n:=aj
  subst sE
  exact ⟨A,c,rfl,hc,hm,rfl,fun h0=>by
   obtain ⟨ad,e,hs,bw⟩:=ha h0
   exact ⟨ad,e,hS _ hs,bw⟩⟩
def EP (w:World) (e:Ending) (w':World) (us:List Value):Prop:=∃v,e= .returned v∧Own w' w.heap.size v us∧Below w.heap.size w w'
theorem bL.Ko {P:Program} {f:FuncId} {args:List AV} {us:List Value} (h:∀(w:World) (vs:List Value),vs.length=args.length->(∀(j:Nat) v x,vs[j]?=some v->args[j]?=some x->cB (fun b=>b<w.heap.size) w v x) ->
  Calls P f vs.toArray w fun e w'=>EP w e w' us):bL P f args (.own 1 (pG us)):=by
 intro w S vs _ hS hl hr
 refine (h w vs hl fun j v x hv hx=>(hr j v x hv hx).mono fun b hb=>⟨hS b hb,rfl⟩).mono fun e w' ⟨v,he,ho,hb⟩=>?_
 rcases ho with ⟨rfl,hn⟩|⟨g,cap,cur,te,fr,rfl,AF,hg,FB,s_,wL,LM,gy⟩
 ·subst hn
  exact ⟨_,[],he,hb,List.nodup_nil,by simp,.inl (.inl (.nil 1))⟩
 ·have dj:g<w'.heap.size:=by
   rcases Nat.lt_or_ge g w'.heap.size with h|h
   ·exact h
   ·rw [Array.getElem?_eq_none h] at hg;cases hg
  refine ⟨_,[g],he,hb,by simp,by simp [AF,dj],.inl (.inl (.own g _ cap 1 (pG us) cur te fr hg (fun j hj=>gy j aj) (by rw [lP,Nat.one_mul]) FB s_ aj ?_))⟩
  intro j u x hu hx
  have hj:j<us.length:=by have:=(List.getElem?_eq_some_iff.1 hx).1;rwa [lP] at this
  have JM:x= .val us[j]:=by simp [pG,hj] at hx;exact hx.symm
  subst JM
  have H4:us[j]?=some u:=by
   rw [←LM,List.getElem?_take_of_lt hj];simpa using hu
  have:u=us[j]:=by simp [hj] at H4;exact H4.symm
  subst this
  exact .val _
theorem KF:(Tryz.prog.info? 9).map (fun i=>(i.zero,i.size,i.bytes))=some (some (.string ⟨#[]⟩),1,16):=by kernel_rfl
theorem SI:Bt Tryz.prog 26 9 (.string ⟨#[]⟩) 16:=by
 obtain ⟨i,h,h1,h2,h3⟩:=info_parts KF
 exact ⟨Tryz.underlying26,⟨i,h,h1,h2,h3⟩,rfl,by decide⟩
set_option maxRecDepth 100000 in
theorem BN (v:Value) (l:List Value) (w:World) (h:i4 w v l) (h1:∀u∈l,u.oneCell'=true) (hl:l.length≤1000000) :
  Calls Tryz.prog 101 #[v] w fun e w'=>EP w e w' l:=by
 have h':=h
 obtain ⟨A,c,rfl,hc,hm,hr⟩:=h
 rcases A with _|ad
 ·have y1:l= []:=by
   rcases Nat.eq_zero_or_pos l.length with h0|h0
   ·exact List.length_eq_zero_iff.1 h0
   ·obtain ⟨ad,h,_⟩:=hr.2 h0
    cases h
  clear h' hr
  have hq:= @kC Tryz.prog w 26 9 Tryz.underlying26 none l.length c
  have HL:=Lib.hid y1
  clear y1
  go_enter Tryz.func101,Tryz.ntmps101
  go_wp2
  go_ret
  exact ⟨_,rfl,.inl ⟨rfl,HL.out⟩,Below.refl _ _⟩
 ·have SH:=Lib.hid h'
  clear h' hr
  have hq:= @kC Tryz.prog w 26 9 Tryz.underlying26 (some ad) l.length c
  go_enter Tryz.func101,Tryz.ntmps101
  go_wp2_with (at_builtin;refine tw _ rfl _ _ 26 rfl SI w.heap.size _ _ rfl (Own.pV w _) _ l rfl (SH.out.below ((Below.refl _ _).alloc (Nat.le_refl _) _)) h1 (by simp;omega) (by simp) ?_;intro v2 w2 Gt PH _)
  go_ret
  exact ⟨_,rfl,by simpa using Gt,((Below.refl w.heap.size w).alloc (Nat.le_refl _) _).DK (Own.pV w _) PH⟩
theorem BM (l:List (List UInt8)) (hl:l.length≤1000000):bL Tryz.prog 101 [.sl 1 (ae (fun s=>[cF s]) l)] (.own 1 (ae (fun s=>[cF s]) l)):=by
 have e:ae (fun s:List UInt8=>[cF s]) l=pG (l.map fun s=>.string ⟨s.toArray⟩):=by
  induction l with
  | nil=>rfl
  | cons x l ih=>rw [gJ,ih (by simp at hl;omega)];rfl
 rw [e]
 refine bL.Ko fun w vs h1 hr=>?_
 obtain ⟨a,rfl⟩:=EK h1 rfl
 exact BN a _ w (Hf (hr 0 a _ rfl rfl) fun _ h=>h) (by simp [Value.oneCell']) (by simpa using hl)
def xt (a:UInt8):UInt8:=if a&&&128≠0 then (a<<<1)^^^27 else a<<<1
theorem pA (p:UInt8->Bool) (h:(List.range 256).all (fun n=>p (UInt8.ofNat n))=true) (a:UInt8):p a=true:=by
 rw [List.all_eq_true] at h
 have:=h a.toNat (List.mem_range.2 (UInt8.toNat_lt a))
 simpa using this
theorem Bo (a b c:UInt8):(a^^^b)&&&c=(a&&&c)^^^(b&&&c):=by
 apply UInt8.toBitVec_inj.1;simp only [UInt8.toBitVec_and,UInt8.toBitVec_xor];ext i hi;simp;cases a.toBitVec[i]<;>cases b.toBitVec[i]<;>cases c.toBitVec[i]<;>rfl
theorem GC (a b:UInt8):(a^^^b)<<<1=(a<<<1)^^^(b<<<1):=by
 apply UInt8.toBitVec_inj.1;simp [UInt8.toBitVec_shiftLeft,UInt8.toBitVec_xor,BitVec.shiftLeft_xor_distrib]
theorem GA (a b:UInt8):(a^^^b)>>>1=(a>>>1)^^^(b>>>1):=by
 apply UInt8.toBitVec_inj.1;simp [UInt8.toBitVec_shiftRight,UInt8.toBitVec_xor,BitVec.ushiftRight_xor_distrib]
theorem QV (a b c d:UInt8):(a^^^b)^^^(c^^^d)=(a^^^c)^^^(b^^^d):=by
 rw [UInt8.xor_assoc,UInt8.xor_assoc,←UInt8.xor_assoc b,UInt8.xor_comm b c,UInt8.xor_assoc c]
theorem AE (a:UInt8):a&&&128=0∨a&&&128=128:=by
 have:=pA (fun a=>decide (a&&&128=0∨a&&&128=128)) (by decide +kernel) a
 exact of_decide_eq_true this
theorem uu (a:UInt8):a&&&1=0∨a&&&1=1:=by
 have:=pA (fun a=>decide (a&&&1=0∨a&&&1=1)) (by decide +kernel) a
 exact of_decide_eq_true this
theorem L8 (a b:UInt8):xt (a^^^b)=xt a^^^xt b:=by
 unfold xt
 rw [Bo,GC]
 rcases AE a with h|h<;>rcases AE b with k|k<;>rw [h,k]<;>simp [UInt8.xor_assoc]
 ·rw [UInt8.xor_comm 27]
 ·rw [←UInt8.xor_assoc 27,UInt8.xor_comm 27,UInt8.xor_assoc];simp
theorem HD (a b p:UInt8) (k:Nat):(bO ⟨a,b,p⟩ (k+1)).a=xt (bO ⟨a,b,p⟩ k).a:=rfl
theorem r6 (a c b p q:UInt8):∀k,bO ⟨a^^^c,b,p^^^q⟩ k=⟨(bO ⟨a,b,p⟩ k).a^^^(bO ⟨c,b,q⟩ k).a,(bO ⟨a,b,p⟩ k).b,(bO ⟨a,b,p⟩ k).p^^^(bO ⟨c,b,q⟩ k).p⟩∧(bO ⟨c,b,q⟩ k).b=(bO ⟨a,b,p⟩ k).b
 | 0=>⟨rfl,rfl⟩
 | k+1=>by
  obtain ⟨h,hb⟩:=r6 a c b p q k
  refine ⟨?_,?_⟩
  ·rw [bO,h]
   simp only [bO,uh,hb]
   have:=L8 (bO ⟨a,b,p⟩ k).a (bO ⟨c,b,q⟩ k).a
   unfold xt at this
   rw [this]
   congr 1
   split
   ·exact QV _ _ _ _
   ·rfl
  ·simp only [bO,uh,hb]
theorem r5 (a b c p q:UInt8):∀k,bO ⟨a,b^^^c,p^^^q⟩ k=⟨(bO ⟨a,b,p⟩ k).a,(bO ⟨a,b,p⟩ k).b^^^(bO ⟨a,c,q⟩ k).b,(bO ⟨a,b,p⟩ k).p^^^(bO ⟨a,c,q⟩ k).p⟩∧(bO ⟨a,c,q⟩ k).a=(bO ⟨a,b,p⟩ k).a
 | 0=>⟨rfl,rfl⟩
 | k+1=>by
  obtain ⟨h,hb⟩:=r5 a b c p q k
  refine ⟨?_,?_⟩
  ·rw [bO,h]
   simp only [bO,uh,hb,GA,Bo]
   congr 1
   rcases uu (bO ⟨a,b,p⟩ k).b with h1|h1<;>rcases uu (bO ⟨a,c,q⟩ k).b with h2|h2<;>rw [h1,h2]<;>simp [UInt8.xor_assoc]
   ·rw [UInt8.xor_comm (bO ⟨a,c,q⟩ k).p]
   ·rw [←UInt8.xor_assoc (bO ⟨a,b,p⟩ k).a,UInt8.xor_comm (bO ⟨a,b,p⟩ k).a (bO ⟨a,c,q⟩ k).p,UInt8.xor_assoc,UInt8.xor_self,UInt8.xor_zero]
  ·simp only [bO,uh,hb]
theorem iE (a c b:UInt8):eG (a^^^c) b=eG a b^^^eG c b:=by
 have:=(r6 a c b 0 0 8).1
 rw [UInt8.xor_self] at this
 unfold eG;rw [this]
theorem jl (a b c:UInt8):eG a (b^^^c)=eG a b^^^eG a c:=by
 have:=(r5 a b c 0 0 8).1
 rw [UInt8.xor_self] at this
 unfold eG;rw [this]
theorem qA {f g:UInt8->UInt8} (hf:∀a b,f (a^^^b)=f a^^^f b) (hg:∀a b,g (a^^^b)=g a^^^g b) (h:∀i,i<8->f (UInt8.ofNat (2^i))=g (UInt8.ofNat (2^i))) (a:UInt8):f a=g a:=by
 have f0:f 0=0:=by have:=hf 0 0;rwa [UInt8.xor_self,UInt8.xor_self] at this
 have g0:g 0=0:=by have:=hg 0 0;rwa [UInt8.xor_self,UInt8.xor_self] at this
 have e:a=(((((((a&&&1)^^^(a&&&2))^^^(a&&&4))^^^(a&&&8))^^^(a&&&16))^^^(a&&&32))^^^(a&&&64))^^^(a&&&128):=by
  have:=pA (fun a=>decide (a=(((((((a&&&1)^^^(a&&&2))^^^(a&&&4))^^^(a&&&8))^^^(a&&&16))^^^(a&&&32))^^^(a&&&64))^^^(a&&&128))) (by decide +kernel) a
  exact of_decide_eq_true this
 have one:∀i,i<8->a&&&UInt8.ofNat (2^i)=0∨a&&&UInt8.ofNat (2^i)=UInt8.ofNat (2^i):=by
  intro i hi
  have:=pA (fun a=>decide (∀i,i<8->a&&&UInt8.ofNat (2^i)=0∨a&&&UInt8.ofNat (2^i)=UInt8.ofNat (2^i))) (by decide +kernel) a
  exact of_decide_eq_true this i hi
 have s:∀i,i<8->f (a&&&UInt8.ofNat (2^i))=g (a&&&UInt8.ofNat (2^i)):=by
  intro i hi
  rcases one i hi with h1|h1<;>rw [h1]
  ·rw [f0,g0]
  ·exact h i hi
 rw [e]
 simp only [hf,hg]
 rw [show f (a&&&1)=g (a&&&1) from s 0 aj,show f (a&&&2)=g (a&&&2) from s 1 aj,show f (a&&&4)=g (a&&&4) from s 2 aj,show f (a&&&8)=g (a&&&8) from s 3 aj,show f (a&&&16)=g (a&&&16) from s 4 aj,show f (a&&&32)=g (a&&&32) from s 5 aj,show f (a&&&64)=g (a&&&64) from s 6 aj,show f (a&&&128)=g (a&&&128) from s 7 aj]
theorem wO (a b:UInt8):eG a b=eG b a:=by
 refine qA (f:=fun a=>eG a b) (g:=fun a=>eG b a) (fun x y=>iE x y b) (fun x y=>jl b x y) (fun i hi=>?_) a
 refine qA (f:=fun b=>eG (UInt8.ofNat (2^i)) b) (g:=fun b=>eG b (UInt8.ofNat (2^i))) (fun x y=>jl _ x y) (fun x y=>iE x y _) (fun j hj=>?_) b
 have:∀i,i<8-> ∀j,j<8->eG (UInt8.ofNat (2^i)) (UInt8.ofNat (2^j))=eG (UInt8.ofNat (2^j)) (UInt8.ofNat (2^i)):=by decide +kernel
 exact this i hi j hj
theorem CB (a b c:UInt8):eG (eG a b) c=eG a (eG b c):=by
 refine qA (f:=fun a=>eG (eG a b) c) (g:=fun a=>eG a (eG b c)) (fun x y=>by simp only [iE]) (fun x y=>by simp only [iE]) (fun i hi=>?_) a
 refine qA (f:=fun b=>eG (eG (UInt8.ofNat (2^i)) b) c) (g:=fun b=>eG (UInt8.ofNat (2^i)) (eG b c)) (fun x y=>by simp only [iE,jl]) (fun x y=>by simp only [iE,jl]) (fun j hj=>?_) b
 refine qA (f:=fun c=>eG (eG (UInt8.ofNat (2^i)) (UInt8.ofNat (2^j))) c) (g:=fun c=>eG (UInt8.ofNat (2^i)) (eG (UInt8.ofNat (2^j)) c)) (fun x y=>by simp only [jl]) (fun x y=>by simp only [jl]) (fun k hk=>?_) c
 have:∀i,i<8-> ∀j,j<8-> ∀k,k<8->eG (eG (UInt8.ofNat (2^i)) (UInt8.ofNat (2^j))) (UInt8.ofNat (2^k))=eG (UInt8.ofNat (2^i)) (eG (UInt8.ofNat (2^j)) (UInt8.ofNat (2^k))):=by decide +kernel
 exact this i hi j hj k hk
theorem IF (a:UInt8):eG a 1=a:=of_decide_eq_true (pA (fun a=>decide (eG a 1=a)) (by decide +kernel) a)
theorem Hw (a:UInt8):eG 1 a=a:=by rw [wO,IF]
theorem FK (a:UInt8):eG a 0=0:=by have:=jl a 0 0;rwa [UInt8.xor_self,UInt8.xor_self] at this
theorem ET (a:UInt8):eG 0 a=0:=by rw [wO,FK]
theorem wo (a b:UInt8):∀k,k≤8->(gr a b k).x=(bO ⟨a,b,0⟩ k).a.toUInt64∧(gr a b k).p=(bO ⟨a,b,0⟩ k).p∧(k<8->(bO ⟨a,b,0⟩ k).b=b>>>UInt8.ofNat k)
 | 0,_=>⟨rfl,rfl,fun _=>by simp [bO]⟩
 | k+1,hk=>by
  obtain ⟨h1,h2,h3⟩:=wo a b k aj
  have h3:=h3 aj
  refine ⟨?_,?_,fun h8=>?_⟩
  ·rw [gr,tP,h1,HD]
   have:=pA (fun a=>decide ((if (a.toUInt64<<<1)&&&256≠0 then (a.toUInt64<<<1)^^^283 else a.toUInt64<<<1)=(xt a).toUInt64)) (by decide +kernel) (bO ⟨a,b,0⟩ k).a
   exact of_decide_eq_true this
  ·rw [gr,tP,h1,h2,bO,uh,←h3]
   have e:(bO ⟨a,b,0⟩ k).a.toUInt64.toUInt8=(bO ⟨a,b,0⟩ k).a:=by simp
   rw [e]
   rcases uu (bO ⟨a,b,0⟩ k).b with h|h<;>rw [h]<;>rfl
  ·rw [bO,uh]
   show (bO ⟨a,b,0⟩ k).b>>>1=_
   rw [h3]
   have:=pA (fun b=>(List.range 7).all fun k=>(b>>>UInt8.ofNat k)>>>1 == b>>>UInt8.ofNat (k+1)) (by decide +kernel) b
   rw [List.all_eq_true] at this
   simpa using this k (List.mem_range.2 aj)
theorem zx (a b:UInt8):kF a b=eG a b:=(wo a b 8 (Nat.le_refl _)).2.1
def nc (f:Nat->UInt8):Nat->UInt8
 | 0=>0
 | n+1=>nc f n^^^f n
theorem tu {f g:Nat->UInt8}:∀ {n:Nat},(∀i,i<n->f i=g i)->nc f n=nc g n
 | 0,_=>rfl
 | n+1,h=>by rw [nc,nc,tu (fun i hi=>h i aj),h n aj]
theorem y9 (f:Nat->UInt8) (x:UInt8):∀n,eG (nc f n) x=nc (fun i=>eG (f i) x) n
 | 0=>ET x
 | n+1=>by rw [nc,iE,y9 f x n];rfl
theorem tt (f:Nat->UInt8):∀n,nc f (n+1)=f 0^^^nc (fun i=>f (i+1)) n
 | 0=>by simp [nc]
 | n+1=>by rw [nc,tt f n,nc,UInt8.xor_assoc]
theorem rk (x:UInt8) (k:Nat):xW x (k+1)=eG (xW x k) x:=by rw [xW,zx]
theorem H6 (aU:List UInt8) (L j:Nat) (x:UInt8) (need:Nat):∀m,m≤need-1->dS aU L j x need m=nc (fun t=>eG (aU.getD ((need-1-m+t)*L+j) 0) (xW x (t+1))) m
 | 0,_=>rfl
 | m+1,h=>by
  rw [dS,H6 aU L j x need m aj,iE,y9,tt,UInt8.xor_comm]
  congr 1
  ·rw [Nat.add_zero,rk,xW,Hw,show need-1-m-1=need-1-(m+1) by omega]
  ·refine tu fun i hi=>?_
   rw [CB,←rk,show need-1-m+i=need-1-(m+1)+(i+1) by omega]
theorem Hr (aU:List UInt8) (L j:Nat) (x c:UInt8):∀d,tZ aU L j x c d=(c^^^nc (fun t=>eG (aU.getD (t*L+j) 0) (xW x (t+1))) d,xW x d)
 | 0=>by simp [tZ,nc,xW]
 | d+1=>by rw [tZ,Hr aU L j x c d,nc];simp only [zx,rk,UInt8.xor_assoc]
theorem BQ (s r:List UInt8) (need:Nat) (x:UInt8) (j:Nat):gE s r need x j=BI s r need x j:=by
 rw [gE,BI,Hr,H6 _ _ _ _ _ _ (Nat.le_refl _),UInt8.xor_comm]
 simp only [Nat.sub_self,Nat.zero_add]
theorem BP (s r:List UInt8) (need n:Int):fO s r need n=iM s r need n:=by
 unfold fO iM jv G0 DU xc
 split
 ·refine List.map_congr_left fun i _=>?_
  congr 1
  exact List.map_congr_left fun j _=>BQ ..
 ·rfl
theorem xl (ar aU:List UInt8) (need n:Int):bL Tryz.prog 119 [.sl 1 (ag ar),.sl 1 (ag aU),ai need,ai n] (.bt [.own 2 (ae dI (fO ar aU need n)),ai (du ar aU need n)]):=by
 refine zO Tryz.func119 91 ?_
 by_cases hl:64<ar.length
 ·have e1:du ar aU need n=8:=by simp [du,hl]
  refine zq<|zS<|zB 0<|zP 1 [yH [(1,{k:=ar.length})]] [.aa [17,9,8,0,1,2,3] []] [yI (aA ar)]<|gU 17 ((↑ar.length:Int)>64)<|zq<|zR<|a6<|aI (zV [yB (ae dI (fO ar aU need n)= []) (by rw [fO,e1];rfl),yJ 8 (du ar aU need n) (by rw [e1])])
 by_cases h1:need<1
 ·have e1:du ar aU need n=9:=by simp [du,hl,h1]
  refine zq<|zS<|zB 0<|zP 1 [yH [(1,{k:=ar.length})]] [.aa [17,9,8,0,1,2,3] []] [yI (aA ar)]<|dt 17 ((↑ar.length:Int)>64)<|zP 1 [{}] [.aa [21,17,9,8,0,1,2,3] []] (yM 4 (yT (need<1))++yM 3 (yR true))<|zT 21<|zq<|zR<|a6<|aI (zV [yB (ae dI (fO ar aU need n)= []) (by rw [fO,e1];rfl),yJ 9 (du ar aU need n) (by rw [e1])])
 by_cases h2:n<need
 ·have e1:du ar aU need n=9:=by simp [du,hl,h2]
  refine zq<|zS<|zB 0<|zP 1 [yH [(1,{k:=ar.length})]] [.aa [17,9,8,0,1,2,3] []] [yI (aA ar)]<|dt 17 ((↑ar.length:Int)>64)<|zP 1 [yH ([(6,{b:=false})]++yg [3,4,5])] [.aa [21,17,9,8,0,1,2,3] []] (yM 4 (yF (need<1))++yM 3 (yT (n<need)))<|zT 21<|zq<|zR<|a6<|aI (zV [yB (ae dI (fO ar aU need n)= []) (by rw [fO,e1];rfl),yJ 9 (du ar aU need n) (by rw [e1])])
 by_cases h3:255<n
 ·have e1:du ar aU need n=9:=by simp [du,hl,h3]
  refine zq<|zS<|zB 0<|zP 1 [yH [(1,{k:=ar.length})]] [.aa [17,9,8,0,1,2,3] []] [yI (aA ar)]<|dt 17 ((↑ar.length:Int)>64)<|zP 1 [yH ([(6,{b:=false}),(10,{b:=false})]++yg [3,4,5,8,9])] [.aa [21,17,9,8,0,1,2,3] []] (yM 4 (yF (need<1))++yM 3 (yF (n<need)))<|gU 21 (n>255)<|zq<|zR<|a6<|aI (zV [yB (ae dI (fO ar aU need n)= []) (by rw [fO,e1];rfl),yJ 9 (du ar aU need n) (by rw [e1])])
 obtain ⟨N,rfl⟩:=Int.eq_ofNat_of_zero_le (by omega:0≤need)
 obtain ⟨M,rfl⟩:=Int.eq_ofNat_of_zero_le (by omega:0≤n)
 have hp:((N:Int)-1)*ar.length≤254*64:=Int.mul_le_mul aj aj aj aj
 have VQ:0≤((N:Int)-1)*ar.length:=Int.mul_nonneg aj aj
 by_cases h4:(aU.length:Int)<((N:Int)-1)*ar.length
 ·have e1:du ar aU N M=1:=by simp [du,hl,h1,h2,h3,h4]
  refine zq<|zS<|zB 0<|zP 1 [yH [(1,{k:=ar.length})]] [.aa [17,9,8,0,1,2,3] []] [yI (aA ar)]<|dt 17 ((↑ar.length:Int)>64)<|zP 1 [yH ([(6,{b:=false}),(10,{b:=false})]++yg [3,4,5,8,9])] [.aa [21,17,9,8,0,1,2,3] []] (yM 4 (yF ((↑N:Int)<1))++yM 3 (yF ((↑M:Int)<(↑N:Int))))<|dt 21 ((↑M:Int)>255)<|zP 1 [yH [(1,{k:=aU.length}),(3,yV (ai ((↑N:Int)-1))),(5,{k:=ar.length}),(6,yV (ai (((↑N:Int)-1)*(↑ar.length:Int))))]] [.aa [33,21,17,9,8,0,1,2,3] []] [yI (aA aU),yN ((↑N:Int)-1),yI (aA ar),yN (((↑N:Int)-1)*(↑ar.length:Int))]<|gU 33 ((↑aU.length:Int)<((↑N:Int)-1)*(↑ar.length:Int))<|zq<|zR<|a6<|aI (zV [yB (ae dI (fO ar aU (↑N:Int) (↑M:Int))= []) (by rw [fO,e1];rfl),yJ 1 (du ar aU (↑N:Int) (↑M:Int)) (by rw [e1])])
 have e0:du ar aU N M=0:=by simp [du,hl,h1,h2,h3,h4]
 refine zq<|zS<|zB 0<|zP 1 [yH [(1,{k:=ar.length})]] [.aa [17,9,8,0,1,2,3] []] [yI (aA ar)]<|dt 17 ((↑ar.length:Int)>64)<|zP 1 [yH ([(6,{b:=false}),(10,{b:=false})]++yg [3,4,5,8,9])] [.aa [21,17,9,8,0,1,2,3] []] (yM 4 (yF ((↑N:Int)<1))++yM 3 (yF ((↑M:Int)<(↑N:Int))))<|dt 21 ((↑M:Int)>255)<|zP 1 [yH [(1,{k:=aU.length}),(3,yV (ai ((↑N:Int)-1))),(5,{k:=ar.length}),(6,yV (ai (((↑N:Int)-1)*(↑ar.length:Int))))]] [.aa [33,21,17,9,8,0,1,2,3] []] [yI (aA aU),yN ((↑N:Int)-1),yI (aA ar),yN (((↑N:Int)-1)*(↑ar.length:Int))]<|dt 33 ((↑aU.length:Int)<((↑N:Int)-1)*(↑ar.length:Int))<|zK<|aL<|aq<|zq<|zS<|zq<|zB 1 (zL (fun (i:Nat)=>(⟨[(0,AV.sl 1 (ag ar)),(1,AV.sl 1 (ag aU)),(2,ai ↑N),(3,ai ↑M),(10,AV.ref 89),(11,ai ((i:Int)+1))],[(89,⟨2,true,false,ae dI ((List.range i).map (jv ar aU N))⟩)]⟩:AS)) (fun i=>(i≤M)) (fun i=>(M-i)) (0) ?_ (zW [.nil 10 89 2,.aa [0,1,2,3,10,11] [89]]) ?_)
 ·omega
 intro i hi
 refine zS<|zP 1 [{}] [.aa [44,0,1,2,3,10,11] [89]] [] (zD 44 ((↑i:Int)+1≤(↑M:Int)) (fun hc=>?_) (fun hc=>?_))
 ·skip
  refine a_<|zS<|zB 2<|zq<|zS<|zq<|zB 3 (zL (fun (j:Nat)=>(⟨[(0,AV.sl 1 (ag ar)),(1,AV.sl 1 (ag aU)),(2,ai ↑N),(3,ai ↑M),(10,AV.ref 89),(11,ai ((↑i:Int)+1)),(12,AV.ref 83),(13,ai j)],[(89,⟨2,true,false,ae dI (List.map (jv ar aU N) (List.range i))⟩),(83,⟨1,true,false,ag ((List.range j).map (gE ar aU N (u8 (i+1))))⟩)]⟩:AS)) (fun j=>(j≤ar.length)) (fun j=>(ar.length-j)) (0) ?_ (zW [.nil 12 83 1,.aa [0,1,2,3,10,11,12,13] [89,83]]) ?_)
  ·omega
  intro j hj
  refine zS<|zP 1 [yH [(2,{k:=ar.length})]] [.aa [50,0,1,2,3,10,11,12,13] [89,83]] [yI (aA ar)] (zD 50 ((↑j:Int)<(↑ar.length:Int)) (fun h5=>?_) (fun h5=>?_))
  ·skip
   refine a_<|zS<|zB 4<|zP 1 [yH [(2,{k:=j}),(3,yV (ab (ar.getD j 0)))]] [.aa [15,14,50,0,1,2,3,10,11,12,13] [89,83]] [yR (↑j:Int),yB (j<(ag ar).length) (by simp only [aA];omega),yB ((ag ar)[j]?=some (ab (ar.getD j 0))) (ot aj)]<|zS<|zq<|zB 5 (zL (fun (d:Nat)=>(⟨[(0,AV.sl 1 (ag ar)),(1,AV.sl 1 (ag aU)),(2,ai ↑N),(3,ai ↑M),(10,AV.ref 89),(11,ai ((↑i:Int)+1)),(12,AV.ref 83),(13,ai ↑j),(14,ab (tZ aU ar.length j (u8 (i+1)) (ar.getD j 0) d).1),(15,ab (tZ aU ar.length j (u8 (i+1)) (ar.getD j 0) d).2),(16,ai ((d:Int)+1))],[(89,⟨2,true,false,ae dI (List.map (jv ar aU N) (List.range i))⟩),(83,⟨1,true,false,ag (List.map (gE ar aU N (u8 ((↑i:Int)+1))) (List.range j))⟩)]⟩:AS)) (fun d=>(d≤N-1)) (fun d=>(N-1-d)) (0) ?_ (zW [.aa [0,1,2,3,10,11,12,13,14,15,16] [89,83]]) ?_)
   ·omega
   intro d hd
   refine zS<|zP 1 [{}] [.aa [59,0,1,2,3,10,11,12,13,14,15,16] [89,83]] [] (zD 59 ((↑d:Int)+1<(↑N:Int)) (fun h6=>?_) (fun h6=>?_))
   ·have hN:d+1≤N-1:=aj
    have hk:((d:Int)+1-1)*ar.length=((d*ar.length:Nat):Int):=by
     rw [Int.natCast_mul,show (d:Int)+1-1=d by omega]
    have hb:=Nat.mul_le_mul_right ar.length hN
    rw [Nat.add_mul,Nat.one_mul] at hb
    have Ty:(((N-1)*ar.length:Nat):Int)=((N:Int)-1)*ar.length:=by rw [Int.natCast_mul,show ((N-1:Nat):Int)=(N:Int)-1 by omega]
    have Gw:d+1-1=d:=aj
    have r9:((d:Int)+1-1)*ar.length+j=(((d+1-1)*ar.length+j:Nat):Int):=by rw [hk,Gw];omega
    have dj:(d+1-1)*ar.length+j<aU.length:=by rw [Gw];omega
    refine a_<|zS<|zB 6<|zP 1 [yH [(2,yV (ab (u8 ((↑i:Int)+1)))),(3,yV (ab (kF (tZ aU ar.length j (u8 ((↑i:Int)+1)) (ar.getD j 0) d).snd (u8 ((↑i:Int)+1)))))]] [.aa [15,59,0,1,2,3,10,11,12,13,14,16] [89,83]] [yI (i3 ((↑i:Int)+1)),yI (tV ((tZ aU ar.length j (u8 ((↑i:Int)+1)) (ar.getD j 0) d).snd) (u8 ((↑i:Int)+1)))]<|zX (yH [(3,yV (ai ((↑d:Int)+1-1))),(5,{k:=ar.length}),(6,yV (ai (((↑d:Int)+1-1)*(↑ar.length:Int)))),(8,yV (ai (((↑d:Int)+1-1)*(↑ar.length:Int)+(↑j:Int)))),(9,{k:=(d+1-1)*ar.length+j}),(10,yV (ab (aU.getD ((d+1-1)*ar.length+j) 0))),(12,yV (ab (kF (aU.getD ((d+1-1)*ar.length+j) 0) (kF (tZ aU ar.length j (u8 ((↑i:Int)+1)) (ar.getD j 0) d).snd (u8 ((↑i:Int)+1)))))),(13,yV (ab ((tZ aU ar.length j (u8 ((↑i:Int)+1)) (ar.getD j 0) d).fst^^^kF (aU.getD ((d+1-1)*ar.length+j) 0) (kF (tZ aU ar.length j (u8 ((↑i:Int)+1)) (ar.getD j 0) d).snd (u8 ((↑i:Int)+1))))))]) [yN ((↑d:Int)+1-1),yI (aA ar),yN (((↑d:Int)+1-1)*(↑ar.length:Int)),yN (((↑d:Int)+1-1)*(↑ar.length:Int)+(↑j:Int)),yI r9,yB ((d+1-1)*ar.length+j<(ag aU).length) (by simp only [aA];omega),yB ((ag aU)[(d+1-1)*ar.length+j]?=some (ab (aU.getD ((d+1-1)*ar.length+j) 0))) (ot aj),yI (tV (aU.getD ((d+1-1)*ar.length+j) 0) (kF (tZ aU ar.length j (u8 ((↑i:Int)+1)) (ar.getD j 0) d).snd (u8 ((↑i:Int)+1)))),yI (EJ ((tZ aU ar.length j (u8 ((↑i:Int)+1)) (ar.getD j 0) d).fst) (kF (aU.getD ((d+1-1)*ar.length+j) 0) (kF (tZ aU ar.length j (u8 ((↑i:Int)+1)) (ar.getD j 0) d).snd (u8 ((↑i:Int)+1)))))]<|aL<|aq<|zX (yH [(1,yV (ai ((↑d:Int)+1+1)))]) [yN ((↑d:Int)+1+1)] (aK (d+1) hN aj (zW [.aa [0,1,2,3,10,11,12,13,14,15,16] [89,83]]))
   ·have e6:d=N-1:=aj
    subst e6
    refine zE 5<|ba<|aS<|br<|aq<|zX (yH [(2,yV (AV.arr (ag [(tZ aU ar.length j (u8 ((↑i:Int)+1)) (ar.getD j 0) (N-1)).fst]))),(3,yV (AV.arr (ag (List.map (gE ar aU N (u8 ((↑i:Int)+1))) (List.range j)++ [(tZ aU ar.length j (u8 ((↑i:Int)+1)) (ar.getD j 0) (N-1)).fst]))))]) [yR [ab ((tZ aU ar.length j (u8 ((↑i:Int)+1)) (ar.getD j 0) (N-1)).fst)],yB (ag (List.map (gE ar aU N (u8 ((↑i:Int)+1))) (List.range j))++ag [(tZ aU ar.length j (u8 ((↑i:Int)+1)) (ar.getD j 0) (N-1)).fst]=ag (List.map (gE ar aU N (u8 ((↑i:Int)+1))) (List.range j)++ [(tZ aU ar.length j (u8 ((↑i:Int)+1)) (ar.getD j 0) (N-1)).fst])) (da _ _),yB (((ag (List.map (gE ar aU N (u8 ((↑i:Int)+1))) (List.range j))).length+1)*1≤140737488355328) (by simp only [aA,List.length_map,List.length_range];omega)]<|aL<|aq<|zX (yH [(1,yV (ai ((↑j:Int)+1)))]) [yN ((↑j:Int)+1)] (aK (j+1) aj aj (eQ [.aa [0,1,2,3,10,11,12,13] [89,83]] [] [83] [yB (ag (List.map (gE ar aU N (u8 ((↑i:Int)+1))) (List.range j)++ [(tZ aU ar.length j (u8 ((↑i:Int)+1)) (ar.getD j 0) (N-1)).fst])=ag (List.map (gE ar aU N (u8 ((↑i:Int)+1))) (List.range (j+1)))) (congrArg ag (tY (gE ar aU N (u8 (i+1))) j))]))
  ·have e6:j=ar.length:=aj
   subst e6
   refine zE 3<|ba<|aS<|br<|aq<|zX {} [yB (((ae dI (List.map (jv ar aU N) (List.range i))).length+2)*32≤281474976710656) (by simp only [List.length_map,List.length_range,aG (f:=dI) (e:=2) (fun _=>rfl)];omega)]<|aL<|aq<|zX (yH [(1,yV (ai ((↑i:Int)+1+1)))]) [yN ((↑i:Int)+1+1)] (aK (i+1) aj aj (eQ [.aa [0,1,2,3,10,11] [89]] [] [89] [yB (ae dI (List.map (jv ar aU N) (List.range i))++ [ai ((↑i:Int)+1),AV.sl 1 (ag (List.map (gE ar aU N (u8 ((↑i:Int)+1))) (List.range ar.length)))]=ae dI (List.map (jv ar aU N) (List.range (i+1)))) (F7 (f:=dI) (jv ar aU N) i)]))
 ·have e8:i=M:=aj
  subst e8
  refine zE 1<|ba<|aS<|br<|aq<|zq<|zR (zV [yB (ae dI (List.map (jv ar aU N) (List.range i))=ae dI (fO ar aU (↑N:Int) (↑i:Int))) (by simp [fO,e0]),yJ 0 (du ar aU (↑N:Int) (↑i:Int)) (by rw [e0])])
theorem xk (ar aU:List UInt8) (need n:Int):bL Tryz.prog 119 [.sl 1 (ag ar),.sl 1 (ag aU),ai need,ai n] (.bt [.own 2 (ae dI (iM ar aU need n)),ai (du ar aU need n)]):=by
 rw [←BP];exact xl ar aU need n
def ff (E:Nat->Int):Nat->Int
 | 0=>0
 | n+1=>if ff E n≠0 then ff E n else E n
theorem lg {E:Nat->Int} {m:Nat} {e:Int} (he:e≠0) (h:ff E m=e):∀n,m≤n->ff E n=e
 | 0,hn=>by
  have:m=0:=aj
  subst this;exact h
 | n+1,hn=>by
  by_cases hm:m=n+1
  ·subst hm;exact h
  ·have:=lg he h n aj
   unfold ff
   rw [this,if_pos he]
def eg (x:List UInt8):Int:=if x.length<1∨32<x.length then 9 else if Lib.validD x=false then 6 else 0
def Fq (a b:List UInt8):Bool:=Op.bytesLess (⟨a.toArray⟩:ByteArray).toList (⟨b.toArray⟩:ByteArray).toList || (⟨a.toArray⟩:ByteArray).toList == (⟨b.toArray⟩:ByteArray).toList
def mF (l:List (List UInt8)) (i:Nat):Int:=if eg (l.getD i default)≠0 then eg (l.getD i default) else if 0<i∧Fq (l.getD i default) (l.getD (i-1) default)=true then 7 else 0
theorem pW {x:List UInt8} (h:x.length<1∨32<x.length):eg x=9:=by unfold eg;rw [if_pos h]
theorem xz {x:List UInt8} (h:¬(x.length<1∨32<x.length)) (hv:Lib.validD x=false):eg x=6:=by unfold eg;rw [if_neg h,if_pos hv]
theorem D7 {x:List UInt8} (h:¬(x.length<1∨32<x.length)) (hv:Lib.validD x=true):eg x=0:=by unfold eg;rw [if_neg h,if_neg (by simp [hv])]
theorem Im {l:List (List UInt8)} {i:Nat} {e:Int} (h:eg (l.getD i default)=e) (he:e≠0):mF l i=e:=by unfold mF;rw [if_pos aj,h]
theorem Il {l:List (List UInt8)} {i k:Nat} (h:eg (l.getD i default)=0) (hk:k+1=i):mF l i=if Fq (l.getD i default) (l.getD k default)=true then 7 else 0:=by
 unfold mF
 subst hk
 rw [if_neg aj,Nat.add_sub_cancel]
 by_cases hc:Fq (l.getD (k+1) default) (l.getD k default)=true
 ·rw [if_pos ⟨aj,hc⟩,if_pos hc]
 ·rw [if_neg (fun h=>hc h.2),if_neg hc]
theorem Er {l:List (List UInt8)} (h:eg (l.getD 0 default)=0):mF l 0=0:=by unfold mF;rw [if_neg aj,if_neg (fun h=>aj)]
def nP (n:Nat) (need:Int):Prop:=n<1∨8<n∨need<1∨(n:Int)<need
instance (n:Nat) (need:Int):Decidable (nP n need):=inferInstanceAs (Decidable (_∨_∨_∨_))
def qT (l:List (List UInt8)) (need:Int):Int:=if nP l.length need then 9 else ff (mF l) l.length
def J_ (seed:UInt64) (aW:Int):UInt64:=derive seed [100,101,112,111,115,105,116] aW
def G7 (seed:UInt64) (aW:Int) (n:Nat) (need:Int):List Sh:=iM (words [J_ seed aW]) (stream (derive seed [115,104,97,114,101,115] aW) 0 (8*(need-1))) need n
def sy (seed:UInt64) (aW:Int) (l:List (List UInt8)) (need:Int):List (List UInt8):=if qT l need=0 then (List.range l.length).map (fun i=>((G7 seed aW l.length need).getD i default).2) else []
def fI (seed:UInt64) (aW:Int) (l:List (List UInt8)) (need:Int):na :=
 if qT l need=0 then ⟨Ae (J_ seed aW),0,[],l,(List.range l.length).map (fun i=>oB (l.getD i default) ((G7 seed aW l.length need).getD i default).2),need,0⟩ else default
def P9 (d:na):List AV:=[aw d.bZ,aw d.peer,.own 1 (ag d.box),.own 1 (ae ay d.af),.own 1 (ah d.au),ai d.need,aw d.target]
def part {T:Type} (f:Nat->T) (z:T) (n i:Nat):List T:=(List.range n).map fun k=>if k<i then f k else z
def mu (m:UInt64) (k:Nat):Nat:=m.toNat/2^(60-4*k)%16
def bl (m:UInt64):Nat->Nat
 | 0=>0
 | k+1=>bl m k+(15-mu m k)
def ct (m:UInt64):List Int:=(List.range 16).map (fun k=>(mu m k:Int))++ [((bl m 16/16:Nat):Int),((bl m 16%16:Nat):Int)]
theorem Ca (m:UInt64) (k:Nat):mu m k<16:=Nat.mod_lt _ (by decide)
theorem qZ (m:UInt64) (k:Nat):bl m k≤15*k:=by
 induction k with
 | zero=>simp [bl]
 | succ k ih=>simp only [bl];omega
theorem nO (m:UInt64):(ct m).length=18:=by simp [ct]
def ir (m:UInt64) (k:Nat):List Int:=(List.range k).map fun j=>(mu m j:Int)
theorem Bd (m:UInt64) (k:Nat):ir m (k+1)=ir m k++ [(mu m k:Int)]:=by simp [ir,List.range_succ]
theorem De (m:UInt64) (k:Nat):(ir m k).length=k:=by simp [ir]
theorem Lf (m:UInt64):ct m=ir m 16++ [((bl m 16/16:Nat):Int),((bl m 16%16:Nat):Int)]:=rfl
def OH (leaf chain:Int) (p:Int) (x:UInt64):UInt64:=hash 1 (words [u64 leaf,u64 chain,u64 p,x])
def jG (leaf chain:Int) (p:Int) (x:UInt64):Nat->UInt64
 | 0=>x
 | n+1=>OH leaf chain (p+n) (jG leaf chain p x n)
theorem wm (leaf chain:Int) (p:Int) (x:UInt64) (n:Nat):jG leaf chain p x (n+1)=hash 1 (words [u64 leaf,u64 chain,u64 (p+n),jG leaf chain p x n]):=rfl
def run (leaf chain src dst:Int) (x:UInt64):UInt64:=jG leaf chain (max src 0) x (min dst 15-max src 0).toNat
theorem Hc (leaf chain p:Int) (x:UInt64) (a b:Nat):jG leaf chain p x (a+b)=jG leaf chain (p+a) (jG leaf chain p x a) b:=by
 induction b with
 | zero=>rfl
 | succ b ih =>
  show jG leaf chain p x (a+b+1)=_
  rw [wm,wm,ih,show p+((a+b:Nat):Int)=p+a+b by omega]
theorem E3 (leaf chain p q r:Int) (x:UInt64) (h0:0≤p) (h1:p≤q) (h2:q≤r) (hp:p≤15):run leaf chain p r x=run leaf chain q r (run leaf chain p q x):=by
 unfold run
 rw [show max p 0=p by omega,show max q 0=q by omega]
 by_cases hq:q≤15
 ·have e:(min r 15-p).toNat=(q-p).toNat+(min r 15-q).toNat:=aj
  rw [e,Hc,show min q 15=q by omega,show p+((q-p).toNat:Int)=q by omega]
 ·rw [show (min r 15-q).toNat=0 by omega,show min r 15=15 by omega,show min q 15=15 by omega];rfl
def ar (seed:UInt64) (leaf c:Int):UInt64:=yX seed 1 (words [u64 leaf,u64 c])
def combine (leaf:Int) (l:List UInt64):UInt64:=hash 2 (words (u64 leaf::l))
def bG (seed:UInt64) (leaf:Int) (n:Nat):List UInt64:=(List.range n).map fun (i:Nat)=>run leaf i 0 15 (ar seed leaf i)
def bU (seed:UInt64) (leaf:Int) (m:UInt64) (n:Nat):List UInt64:=(List.range n).map fun (i:Nat)=>run leaf i 0 ((ct m).getD i 0) (ar seed leaf i)
def cO (leaf:Int) (m:UInt64) (s:List UInt64) (n:Nat):List UInt64:=(List.range n).map fun (i:Nat)=>run leaf i ((ct m).getD i 0) 15 (s.getD i 0)
theorem rW (seed:UInt64) (leaf:Int) (n:Nat):(bG seed leaf n).length=n:=by simp [bG]
theorem qM (seed:UInt64) (leaf:Int) (m:UInt64) (n:Nat):(bU seed leaf m n).length=n:=by simp [bU]
theorem Ab (leaf:Int) (m:UInt64) (s:List UInt64) (n:Nat):(cO leaf m s n).length=n:=by simp [cO]
theorem xw (seed:UInt64) (leaf:Int) (n:Nat):bG seed leaf (n+1)=bG seed leaf n++ [run leaf n 0 15 (ar seed leaf n)]:=by simp [bG,List.range_succ]
theorem BL (seed:UInt64) (leaf:Int) (m:UInt64) (n:Nat):bU seed leaf m (n+1)=bU seed leaf m n++ [run leaf n 0 ((ct m).getD n 0) (ar seed leaf n)]:=by simp [bU,List.range_succ]
theorem Fa (leaf:Int) (m:UInt64) (s:List UInt64) (n:Nat):cO leaf m s (n+1)=cO leaf m s n++ [run leaf n ((ct m).getD n 0) 15 (s.getD n 0)]:=by simp [cO,List.range_succ]
theorem Lg (m:UInt64) (i:Nat):0≤(ct m).getD i 0∧(ct m).getD i 0≤15:=by
 have hs:=qZ m 16
 by_cases h:i<16
 ·have:=Ca m i
  have e:(ct m).getD i 0=(mu m i:Int):=by simp [ct,List.getElem?_append,h]
  omega
 ·by_cases So:i=16
  ·subst So
   have e:(ct m).getD 16 0=((bl m 16/16:Nat):Int):=by simp [ct]
   omega
  ·by_cases Vq:i=17
   ·subst Vq
    have e:(ct m).getD 17 0=((bl m 16%16:Nat):Int):=by simp [ct]
    omega
   ·have e:(ct m).getD i 0=0:=by
     rw [List.getD_eq_getElem?_getD,List.getElem?_eq_none (by rw [nO];omega)];rfl
    omega
theorem Hm (seed:UInt64) (leaf:Int) (m:UInt64):cO leaf m (bU seed leaf m 18) 18=bG seed leaf 18:=by
 unfold cO bG
 apply List.map_congr_left
 intro i hi
 have jk:=List.mem_range.1 hi
 have hb:=Lg m i
 have e:(bU seed leaf m 18).getD i 0=run leaf i 0 ((ct m).getD i 0) (ar seed leaf i):=by simp [bU,jk]
 rw [e,←E3 leaf i 0 _ 15 _ aj hb.1 hb.2 aj]
def iY (m:UInt64) (k:Nat):List Int:=(List.range 18).map fun j=>if j<k then (mu m j:Int) else 0
theorem Jf (m:UInt64) (k:Nat):(iY m k).length=18:=by simp [iY]
theorem Lh (m:UInt64) (k j:Nat) (hj:j<18):(iY m k).getD j 0=if j<k then (mu m j:Int) else 0:=by
 rw [List.getD_eq_getElem?_getD];simp [iY,hj]
theorem Je (m:UInt64) (k:Nat):(iY m k).set k (mu m k:Int)=iY m (k+1):=by
 apply List.ext_getElem (by simp [iY])
 intro j h1 h2
 rw [List.getElem_set]
 simp only [iY,List.getElem_map,List.getElem_range]
 by_cases hk:k=j
 ·subst hk;rw [if_pos rfl,if_pos aj]
 ·rw [if_neg hk]
  by_cases h:j<k
  ·rw [if_pos h,if_pos aj]
  ·rw [if_neg h,if_neg aj]
theorem Jg (m:UInt64):((iY m 16).set 16 ((bl m 16/16:Nat):Int)).set 17 ((bl m 16%16:Nat):Int)=ct m:=by
 simp [iY,ct,List.range_succ]
def cT (n:Nat) (l:List UInt64) (k:Nat):List UInt64:=l.take k++List.replicate (n-k) 0
theorem kt {n k:Nat} {l:List UInt64} (hl:l.length=n) (hk:k≤n):(cT n l k).length=n:=by simp [cT];omega
theorem kQ {n:Nat} {l:List UInt64} (hl:l.length=n):cT n l n=l:=by simp [cT,←hl]
theorem l7 {n k:Nat} {l:List UInt64} (hl:l.length=n) (hk:k<n):(cT n l k).set k (l.getD k 0)=cT n l (k+1):=by
 apply List.ext_getElem (by simp [cT];omega)
 intro j h1 h2
 have hj:j<n:=by rw [List.length_set,kt hl aj] at h1;exact h1
 rw [List.getElem_set]
 by_cases h:k=j
 ·subst h
  simp [cT,hl,hk,List.getElem_append]
  omega
 ·rw [if_neg h]
  simp only [cT,List.getElem_append,List.length_take,hl]
  by_cases vH:j<k
  ·simp [show j<min k n by omega,show j<min (k+1) n by omega]
  ·simp [show ¬j<min k n by omega,show ¬j<min (k+1) n by omega]
theorem G4 (seed:UInt64) (leaf:Int) (m:UInt64) (i:Nat) (h:i<18):(bU seed leaf m 18).getD i 0=run leaf i 0 ((ct m).getD i 0) (ar seed leaf i):=by simp [bU,h]
theorem Kj (leaf:Int) (m:UInt64) (s:List UInt64) (i:Nat) (h:i<18):(cO leaf m s 18).getD i 0=run leaf i ((ct m).getD i 0) 15 (s.getD i 0):=by simp [cO,h]
theorem B5 (seed:UInt64) (leaf:Int) (i:Nat) (h:i<18):(bG seed leaf 18).getD i 0=run leaf i 0 15 (ar seed leaf i):=by simp [bG,h]
theorem D8 (m:UInt64) (k:Nat) (hk:k≤15):wv ((m>>>UInt64.ofNat (60-4*k))&&&15)=(mu m k:Int):=by
 unfold wv mu
 rw [UInt64.toNat_and,UInt64.toNat_shiftRight,UInt64.toNat_ofNat_of_lt' (by show _<2^64;omega),Nat.mod_eq_of_lt aj,Nat.shiftRight_eq_div_pow]
 rw [show (15:UInt64).toNat=2^4-1 from rfl,Nat.and_two_pow_sub_one_eq_mod]
end Go.Proofs.YtjgbhhnghedgdaaGreatDoor
