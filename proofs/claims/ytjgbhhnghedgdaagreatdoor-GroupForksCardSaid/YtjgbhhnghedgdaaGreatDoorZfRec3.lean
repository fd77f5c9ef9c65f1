import Derived.Test.YtjgbhhnghedgdaaGreatDoorZfEx3
import Derived.Test.YtjgbhhnghedgdaaGreatDoorZfRN
import Derived.StillTailTactics
import Derived.Deep.RegionWith
import Derived.Deep.DeepCutAuto
set_option linter.all false
namespace Go.Proofs.YtjgbhhnghedgdaaGreatDoor
open Go.RowKit
set_option maxRecDepth 100000
set_option maxHeartbeats 4000000
def wN (r:List UInt8):List AV:=[.sl 1 (ah r)]
theorem xk.qF (w:World) (e:TypeId):xk (w.alloc (.cells #[] e)) w.heap.size (.slice (some ⟨w.heap.size,0,none⟩) 0 0) [] :=
 .inr ⟨w.heap.size,0,#[],e,(0,0),rfl,Nat.le_refl _,heap_alloc_new w _,by simp,by simp,rfl,rfl,by simp⟩
theorem kR {P:Program} {w:World} {t e:TypeId} (ht:P.underlying t=some (.slice e)) (A:Option Addr) (n c:Nat):(binOp .eql t (.slice A n c) (.slice none 0 0)).run P w= .ok (.bool A.isNone) w:=by
 have key:∀d,(Op.equalIn (d+1) t (.slice A n c) (.slice none 0 0)).run P w= .ok A.isNone w:=by
  intro d
  unfold Op.equalIn
  cases A<;>simp [run_underlying ht]
 show (Op.equalIn (9999+1) t (.slice A n c) (.slice none 0 0) >>= fun b=>pure (Value.bool b)).run P w=_
 rw [Sem.run_bind,key 9999]
 rfl
theorem HI (v:Value) (l:List UInt8) (w:World) (h:jg w v (tB l)) (hl:l.length≤70368744177664) :
  Calls Tryz.prog 100 #[v] w fun e w'=>rz w e w' l:=by
 have h':=h
 obtain ⟨A,c,rfl,hc,hm,hr⟩:=h
 rcases A with _|ad
 ·have xc:l= []:=by
   rcases Nat.eq_zero_or_pos l.length with h0|h0
   ·exact List.length_eq_zero_iff.1 h0
   ·obtain ⟨ad,h,_⟩:=hr.2 (by rw [gE];exact h0)
    cases h
  subst xc
  have hq:= @kR Tryz.prog w 25 5 Tryz.underlying25 none (tB []).length c
  go_enter Tryz.func100,Tryz.ntmps100
  go_wp2
  go_ret
  exact ⟨_,rfl,.inl ⟨rfl,rfl⟩,Below.refl _ _⟩
 ·have UB:=Lib.hid h'
  clear h' hr
  have hq:= @kR Tryz.prog w 25 5 Tryz.underlying25 (some ad) (tB l).length c
  go_enter Tryz.func100,Tryz.ntmps100
  go_wp2_with (at_builtin;refine uC _ rfl _ _ 25 rfl E8 w.heap.size _ _ rfl (xk.qF w _) _ (tB l) rfl (UB.out.below ((Below.refl _ _).alloc (Nat.le_refl _) _)) (Ge _) (by rw [gE];simp;omega) (by simp) ?_;intro v2 w2 HY Rq _)
  go_ret
  exact ⟨_,rfl,by simpa using HY,((Below.refl w.heap.size w).alloc (Nat.le_refl _) _).Fa (xk.qF w _) Rq⟩
theorem HH (l:List UInt8) (hl:l.length≤70368744177664):bA Tryz.prog 100 [.sl 1 (ah l)] (.own 1 (ah l)):=by
 refine bA.BD fun w vs h1 hr=>?_
 obtain ⟨a,rfl⟩:=Gh h1 rfl
 exact HI a l w (xK (hr 0 a _ rfl rfl) fun _ h=>h) hl
def qj (us:List Value):List AV:=us.map AV.val
theorem mb (us:List Value):(qj us).length=us.length:=by simp [qj]
theorem II {S:Nat->Prop} {w:World} {v:Value} {bs:List Value} (h:cz S w v (.sl 1 (qj bs))) (hS:∀b,S b->b<w.heap.size):jg w v bs:=by
 cases h with
 | sl A n c e us row hl hn hc hm ha h =>
  have G4:us=bs:=by
   apply List.ext_getElem?
   intro j
   cases hu:us[j]? with
   | none =>
    have:us.length≤j:=List.getElem?_eq_none_iff.1 hu
    rw [List.getElem?_eq_none (by rw [mb] at hl;omega)]
   | some u =>
    have hj:j<bs.length:=by have:=(List.getElem?_eq_some_iff.1 hu).1;rw [hl,mb] at this;exact this
    have hx:(qj bs)[j]?=some (.val bs[j]):=by simp [qj,hj]
    have:=h j u _ hu hx
    cases this
    simp [hj]
  subst G4
  rw [mb] at hn ha
  have tJ:us.length=n:=ag
  subst tJ
  exact ⟨A,c,rfl,hc,hm,rfl,fun h0=>by
   obtain ⟨ad,e,hs,bt⟩:=ha h0
   exact ⟨ad,e,hS _ hs,bt⟩⟩
def Gk (w:World) (e:Ending) (w':World) (us:List Value):Prop:=∃v,e= .returned v∧xk w' w.heap.size v us∧Below w.heap.size w w'
theorem bA.LW {P:Program} {f:FuncId} {args:List AV} {us:List Value} (h:∀(w:World) (vs:List Value),vs.length=args.length->(∀(j:Nat) v x,vs[j]?=some v->args[j]?=some x->cz (fun b=>b<w.heap.size) w v x) ->
  Calls P f vs.toArray w fun e w'=>Gk w e w' us):bA P f args (.own 1 (qj us)):=by
 intro w S vs _ hS hl hr
 refine (h w vs hl fun j v x hv hx=>(hr j v x hv hx).mono fun b hb=>⟨hS b hb,rfl⟩).mono fun e w' ⟨v,he,ho,hb⟩=>?_
 rcases ho with ⟨rfl,hn⟩|⟨g,cap,cur,te,fr,rfl,B3,hg,G8,ue,x8,Np,gZ⟩
 ·subst hn
  exact ⟨_,[],he,hb,List.nodup_nil,by simp,.inl (.inl (.nil 1))⟩
 ·have cZ:g<w'.heap.size:=by
   rcases Nat.lt_or_ge g w'.heap.size with h|h
   ·exact h
   ·rw [Array.getElem?_eq_none h] at hg;cases hg
  refine ⟨_,[g],he,hb,by simp,by simp [B3,cZ],.inl (.inl (.own g _ cap 1 (qj us) cur te fr hg (fun j hj=>gZ j ag) (by rw [mb,Nat.one_mul]) G8 ue ag ?_))⟩
  intro j u x hu hx
  have hj:j<us.length:=by have:=(List.getElem?_eq_some_iff.1 hx).1;rwa [mb] at this
  have Le:x= .val us[j]:=by simp [qj,hj] at hx;exact hx.symm
  subst Le
  have Jy:us[j]?=some u:=by
   rw [←Np,List.getElem?_take_of_lt hj];simpa using hu
  have:u=us[j]:=by simp [hj] at Jy;exact Jy.symm
  subst this
  exact .val _
theorem Mb:(Tryz.prog.info? 9).map (fun i=>(i.zero,i.size,i.bytes))=some (some (.string ⟨#[]⟩),1,16):=by kernel_rfl
theorem UD:CU Tryz.prog 26 9 (.string ⟨#[]⟩) 16:=by
 obtain ⟨i,h,h1,h2,h3⟩:=info_parts Mb
 exact ⟨Tryz.underlying26,⟨i,h,h1,h2,h3⟩,rfl,by decide⟩
set_option maxRecDepth 100000 in
theorem Df (v:Value) (l:List Value) (w:World) (h:jg w v l) (h1:∀u∈l,u.oneCell'=true) (hl:l.length≤1000000) :
  Calls Tryz.prog 101 #[v] w fun e w'=>Gk w e w' l:=by
 have h':=h
 obtain ⟨A,c,rfl,hc,hm,hr⟩:=h
 rcases A with _|ad
 ·have xc:l= []:=by
   rcases Nat.eq_zero_or_pos l.length with h0|h0
   ·exact List.length_eq_zero_iff.1 h0
   ·obtain ⟨ad,h,_⟩:=hr.2 h0
    cases h
  clear h' hr
  have hq:= @kR Tryz.prog w 26 9 Tryz.underlying26 none l.length c
  have HL:=Lib.hid xc
  clear xc
  go_enter Tryz.func101,Tryz.ntmps101
  go_wp2
  go_ret
  exact ⟨_,rfl,.inl ⟨rfl,HL.out⟩,Below.refl _ _⟩
 ·have UB:=Lib.hid h'
  clear h' hr
  have hq:= @kR Tryz.prog w 26 9 Tryz.underlying26 (some ad) l.length c
  go_enter Tryz.func101,Tryz.ntmps101
  go_wp2_with (at_builtin;refine uC _ rfl _ _ 26 rfl UD w.heap.size _ _ rfl (xk.qF w _) _ l rfl (UB.out.below ((Below.refl _ _).alloc (Nat.le_refl _) _)) h1 (by simp;omega) (by simp) ?_;intro v2 w2 HY Rq _)
  go_ret
  exact ⟨_,rfl,by simpa using HY,((Below.refl w.heap.size w).alloc (Nat.le_refl _) _).Fa (xk.qF w _) Rq⟩
theorem De (l:List (List UInt8)) (hl:l.length≤1000000):bA Tryz.prog 101 [.sl 1 (ae (fun s=>[di s]) l)] (.own 1 (ae (fun s=>[di s]) l)):=by
 have e:ae (fun s:List UInt8=>[di s]) l=qj (l.map fun s=>.string ⟨s.toArray⟩):=by
  induction l with
  | nil=>rfl
  | cons x l ih=>rw [jA,ih (by simp at hl;omega)];rfl
 rw [e]
 refine bA.LW fun w vs h1 hr=>?_
 obtain ⟨a,rfl⟩:=Gh h1 rfl
 exact Df a _ w (II (hr 0 a _ rfl rfl) fun _ h=>h) (by simp [Value.oneCell']) (by simpa using hl)
def xt (a:UInt8):UInt8:=if a&&&128≠0 then (a<<<1)^^^27 else a<<<1
theorem qc (p:UInt8->Bool) (h:(List.range 256).all (fun n=>p (UInt8.ofNat n))=true) (a:UInt8):p a=true:=by
 rw [List.all_eq_true] at h
 have:=h a.toNat (List.mem_range.2 (UInt8.toNat_lt a))
 simpa using this
theorem CO (a b c:UInt8):(a^^^b)&&&c=(a&&&c)^^^(b&&&c):=by
 apply UInt8.toBitVec_inj.1;simp only [UInt8.toBitVec_and,UInt8.toBitVec_xor];ext i hi;simp;cases a.toBitVec[i]<;>cases b.toBitVec[i]<;>cases c.toBitVec[i]<;>rfl
theorem H5 (a b:UInt8):(a^^^b)<<<1=(a<<<1)^^^(b<<<1):=by
 apply UInt8.toBitVec_inj.1;simp [UInt8.toBitVec_shiftLeft,UInt8.toBitVec_xor,BitVec.shiftLeft_xor_distrib]
theorem H4 (a b:UInt8):(a^^^b)>>>1=(a>>>1)^^^(b>>>1):=by
 apply UInt8.toBitVec_inj.1;simp [UInt8.toBitVec_shiftRight,UInt8.toBitVec_xor,BitVec.ushiftRight_xor_distrib]
theorem SJ (a b c d:UInt8):(a^^^b)^^^(c^^^d)=(a^^^c)^^^(b^^^d):=by
 rw [UInt8.xor_assoc,UInt8.xor_assoc,←UInt8.xor_assoc b,UInt8.xor_comm b c,UInt8.xor_assoc c]
theorem B2 (a:UInt8):a&&&128=0∨a&&&128=128:=by
 have:=qc (fun a=>decide (a&&&128=0∨a&&&128=128)) (by decide +kernel) a
 exact of_decide_eq_true this
theorem vt (a:UInt8):a&&&1=0∨a&&&1=1:=by
 have:=qc (fun a=>decide (a&&&1=0∨a&&&1=1)) (by decide +kernel) a
 exact of_decide_eq_true this
theorem NJ (a b:UInt8):xt (a^^^b)=xt a^^^xt b:=by
 unfold xt
 rw [CO,H5]
 rcases B2 a with h|h<;>rcases B2 b with k|k<;>rw [h,k]<;>simp [UInt8.xor_assoc]
 ·rw [UInt8.xor_comm 27]
 ·rw [←UInt8.xor_assoc 27,UInt8.xor_comm 27,UInt8.xor_assoc];simp
theorem I8 (a b p:UInt8) (k:Nat):(bM ⟨a,b,p⟩ (k+1)).a=xt (bM ⟨a,b,p⟩ k).a:=rfl
theorem th (a c b p q:UInt8):∀k,bM ⟨a^^^c,b,p^^^q⟩ k=⟨(bM ⟨a,b,p⟩ k).a^^^(bM ⟨c,b,q⟩ k).a,(bM ⟨a,b,p⟩ k).b,(bM ⟨a,b,p⟩ k).p^^^(bM ⟨c,b,q⟩ k).p⟩∧(bM ⟨c,b,q⟩ k).b=(bM ⟨a,b,p⟩ k).b
 | 0=>⟨rfl,rfl⟩
 | k+1=>by
  obtain ⟨h,hb⟩:=th a c b p q k
  refine ⟨?_,?_⟩
  ·rw [bM,h]
   simp only [bM,vk,hb]
   have:=NJ (bM ⟨a,b,p⟩ k).a (bM ⟨c,b,q⟩ k).a
   unfold xt at this
   rw [this]
   congr 1
   split
   ·exact SJ _ _ _ _
   ·rfl
  ·simp only [bM,vk,hb]
theorem tg (a b c p q:UInt8):∀k,bM ⟨a,b^^^c,p^^^q⟩ k=⟨(bM ⟨a,b,p⟩ k).a,(bM ⟨a,b,p⟩ k).b^^^(bM ⟨a,c,q⟩ k).b,(bM ⟨a,b,p⟩ k).p^^^(bM ⟨a,c,q⟩ k).p⟩∧(bM ⟨a,c,q⟩ k).a=(bM ⟨a,b,p⟩ k).a
 | 0=>⟨rfl,rfl⟩
 | k+1=>by
  obtain ⟨h,hb⟩:=tg a b c p q k
  refine ⟨?_,?_⟩
  ·rw [bM,h]
   simp only [bM,vk,hb,H4,CO]
   congr 1
   rcases vt (bM ⟨a,b,p⟩ k).b with h1|h1<;>rcases vt (bM ⟨a,c,q⟩ k).b with h2|h2<;>rw [h1,h2]<;>simp [UInt8.xor_assoc]
   ·rw [UInt8.xor_comm (bM ⟨a,c,q⟩ k).p]
   ·rw [←UInt8.xor_assoc (bM ⟨a,b,p⟩ k).a,UInt8.xor_comm (bM ⟨a,b,p⟩ k).a (bM ⟨a,c,q⟩ k).p,UInt8.xor_assoc,UInt8.xor_self,UInt8.xor_zero]
  ·simp only [bM,vk,hb]
theorem iT (a c b:UInt8):eS (a^^^c) b=eS a b^^^eS c b:=by
 have:=(th a c b 0 0 8).1
 rw [UInt8.xor_self] at this
 unfold eS;rw [this]
theorem jx (a b c:UInt8):eS a (b^^^c)=eS a b^^^eS a c:=by
 have:=(tg a b c 0 0 8).1
 rw [UInt8.xor_self] at this
 unfold eS;rw [this]
theorem ru {f g:UInt8->UInt8} (hf:∀a b,f (a^^^b)=f a^^^f b) (hg:∀a b,g (a^^^b)=g a^^^g b) (h:∀i,i<8->f (UInt8.ofNat (2^i))=g (UInt8.ofNat (2^i))) (a:UInt8):f a=g a:=by
 have f0:f 0=0:=by have:=hf 0 0;rwa [UInt8.xor_self,UInt8.xor_self] at this
 have g0:g 0=0:=by have:=hg 0 0;rwa [UInt8.xor_self,UInt8.xor_self] at this
 have e:a=(((((((a&&&1)^^^(a&&&2))^^^(a&&&4))^^^(a&&&8))^^^(a&&&16))^^^(a&&&32))^^^(a&&&64))^^^(a&&&128):=by
  have:=qc (fun a=>decide (a=(((((((a&&&1)^^^(a&&&2))^^^(a&&&4))^^^(a&&&8))^^^(a&&&16))^^^(a&&&32))^^^(a&&&64))^^^(a&&&128))) (by decide +kernel) a
  exact of_decide_eq_true this
 have one:∀i,i<8->a&&&UInt8.ofNat (2^i)=0∨a&&&UInt8.ofNat (2^i)=UInt8.ofNat (2^i):=by
  intro i hi
  have:=qc (fun a=>decide (∀i,i<8->a&&&UInt8.ofNat (2^i)=0∨a&&&UInt8.ofNat (2^i)=UInt8.ofNat (2^i))) (by decide +kernel) a
  exact of_decide_eq_true this i hi
 have s:∀i,i<8->f (a&&&UInt8.ofNat (2^i))=g (a&&&UInt8.ofNat (2^i)):=by
  intro i hi
  rcases one i hi with h1|h1<;>rw [h1]
  ·rw [f0,g0]
  ·exact h i hi
 rw [e]
 simp only [hf,hg]
 rw [show f (a&&&1)=g (a&&&1) from s 0 ag,show f (a&&&2)=g (a&&&2) from s 1 ag,show f (a&&&4)=g (a&&&4) from s 2 ag,show f (a&&&8)=g (a&&&8) from s 3 ag,show f (a&&&16)=g (a&&&16) from s 4 ag,show f (a&&&32)=g (a&&&32) from s 5 ag,show f (a&&&64)=g (a&&&64) from s 6 ag,show f (a&&&128)=g (a&&&128) from s 7 ag]
theorem yb (a b:UInt8):eS a b=eS b a:=by
 refine ru (f:=fun a=>eS a b) (g:=fun a=>eS b a) (fun x y=>iT x y b) (fun x y=>jx b x y) (fun i hi=>?_) a
 refine ru (f:=fun b=>eS (UInt8.ofNat (2^i)) b) (g:=fun b=>eS b (UInt8.ofNat (2^i))) (fun x y=>jx _ x y) (fun x y=>iT x y _) (fun j hj=>?_) b
 have:∀i,i<8-> ∀j,j<8->eS (UInt8.ofNat (2^i)) (UInt8.ofNat (2^j))=eS (UInt8.ofNat (2^j)) (UInt8.ofNat (2^i)):=by decide +kernel
 exact this i hi j hj
theorem D0 (a b c:UInt8):eS (eS a b) c=eS a (eS b c):=by
 refine ru (f:=fun a=>eS (eS a b) c) (g:=fun a=>eS a (eS b c)) (fun x y=>by simp only [iT]) (fun x y=>by simp only [iT]) (fun i hi=>?_) a
 refine ru (f:=fun b=>eS (eS (UInt8.ofNat (2^i)) b) c) (g:=fun b=>eS (UInt8.ofNat (2^i)) (eS b c)) (fun x y=>by simp only [iT,jx]) (fun x y=>by simp only [iT,jx]) (fun j hj=>?_) b
 refine ru (f:=fun c=>eS (eS (UInt8.ofNat (2^i)) (UInt8.ofNat (2^j))) c) (g:=fun c=>eS (UInt8.ofNat (2^i)) (eS (UInt8.ofNat (2^j)) c)) (fun x y=>by simp only [jx]) (fun x y=>by simp only [jx]) (fun k hk=>?_) c
 have:∀i,i<8-> ∀j,j<8-> ∀k,k<8->eS (eS (UInt8.ofNat (2^i)) (UInt8.ofNat (2^j))) (UInt8.ofNat (2^k))=eS (UInt8.ofNat (2^i)) (eS (UInt8.ofNat (2^j)) (UInt8.ofNat (2^k))):=by decide +kernel
 exact this i hi j hj k hk
theorem Ka (a:UInt8):eS a 1=a:=of_decide_eq_true (qc (fun a=>decide (eS a 1=a)) (by decide +kernel) a)
theorem I2 (a:UInt8):eS 1 a=a:=by rw [yb,Ka]
theorem Hh (a:UInt8):eS a 0=0:=by have:=jx a 0 0;rwa [UInt8.xor_self,UInt8.xor_self] at this
theorem Gn (a:UInt8):eS 0 a=0:=by rw [yb,Hh]
theorem xJ (a b:UInt8):∀k,k≤8->(gO a b k).x=(bM ⟨a,b,0⟩ k).a.toUInt64∧(gO a b k).p=(bM ⟨a,b,0⟩ k).p∧(k<8->(bM ⟨a,b,0⟩ k).b=b>>>UInt8.ofNat k)
 | 0,_=>⟨rfl,rfl,fun _=>by simp [bM]⟩
 | k+1,hk=>by
  obtain ⟨h1,h2,h3⟩:=xJ a b k ag
  have h3:=h3 ag
  refine ⟨?_,?_,fun h8=>?_⟩
  ·rw [gO,uU,h1,I8]
   have:=qc (fun a=>decide ((if (a.toUInt64<<<1)&&&256≠0 then (a.toUInt64<<<1)^^^283 else a.toUInt64<<<1)=(xt a).toUInt64)) (by decide +kernel) (bM ⟨a,b,0⟩ k).a
   exact of_decide_eq_true this
  ·rw [gO,uU,h1,h2,bM,vk,←h3]
   have e:(bM ⟨a,b,0⟩ k).a.toUInt64.toUInt8=(bM ⟨a,b,0⟩ k).a:=by simp
   rw [e]
   rcases vt (bM ⟨a,b,0⟩ k).b with h|h<;>rw [h]<;>rfl
  ·rw [bM,vk]
   show (bM ⟨a,b,0⟩ k).b>>>1=_
   rw [h3]
   have:=qc (fun b=>(List.range 7).all fun k=>(b>>>UInt8.ofNat k)>>>1 == b>>>UInt8.ofNat (k+1)) (by decide +kernel) b
   rw [List.all_eq_true] at this
   simpa using this k (List.mem_range.2 ag)
theorem Bi (a b:UInt8):kU a b=eS a b:=(xJ a b 8 (Nat.le_refl _)).2.1
def nH (f:Nat->UInt8):Nat->UInt8
 | 0=>0
 | n+1=>nH f n^^^f n
theorem uA {f g:Nat->UInt8}:∀ {n:Nat},(∀i,i<n->f i=g i)->nH f n=nH g n
 | 0,_=>rfl
 | n+1,h=>by rw [nH,nH,uA (fun i hi=>h i ag),h n ag]
theorem AO (f:Nat->UInt8) (x:UInt8):∀n,eS (nH f n) x=nH (fun i=>eS (f i) x) n
 | 0=>Gn x
 | n+1=>by rw [nH,iT,AO f x n];rfl
theorem uz (f:Nat->UInt8):∀n,nH f (n+1)=f 0^^^nH (fun i=>f (i+1)) n
 | 0=>by simp [nH]
 | n+1=>by rw [nH,uz f n,nH,UInt8.xor_assoc]
theorem sj (x:UInt8) (k:Nat):zM x (k+1)=eS (zM x k) x:=by rw [zM,Bi]
theorem JA (aU:List UInt8) (L j:Nat) (x:UInt8) (need:Nat):∀m,m≤need-1->dC aU L j x need m=nH (fun t=>eS (aU.getD ((need-1-m+t)*L+j) 0) (zM x (t+1))) m
 | 0,_=>rfl
 | m+1,h=>by
  rw [dC,JA aU L j x need m ag,iT,AO,uz,UInt8.xor_comm]
  congr 1
  ·rw [Nat.add_zero,sj,zM,I2,show need-1-m-1=need-1-(m+1) by omega]
  ·refine uA fun i hi=>?_
   rw [D0,←sj,show need-1-m+i=need-1-(m+1)+(i+1) by omega]
theorem IX (aU:List UInt8) (L j:Nat) (x c:UInt8):∀d,u_ aU L j x c d=(c^^^nH (fun t=>eS (aU.getD (t*L+j) 0) (zM x (t+1))) d,zM x d)
 | 0=>by simp [u_,nH,zM]
 | d+1=>by rw [u_,IX aU L j x c d,nH];simp only [Bi,sj,UInt8.xor_assoc]
theorem Di (s r:List UInt8) (need:Nat) (x:UInt8) (j:Nat):gY s r need x j=Da s r need x j:=by
 rw [gY,Da,IX,JA _ _ _ _ _ _ (Nat.le_refl _),UInt8.xor_comm]
 simp only [Nat.sub_self,Nat.zero_add]
theorem Dh (s r:List UInt8) (need n:Int):gj s r need n=js s r need n:=by
 unfold gj js jI Iq Fk yP
 split
 ·refine List.map_congr_left fun i _=>?_
  congr 1
  exact List.map_congr_left fun j _=>Di ..
 ·rfl
theorem y5 (ar aU:List UInt8) (need n:Int):bA Tryz.prog 119 [.sl 1 (ah ar),.sl 1 (ah aU),ai need,ai n] (.b_ [.own 2 (ae eh (gj ar aU need n)),ai (dF ar aU need n)]):=by
 refine zO Tryz.func119 91 ?_
 by_cases hl:64<ar.length
 ·have e1:dF ar aU need n=8:=by simp [dF,hl]
  refine zq<|zS<|zB 0<|zP 1 [yH [(1,{k:=ar.length})]] [.aa [17,9,8,0,1,2,3] []] [yI (aB ar)]<|gX 17 ((↑ar.length:Int)>64)<|zq<|zR<|ba<|aI (zV [yB (ae eh (gj ar aU need n)= []) (by rw [gj,e1];rfl),yJ 8 (dF ar aU need n) (by rw [e1])])
 by_cases h1:need<1
 ·have e1:dF ar aU need n=9:=by simp [dF,hl,h1]
  refine zq<|zS<|zB 0<|zP 1 [yH [(1,{k:=ar.length})]] [.aa [17,9,8,0,1,2,3] []] [yI (aB ar)]<|dm 17 ((↑ar.length:Int)>64)<|zP 1 [{}] [.aa [21,17,9,8,0,1,2,3] []] (yM 4 (yT (need<1))++yM 3 (yR true))<|zT 21<|zq<|zR<|ba<|aI (zV [yB (ae eh (gj ar aU need n)= []) (by rw [gj,e1];rfl),yJ 9 (dF ar aU need n) (by rw [e1])])
 by_cases h2:n<need
 ·have e1:dF ar aU need n=9:=by simp [dF,hl,h2]
  refine zq<|zS<|zB 0<|zP 1 [yH [(1,{k:=ar.length})]] [.aa [17,9,8,0,1,2,3] []] [yI (aB ar)]<|dm 17 ((↑ar.length:Int)>64)<|zP 1 [yH ([(6,{b:=false})]++yg [3,4,5])] [.aa [21,17,9,8,0,1,2,3] []] (yM 4 (yF (need<1))++yM 3 (yT (n<need)))<|zT 21<|zq<|zR<|ba<|aI (zV [yB (ae eh (gj ar aU need n)= []) (by rw [gj,e1];rfl),yJ 9 (dF ar aU need n) (by rw [e1])])
 by_cases h3:255<n
 ·have e1:dF ar aU need n=9:=by simp [dF,hl,h3]
  refine zq<|zS<|zB 0<|zP 1 [yH [(1,{k:=ar.length})]] [.aa [17,9,8,0,1,2,3] []] [yI (aB ar)]<|dm 17 ((↑ar.length:Int)>64)<|zP 1 [yH ([(6,{b:=false}),(10,{b:=false})]++yg [3,4,5,8,9])] [.aa [21,17,9,8,0,1,2,3] []] (yM 4 (yF (need<1))++yM 3 (yF (n<need)))<|gX 21 (n>255)<|zq<|zR<|ba<|aI (zV [yB (ae eh (gj ar aU need n)= []) (by rw [gj,e1];rfl),yJ 9 (dF ar aU need n) (by rw [e1])])
 obtain ⟨N,rfl⟩:=Int.eq_ofNat_of_zero_le (by omega:0≤need)
 obtain ⟨M,rfl⟩:=Int.eq_ofNat_of_zero_le (by omega:0≤n)
 have hp:((N:Int)-1)*ar.length≤254*64:=Int.mul_le_mul ag ag ag ag
 have XJ:0≤((N:Int)-1)*ar.length:=Int.mul_nonneg ag ag
 by_cases h4:(aU.length:Int)<((N:Int)-1)*ar.length
 ·have e1:dF ar aU N M=1:=by simp [dF,hl,h1,h2,h3,h4]
  refine zq<|zS<|zB 0<|zP 1 [yH [(1,{k:=ar.length})]] [.aa [17,9,8,0,1,2,3] []] [yI (aB ar)]<|dm 17 ((↑ar.length:Int)>64)<|zP 1 [yH ([(6,{b:=false}),(10,{b:=false})]++yg [3,4,5,8,9])] [.aa [21,17,9,8,0,1,2,3] []] (yM 4 (yF ((↑N:Int)<1))++yM 3 (yF ((↑M:Int)<(↑N:Int))))<|dm 21 ((↑M:Int)>255)<|zP 1 [yH [(1,{k:=aU.length}),(3,yV (ai ((↑N:Int)-1))),(5,{k:=ar.length}),(6,yV (ai (((↑N:Int)-1)*(↑ar.length:Int))))]] [.aa [33,21,17,9,8,0,1,2,3] []] [yI (aB aU),yN ((↑N:Int)-1),yI (aB ar),yN (((↑N:Int)-1)*(↑ar.length:Int))]<|gX 33 ((↑aU.length:Int)<((↑N:Int)-1)*(↑ar.length:Int))<|zq<|zR<|ba<|aI (zV [yB (ae eh (gj ar aU (↑N:Int) (↑M:Int))= []) (by rw [gj,e1];rfl),yJ 1 (dF ar aU (↑N:Int) (↑M:Int)) (by rw [e1])])
 have e0:dF ar aU N M=0:=by simp [dF,hl,h1,h2,h3,h4]
 refine zq<|zS<|zB 0<|zP 1 [yH [(1,{k:=ar.length})]] [.aa [17,9,8,0,1,2,3] []] [yI (aB ar)]<|dm 17 ((↑ar.length:Int)>64)<|zP 1 [yH ([(6,{b:=false}),(10,{b:=false})]++yg [3,4,5,8,9])] [.aa [21,17,9,8,0,1,2,3] []] (yM 4 (yF ((↑N:Int)<1))++yM 3 (yF ((↑M:Int)<(↑N:Int))))<|dm 21 ((↑M:Int)>255)<|zP 1 [yH [(1,{k:=aU.length}),(3,yV (ai ((↑N:Int)-1))),(5,{k:=ar.length}),(6,yV (ai (((↑N:Int)-1)*(↑ar.length:Int))))]] [.aa [33,21,17,9,8,0,1,2,3] []] [yI (aB aU),yN ((↑N:Int)-1),yI (aB ar),yN (((↑N:Int)-1)*(↑ar.length:Int))]<|dm 33 ((↑aU.length:Int)<((↑N:Int)-1)*(↑ar.length:Int))<|zK<|aK<|al<|zq<|zS<|zq<|zB 1 (zL (fun (i:Nat)=>(⟨[(0,AV.sl 1 (ah ar)),(1,AV.sl 1 (ah aU)),(2,ai ↑N),(3,ai ↑M),(10,AV.ref 89),(11,ai ((i:Int)+1))],[(89,⟨2,true,false,ae eh ((List.range i).map (jI ar aU N))⟩)]⟩:AS)) (fun i=>(i≤M)) (fun i=>(M-i)) (0) ?_ (zW [.nil 10 89 2,.aa [0,1,2,3,10,11] [89]]) ?_)
 ·omega
 intro i hi
 refine zS<|zP 1 [{}] [.aa [44,0,1,2,3,10,11] [89]] [] (zD 44 ((↑i:Int)+1≤(↑M:Int)) (fun hc=>?_) (fun hc=>?_))
 ·skip
  refine a6<|zS<|zB 2<|zq<|zS<|zq<|zB 3 (zL (fun (j:Nat)=>(⟨[(0,AV.sl 1 (ah ar)),(1,AV.sl 1 (ah aU)),(2,ai ↑N),(3,ai ↑M),(10,AV.ref 89),(11,ai ((↑i:Int)+1)),(12,AV.ref 83),(13,ai j)],[(89,⟨2,true,false,ae eh (List.map (jI ar aU N) (List.range i))⟩),(83,⟨1,true,false,ah ((List.range j).map (gY ar aU N (u8 (i+1))))⟩)]⟩:AS)) (fun j=>(j≤ar.length)) (fun j=>(ar.length-j)) (0) ?_ (zW [.nil 12 83 1,.aa [0,1,2,3,10,11,12,13] [89,83]]) ?_)
  ·omega
  intro j hj
  refine zS<|zP 1 [yH [(2,{k:=ar.length})]] [.aa [50,0,1,2,3,10,11,12,13] [89,83]] [yI (aB ar)] (zD 50 ((↑j:Int)<(↑ar.length:Int)) (fun h5=>?_) (fun h5=>?_))
  ·skip
   refine a6<|zS<|zB 4<|zP 1 [yH [(2,{k:=j}),(3,yV (ab (ar.getD j 0)))]] [.aa [15,14,50,0,1,2,3,10,11,12,13] [89,83]] [yR (↑j:Int),yB (j<(ah ar).length) (by simp only [aB];omega),yB ((ah ar)[j]?=some (ab (ar.getD j 0))) (oX ag)]<|zS<|zq<|zB 5 (zL (fun (d:Nat)=>(⟨[(0,AV.sl 1 (ah ar)),(1,AV.sl 1 (ah aU)),(2,ai ↑N),(3,ai ↑M),(10,AV.ref 89),(11,ai ((↑i:Int)+1)),(12,AV.ref 83),(13,ai ↑j),(14,ab (u_ aU ar.length j (u8 (i+1)) (ar.getD j 0) d).1),(15,ab (u_ aU ar.length j (u8 (i+1)) (ar.getD j 0) d).2),(16,ai ((d:Int)+1))],[(89,⟨2,true,false,ae eh (List.map (jI ar aU N) (List.range i))⟩),(83,⟨1,true,false,ah (List.map (gY ar aU N (u8 ((↑i:Int)+1))) (List.range j))⟩)]⟩:AS)) (fun d=>(d≤N-1)) (fun d=>(N-1-d)) (0) ?_ (zW [.aa [0,1,2,3,10,11,12,13,14,15,16] [89,83]]) ?_)
   ·omega
   intro d hd
   refine zS<|zP 1 [{}] [.aa [59,0,1,2,3,10,11,12,13,14,15,16] [89,83]] [] (zD 59 ((↑d:Int)+1<(↑N:Int)) (fun h6=>?_) (fun h6=>?_))
   ·have hN:d+1≤N-1:=ag
    have hk:((d:Int)+1-1)*ar.length=((d*ar.length:Nat):Int):=by
     rw [Int.natCast_mul,show (d:Int)+1-1=d by omega]
    have hb:=Nat.mul_le_mul_right ar.length hN
    rw [Nat.add_mul,Nat.one_mul] at hb
    have Vn:(((N-1)*ar.length:Nat):Int)=((N:Int)-1)*ar.length:=by rw [Int.natCast_mul,show ((N-1:Nat):Int)=(N:Int)-1 by omega]
    have H0:d+1-1=d:=ag
    have tM:((d:Int)+1-1)*ar.length+j=(((d+1-1)*ar.length+j:Nat):Int):=by rw [hk,H0];omega
    have cZ:(d+1-1)*ar.length+j<aU.length:=by rw [H0];omega
    refine a6<|zS<|zB 6<|zP 1 [yH [(2,yV (ab (u8 ((↑i:Int)+1)))),(3,yV (ab (kU (u_ aU ar.length j (u8 ((↑i:Int)+1)) (ar.getD j 0) d).snd (u8 ((↑i:Int)+1)))))]] [.aa [15,59,0,1,2,3,10,11,12,13,14,16] [89,83]] [yI (jf ((↑i:Int)+1)),yI (u6 ((u_ aU ar.length j (u8 ((↑i:Int)+1)) (ar.getD j 0) d).snd) (u8 ((↑i:Int)+1)))]<|zX (yH [(3,yV (ai ((↑d:Int)+1-1))),(5,{k:=ar.length}),(6,yV (ai (((↑d:Int)+1-1)*(↑ar.length:Int)))),(8,yV (ai (((↑d:Int)+1-1)*(↑ar.length:Int)+(↑j:Int)))),(9,{k:=(d+1-1)*ar.length+j}),(10,yV (ab (aU.getD ((d+1-1)*ar.length+j) 0))),(12,yV (ab (kU (aU.getD ((d+1-1)*ar.length+j) 0) (kU (u_ aU ar.length j (u8 ((↑i:Int)+1)) (ar.getD j 0) d).snd (u8 ((↑i:Int)+1)))))),(13,yV (ab ((u_ aU ar.length j (u8 ((↑i:Int)+1)) (ar.getD j 0) d).fst^^^kU (aU.getD ((d+1-1)*ar.length+j) 0) (kU (u_ aU ar.length j (u8 ((↑i:Int)+1)) (ar.getD j 0) d).snd (u8 ((↑i:Int)+1))))))]) [yN ((↑d:Int)+1-1),yI (aB ar),yN (((↑d:Int)+1-1)*(↑ar.length:Int)),yN (((↑d:Int)+1-1)*(↑ar.length:Int)+(↑j:Int)),yI tM,yB ((d+1-1)*ar.length+j<(ah aU).length) (by simp only [aB];omega),yB ((ah aU)[(d+1-1)*ar.length+j]?=some (ab (aU.getD ((d+1-1)*ar.length+j) 0))) (oX ag),yI (u6 (aU.getD ((d+1-1)*ar.length+j) 0) (kU (u_ aU ar.length j (u8 ((↑i:Int)+1)) (ar.getD j 0) d).snd (u8 ((↑i:Int)+1)))),yI (Gg ((u_ aU ar.length j (u8 ((↑i:Int)+1)) (ar.getD j 0) d).fst) (kU (aU.getD ((d+1-1)*ar.length+j) 0) (kU (u_ aU ar.length j (u8 ((↑i:Int)+1)) (ar.getD j 0) d).snd (u8 ((↑i:Int)+1)))))]<|aK<|al<|zX (yH [(1,yV (ai ((↑d:Int)+1+1)))]) [yN ((↑d:Int)+1+1)] (aF (d+1) hN ag (zW [.aa [0,1,2,3,10,11,12,13,14,15,16] [89,83]]))
   ·have e6:d=N-1:=ag
    subst e6
    refine zE 5<|a7<|aP<|bp<|al<|zX (yH [(2,yV (AV.arr (ah [(u_ aU ar.length j (u8 ((↑i:Int)+1)) (ar.getD j 0) (N-1)).fst]))),(3,yV (AV.arr (ah (List.map (gY ar aU N (u8 ((↑i:Int)+1))) (List.range j)++ [(u_ aU ar.length j (u8 ((↑i:Int)+1)) (ar.getD j 0) (N-1)).fst]))))]) [yR [ab ((u_ aU ar.length j (u8 ((↑i:Int)+1)) (ar.getD j 0) (N-1)).fst)],yB (ah (List.map (gY ar aU N (u8 ((↑i:Int)+1))) (List.range j))++ah [(u_ aU ar.length j (u8 ((↑i:Int)+1)) (ar.getD j 0) (N-1)).fst]=ah (List.map (gY ar aU N (u8 ((↑i:Int)+1))) (List.range j)++ [(u_ aU ar.length j (u8 ((↑i:Int)+1)) (ar.getD j 0) (N-1)).fst])) (da _ _),yB (((ah (List.map (gY ar aU N (u8 ((↑i:Int)+1))) (List.range j))).length+1)*1≤140737488355328) (by simp only [aB,List.length_map,List.length_range];omega)]<|aK<|al<|zX (yH [(1,yV (ai ((↑j:Int)+1)))]) [yN ((↑j:Int)+1)] (aF (j+1) ag ag (eX [.aa [0,1,2,3,10,11,12,13] [89,83]] [] [83] [yB (ah (List.map (gY ar aU N (u8 ((↑i:Int)+1))) (List.range j)++ [(u_ aU ar.length j (u8 ((↑i:Int)+1)) (ar.getD j 0) (N-1)).fst])=ah (List.map (gY ar aU N (u8 ((↑i:Int)+1))) (List.range (j+1)))) (congrArg ah (u9 (gY ar aU N (u8 (i+1))) j))]))
  ·have e6:j=ar.length:=ag
   subst e6
   refine zE 3<|a7<|aP<|bp<|al<|zX {} [yB (((ae eh (List.map (jI ar aU N) (List.range i))).length+2)*32≤281474976710656) (by simp only [List.length_map,List.length_range,aA (f:=eh) (e:=2) (fun _=>rfl)];omega)]<|aK<|al<|zX (yH [(1,yV (ai ((↑i:Int)+1+1)))]) [yN ((↑i:Int)+1+1)] (aF (i+1) ag ag (eX [.aa [0,1,2,3,10,11] [89]] [] [89] [yB (ae eh (List.map (jI ar aU N) (List.range i))++ [ai ((↑i:Int)+1),AV.sl 1 (ah (List.map (gY ar aU N (u8 ((↑i:Int)+1))) (List.range ar.length)))]=ae eh (List.map (jI ar aU N) (List.range (i+1)))) (HB (f:=eh) (jI ar aU N) i)]))
 ·have e8:i=M:=ag
  subst e8
  refine zE 1<|a7<|aP<|bp<|al<|zq<|zR (zV [yB (ae eh (List.map (jI ar aU N) (List.range i))=ae eh (gj ar aU (↑N:Int) (↑i:Int))) (by simp [gj,e0]),yJ 0 (dF ar aU (↑N:Int) (↑i:Int)) (by rw [e0])])
theorem qt (ar aU:List UInt8) (need n:Int):bA Tryz.prog 119 [.sl 1 (ah ar),.sl 1 (ah aU),ai need,ai n] (.b_ [.own 2 (ae eh (js ar aU need n)),ai (dF ar aU need n)]):=by
 rw [←Dh];exact y5 ar aU need n
def ff (E:Nat->Int):Nat->Int
 | 0=>0
 | n+1=>if ff E n≠0 then ff E n else E n
theorem kz {E:Nat->Int} {m:Nat} {e:Int} (he:e≠0) (h:ff E m=e):∀n,m≤n->ff E n=e
 | 0,hn=>by
  have:m=0:=ag
  subst this;exact h
 | n+1,hn=>by
  by_cases hm:m=n+1
  ·subst hm;exact h
  ·have:=kz he h n ag
   unfold ff
   rw [this,if_pos he]
def eg (x:List UInt8):Int:=if x.length<1∨32<x.length then 9 else if Lib.validD x=false then 6 else 0
def xT (a b:List UInt8):Bool:=Op.bytesLess (⟨a.toArray⟩:ByteArray).toList (⟨b.toArray⟩:ByteArray).toList || (⟨a.toArray⟩:ByteArray).toList == (⟨b.toArray⟩:ByteArray).toList
def nt (l:List (List UInt8)) (i:Nat):Int:=if eg (l.getD i default)≠0 then eg (l.getD i default) else if 0<i∧xT (l.getD i default) (l.getD (i-1) default)=true then 7 else 0
theorem qG {x:List UInt8} (h:x.length<1∨32<x.length):eg x=9:=by unfold eg;rw [if_pos h]
theorem zf {x:List UInt8} (h:¬(x.length<1∨32<x.length)) (hv:Lib.validD x=false):eg x=6:=by unfold eg;rw [if_neg h,if_pos hv]
theorem Fy {x:List UInt8} (h:¬(x.length<1∨32<x.length)) (hv:Lib.validD x=true):eg x=0:=by unfold eg;rw [if_neg h,if_neg (by simp [hv])]
theorem JS {l:List (List UInt8)} {i:Nat} {e:Int} (h:eg (l.getD i default)=e) (he:e≠0):nt l i=e:=by unfold nt;rw [if_pos ag,h]
theorem JR {l:List (List UInt8)} {i k:Nat} (h:eg (l.getD i default)=0) (hk:k+1=i):nt l i=if xT (l.getD i default) (l.getD k default)=true then 7 else 0:=by
 unfold nt
 subst hk
 rw [if_neg ag,Nat.add_sub_cancel]
 by_cases hc:xT (l.getD (k+1) default) (l.getD k default)=true
 ·rw [if_pos ⟨ag,hc⟩,if_pos hc]
 ·rw [if_neg (fun h=>hc h.2),if_neg hc]
theorem FR {l:List (List UInt8)} (h:eg (l.getD 0 default)=0):nt l 0=0:=by unfold nt;rw [if_neg ag,if_neg (fun h=>ag)]
def ow (n:Nat) (need:Int):Prop:=n<1∨8<n∨need<1∨(n:Int)<need
instance (n:Nat) (need:Int):Decidable (ow n need):=inferInstanceAs (Decidable (_∨_∨_∨_))
def rT (l:List (List UInt8)) (need:Int):Int:=if ow l.length need then 9 else ff (nt l) l.length
def LH (seed:UInt64) (a_:Int):UInt64:=derive seed [100,101,112,111,115,105,116] a_
def Iw (seed:UInt64) (a_:Int) (n:Nat) (need:Int):List Sh:=js (words [LH seed a_]) (stream (derive seed [115,104,97,114,101,115] a_) 0 (8*(need-1))) need n
def tH (seed:UInt64) (a_:Int) (l:List (List UInt8)) (need:Int):List (List UInt8):=if rT l need=0 then (List.range l.length).map (fun i=>((Iw seed a_ l.length need).getD i default).2) else []
def fX (seed:UInt64) (a_:Int) (l:List (List UInt8)) (need:Int):oD :=
 if rT l need=0 then ⟨Bx (LH seed a_),0,[],l,(List.range l.length).map (fun i=>o_ (l.getD i default) ((Iw seed a_ l.length need).getD i default).2),need,0⟩ else default
def RU (d:oD):List AV:=[aw d.cm,aw d.peer,.own 1 (ah d.box),.own 1 (ae au d.af),.own 1 (aj d.ay),ai d.need,aw d.target]
def part {T:Type} (f:Nat->T) (z:T) (n i:Nat):List T:=(List.range n).map fun k=>if k<i then f k else z
def nD (m:UInt64) (k:Nat):Nat:=m.toNat/2^(60-4*k)%16
def bl (m:UInt64):Nat->Nat
 | 0=>0
 | k+1=>bl m k+(15-nD m k)
def ct (m:UInt64):List Int:=(List.range 16).map (fun k=>(nD m k:Int))++ [((bl m 16/16:Nat):Int),((bl m 16%16:Nat):Int)]
theorem DC (m:UInt64) (k:Nat):nD m k<16:=Nat.mod_lt _ (by decide)
theorem rZ (m:UInt64) (k:Nat):bl m k≤15*k:=by
 induction k with
 | zero=>simp [bl]
 | succ k ih=>simp only [bl];omega
theorem ou (m:UInt64):(ct m).length=18:=by simp [ct]
def iH (m:UInt64) (k:Nat):List Int:=(List.range k).map fun j=>(nD m j:Int)
theorem CD (m:UInt64) (k:Nat):iH m (k+1)=iH m k++ [(nD m k:Int)]:=by simp [iH,List.range_succ]
theorem EC (m:UInt64) (k:Nat):(iH m k).length=k:=by simp [iH]
theorem ML (m:UInt64):ct m=iH m 16++ [((bl m 16/16:Nat):Int),((bl m 16%16:Nat):Int)]:=rfl
def Qx (leaf chain:Int) (p:Int) (x:UInt64):UInt64:=hash 1 (words [u64 leaf,u64 chain,u64 p,x])
def jU (leaf chain:Int) (p:Int) (x:UInt64):Nat->UInt64
 | 0=>x
 | n+1=>Qx leaf chain (p+n) (jU leaf chain p x n)
theorem xI (leaf chain:Int) (p:Int) (x:UInt64) (n:Nat):jU leaf chain p x (n+1)=hash 1 (words [u64 leaf,u64 chain,u64 (p+n),jU leaf chain p x n]):=rfl
def run (leaf chain src dst:Int) (x:UInt64):UInt64:=jU leaf chain (max src 0) x (min dst 15-max src 0).toNat
theorem IC (leaf chain p:Int) (x:UInt64) (a b:Nat):jU leaf chain p x (a+b)=jU leaf chain (p+a) (jU leaf chain p x a) b:=by
 induction b with
 | zero=>rfl
 | succ b ih =>
  show jU leaf chain p x (a+b+1)=_
  rw [xI,xI,ih,show p+((a+b:Nat):Int)=p+a+b by omega]
theorem Gy (leaf chain p q r:Int) (x:UInt64) (h0:0≤p) (h1:p≤q) (h2:q≤r) (hp:p≤15):run leaf chain p r x=run leaf chain q r (run leaf chain p q x):=by
 unfold run
 rw [show max p 0=p by omega,show max q 0=q by omega]
 by_cases hq:q≤15
 ·have e:(min r 15-p).toNat=(q-p).toNat+(min r 15-q).toNat:=ag
  rw [e,IC,show min q 15=q by omega,show p+((q-p).toNat:Int)=q by omega]
 ·rw [show (min r 15-q).toNat=0 by omega,show min r 15=15 by omega,show min q 15=15 by omega];rfl
def ar (seed:UInt64) (leaf c:Int):UInt64:=AH seed 1 (words [u64 leaf,u64 c])
def combine (leaf:Int) (l:List UInt64):UInt64:=hash 2 (words (u64 leaf::l))
def bI (seed:UInt64) (leaf:Int) (n:Nat):List UInt64:=(List.range n).map fun (i:Nat)=>run leaf i 0 15 (ar seed leaf i)
def bQ (seed:UInt64) (leaf:Int) (m:UInt64) (n:Nat):List UInt64:=(List.range n).map fun (i:Nat)=>run leaf i 0 ((ct m).getD i 0) (ar seed leaf i)
def cN (leaf:Int) (m:UInt64) (s:List UInt64) (n:Nat):List UInt64:=(List.range n).map fun (i:Nat)=>run leaf i ((ct m).getD i 0) 15 (s.getD i 0)
theorem s_ (seed:UInt64) (leaf:Int) (n:Nat):(bI seed leaf n).length=n:=by simp [bI]
theorem rL (seed:UInt64) (leaf:Int) (m:UInt64) (n:Nat):(bQ seed leaf m n).length=n:=by simp [bQ]
theorem Bv (leaf:Int) (m:UInt64) (s:List UInt64) (n:Nat):(cN leaf m s n).length=n:=by simp [cN]
theorem zc (seed:UInt64) (leaf:Int) (n:Nat):bI seed leaf (n+1)=bI seed leaf n++ [run leaf n 0 15 (ar seed leaf n)]:=by simp [bI,List.range_succ]
theorem Dd (seed:UInt64) (leaf:Int) (m:UInt64) (n:Nat):bQ seed leaf m (n+1)=bQ seed leaf m n++ [run leaf n 0 ((ct m).getD n 0) (ar seed leaf n)]:=by simp [bQ,List.range_succ]
theorem GJ (leaf:Int) (m:UInt64) (s:List UInt64) (n:Nat):cN leaf m s (n+1)=cN leaf m s n++ [run leaf n ((ct m).getD n 0) 15 (s.getD n 0)]:=by simp [cN,List.range_succ]
theorem MM (m:UInt64) (i:Nat):0≤(ct m).getD i 0∧(ct m).getD i 0≤15:=by
 have hs:=rZ m 16
 by_cases h:i<16
 ·have:=DC m i
  have e:(ct m).getD i 0=(nD m i:Int):=by simp [ct,List.getElem?_append,h]
  omega
 ·by_cases Ui:i=16
  ·subst Ui
   have e:(ct m).getD 16 0=((bl m 16/16:Nat):Int):=by simp [ct]
   omega
  ·by_cases Xh:i=17
   ·subst Xh
    have e:(ct m).getD 17 0=((bl m 16%16:Nat):Int):=by simp [ct]
    omega
   ·have e:(ct m).getD i 0=0:=by
     rw [List.getD_eq_getElem?_getD,List.getElem?_eq_none (by rw [ou];omega)];rfl
    omega
theorem IQ (seed:UInt64) (leaf:Int) (m:UInt64):cN leaf m (bQ seed leaf m 18) 18=bI seed leaf 18:=by
 unfold cN bI
 apply List.map_congr_left
 intro i hi
 have jw:=List.mem_range.1 hi
 have hb:=MM m i
 have e:(bQ seed leaf m 18).getD i 0=run leaf i 0 ((ct m).getD i 0) (ar seed leaf i):=by simp [bQ,jw]
 rw [e,←Gy leaf i 0 _ 15 _ ag hb.1 hb.2 ag]
def jj (m:UInt64) (k:Nat):List Int:=(List.range 18).map fun j=>if j<k then (nD m j:Int) else 0
theorem KJ (m:UInt64) (k:Nat):(jj m k).length=18:=by simp [jj]
theorem MO (m:UInt64) (k j:Nat) (hj:j<18):(jj m k).getD j 0=if j<k then (nD m j:Int) else 0:=by
 rw [List.getD_eq_getElem?_getD];simp [jj,hj]
theorem KI (m:UInt64) (k:Nat):(jj m k).set k (nD m k:Int)=jj m (k+1):=by
 apply List.ext_getElem (by simp [jj])
 intro j h1 h2
 rw [List.getElem_set]
 simp only [jj,List.getElem_map,List.getElem_range]
 by_cases hk:k=j
 ·subst hk;rw [if_pos rfl,if_pos ag]
 ·rw [if_neg hk]
  by_cases h:j<k
  ·rw [if_pos h,if_pos ag]
  ·rw [if_neg h,if_neg ag]
theorem KK (m:UInt64):((jj m 16).set 16 ((bl m 16/16:Nat):Int)).set 17 ((bl m 16%16:Nat):Int)=ct m:=by
 simp [jj,ct,List.range_succ]
def cR (n:Nat) (l:List UInt64) (k:Nat):List UInt64:=l.take k++List.replicate (n-k) 0
theorem kJ {n k:Nat} {l:List UInt64} (hl:l.length=n) (hk:k≤n):(cR n l k).length=n:=by simp [cR];omega
theorem ld {n:Nat} {l:List UInt64} (hl:l.length=n):cR n l n=l:=by simp [cR,←hl]
theorem my {n k:Nat} {l:List UInt64} (hl:l.length=n) (hk:k<n):(cR n l k).set k (l.getD k 0)=cR n l (k+1):=by
 apply List.ext_getElem (by simp [cR];omega)
 intro j h1 h2
 have hj:j<n:=by rw [List.length_set,kJ hl ag] at h1;exact h1
 rw [List.getElem_set]
 by_cases h:k=j
 ·subst h
  simp [cR,hl,hk,List.getElem_append]
  omega
 ·rw [if_neg h]
  simp only [cR,List.getElem_append,List.length_take,hl]
  by_cases xe:j<k
  ·simp [show j<min k n by omega,show j<min (k+1) n by omega]
  ·simp [show ¬j<min k n by omega,show ¬j<min (k+1) n by omega]
theorem Is (seed:UInt64) (leaf:Int) (m:UInt64) (i:Nat) (h:i<18):(bQ seed leaf m 18).getD i 0=run leaf i 0 ((ct m).getD i 0) (ar seed leaf i):=by simp [bQ,h]
theorem LR (leaf:Int) (m:UInt64) (s:List UInt64) (i:Nat) (h:i<18):(cN leaf m s 18).getD i 0=run leaf i ((ct m).getD i 0) 15 (s.getD i 0):=by simp [cN,h]
theorem Dw (seed:UInt64) (leaf:Int) (i:Nat) (h:i<18):(bI seed leaf 18).getD i 0=run leaf i 0 15 (ar seed leaf i):=by simp [bI,h]
theorem Fz (m:UInt64) (k:Nat) (hk:k≤15):wv ((m>>>UInt64.ofNat (60-4*k))&&&15)=(nD m k:Int):=by
 unfold wv nD
 rw [UInt64.toNat_and,UInt64.toNat_shiftRight,UInt64.toNat_ofNat_of_lt' (by show _<2^64;omega),Nat.mod_eq_of_lt ag,Nat.shiftRight_eq_div_pow]
 rw [show (15:UInt64).toNat=2^4-1 from rfl,Nat.and_two_pow_sub_one_eq_mod]
end Go.Proofs.YtjgbhhnghedgdaaGreatDoor
