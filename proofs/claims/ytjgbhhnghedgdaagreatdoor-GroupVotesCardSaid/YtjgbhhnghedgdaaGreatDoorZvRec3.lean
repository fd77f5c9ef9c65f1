import Derived.Test.YtjgbhhnghedgdaaGreatDoorZvEx3
import Derived.Test.YtjgbhhnghedgdaaGreatDoorZvRN
import Derived.StillTailTactics
import Derived.Deep.RegionWith
import Derived.Deep.DeepCutAuto
set_option linter.all false
namespace Go.Proofs.YtjgbhhnghedgdaaGreatDoor
open Go.RowKit
set_option maxRecDepth 100000
set_option maxHeartbeats 4000000
def wJ (r:List UInt8):List AV:=[.sl 1 (aj r)]
theorem xe.qB (w:World) (e:TypeId):xe (w.alloc (.cells #[] e)) w.heap.size (.slice (some ⟨w.heap.size,0,none⟩) 0 0) [] :=
 .inr ⟨w.heap.size,0,#[],e,(0,0),rfl,Nat.le_refl _,heap_alloc_new w _,by simp,by simp,rfl,rfl,by simp⟩
theorem kT {P:Program} {w:World} {t e:TypeId} (ht:P.underlying t=some (.slice e)) (A:Option Addr) (n c:Nat):(binOp .eql t (.slice A n c) (.slice none 0 0)).run P w= .ok (.bool A.isNone) w:=by
 have key:∀d,(Op.equalIn (d+1) t (.slice A n c) (.slice none 0 0)).run P w= .ok A.isNone w:=by
  intro d
  unfold Op.equalIn
  cases A<;>simp [run_underlying ht]
 show (Op.equalIn (9999+1) t (.slice A n c) (.slice none 0 0) >>= fun b=>pure (Value.bool b)).run P w=_
 rw [Sem.run_bind,key 9999]
 rfl
theorem G2 (v:Value) (l:List UInt8) (w:World) (h:jj w v (tw l)) (hl:l.length≤70368744177664) :
  Calls Tryz.prog 100 #[v] w fun e w'=>rv w e w' l:=by
 have h':=h
 obtain ⟨A,c,rfl,hc,hm,hr⟩:=h
 rcases A with _|ad
 ·have Au:l= []:=by
   rcases Nat.eq_zero_or_pos l.length with h0|h0
   ·exact List.length_eq_zero_iff.1 h0
   ·obtain ⟨ad,h,_⟩:=hr.2 (by rw [gA];exact h0)
    cases h
  subst Au
  have hq:= @kT Tryz.prog w 25 5 Tryz.underlying25 none (tw []).length c
  go_enter Tryz.func100,Tryz.ntmps100
  go_wp2
  go_ret
  exact ⟨_,rfl,.inl ⟨rfl,rfl⟩,Below.refl _ _⟩
 ·have Ui:=Lib.hid h'
  clear h' hr
  have hq:= @kT Tryz.prog w 25 5 Tryz.underlying25 (some ad) (tw l).length c
  go_enter Tryz.func100,Tryz.ntmps100
  go_wp2_with (at_builtin;refine uA _ rfl _ _ 25 rfl E8 w.heap.size _ _ rfl (xe.qB w _) _ (tw l) rfl (Ui.out.below ((Below.refl _ _).alloc (Nat.le_refl _) _)) (Fz _) (by rw [gA];simp;omega) (by simp) ?_;intro v2 w2 Fb QG _)
  go_ret
  exact ⟨_,rfl,by simpa using Fb,((Below.refl w.heap.size w).alloc (Nat.le_refl _) _).Ex (xe.qB w _) QG⟩
theorem G0 (l:List UInt8) (hl:l.length≤70368744177664):bG Tryz.prog 100 [.sl 1 (aj l)] (.own 1 (aj l)):=by
 refine bG.Bn fun w vs h1 hr=>?_
 obtain ⟨a,rfl⟩:=FC h1 rfl
 exact G2 a l w (xB (hr 0 a _ rfl rfl) fun _ h=>h) hl
def qf (us:List Value):List AV:=us.map AV.val
theorem mb (us:List Value):(qf us).length=us.length:=by simp [qf]
theorem H4 {S:Nat->Prop} {w:World} {v:Value} {bs:List Value} (h:cz S w v (.sl 1 (qf bs))) (hS:∀b,S b->b<w.heap.size):jj w v bs:=by
 cases h with
 | sl A n c e us row hl hn hc hm ha h =>
  have BC:us=bs:=by
   apply List.ext_getElem?
   intro j
   cases hu:us[j]? with
   | none =>
    have:us.length≤j:=List.getElem?_eq_none_iff.1 hu
    rw [List.getElem?_eq_none (by rw [mb] at hl;omega)]
   | some u =>
    have hj:j<bs.length:=by have:=(List.getElem?_eq_some_iff.1 hu).1;rw [hl,mb] at this;exact this
    have hx:(qf bs)[j]?=some (.val bs[j]):=by simp [qf,hj]
    have:=h j u _ hu hx
    cases this
    simp [hj]
  subst BC
  rw [mb] at hn ha
  have tG:us.length=n:=ag
  subst tG
  exact ⟨A,c,rfl,hc,hm,rfl,fun h0=>by
   obtain ⟨ad,e,hs,bw⟩:=ha h0
   exact ⟨ad,e,hS _ hs,bw⟩⟩
def FG (w:World) (e:Ending) (w':World) (us:List Value):Prop:=∃v,e= .returned v∧xe w' w.heap.size v us∧Below w.heap.size w w'
theorem bG.Ld {P:Program} {f:FuncId} {args:List AV} {us:List Value} (h:∀(w:World) (vs:List Value),vs.length=args.length->(∀(j:Nat) v x,vs[j]?=some v->args[j]?=some x->cz (fun b=>b<w.heap.size) w v x) ->
  Calls P f vs.toArray w fun e w'=>FG w e w' us):bG P f args (.own 1 (qf us)):=by
 intro w S vs _ hS hl hr
 refine (h w vs hl fun j v x hv hx=>(hr j v x hv hx).mono fun b hb=>⟨hS b hb,rfl⟩).mono fun e w' ⟨v,he,ho,hb⟩=>?_
 rcases ho with ⟨rfl,hn⟩|⟨g,cap,cur,te,fr,rfl,BL,hg,Gr,ug,uf,MB,gu⟩
 ·subst hn
  exact ⟨_,[],he,hb,List.nodup_nil,by simp,.inl (.inl (.nil 1))⟩
 ·have cW:g<w'.heap.size:=by
   rcases Nat.lt_or_ge g w'.heap.size with h|h
   ·exact h
   ·rw [Array.getElem?_eq_none h] at hg;cases hg
  refine ⟨_,[g],he,hb,by simp,by simp [BL,cW],.inl (.inl (.own g _ cap 1 (qf us) cur te fr hg (fun j hj=>gu j ag) (by rw [mb,Nat.one_mul]) Gr ug ag ?_))⟩
  intro j u x hu hx
  have hj:j<us.length:=by have:=(List.getElem?_eq_some_iff.1 hx).1;rwa [mb] at this
  have KC:x= .val us[j]:=by simp [qf,hj] at hx;exact hx.symm
  subst KC
  have I0:us[j]?=some u:=by
   rw [←MB,List.getElem?_take_of_lt hj];simpa using hu
  have:u=us[j]:=by simp [hj] at I0;exact I0.symm
  subst this
  exact .val _
theorem Lp:(Tryz.prog.info? 9).map (fun i=>(i.zero,i.size,i.bytes))=some (some (.string ⟨#[]⟩),1,16):=by kernel_rfl
theorem Uj:Cs Tryz.prog 26 9 (.string ⟨#[]⟩) 16:=by
 obtain ⟨i,h,h1,h2,h3⟩:=info_parts Lp
 exact ⟨Tryz.underlying26,⟨i,h,h1,h2,h3⟩,rfl,by decide⟩
set_option maxRecDepth 100000 in
theorem CK (v:Value) (l:List Value) (w:World) (h:jj w v l) (h1:∀u∈l,u.oneCell'=true) (hl:l.length≤1000000) :
  Calls Tryz.prog 101 #[v] w fun e w'=>FG w e w' l:=by
 have h':=h
 obtain ⟨A,c,rfl,hc,hm,hr⟩:=h
 rcases A with _|ad
 ·have Au:l= []:=by
   rcases Nat.eq_zero_or_pos l.length with h0|h0
   ·exact List.length_eq_zero_iff.1 h0
   ·obtain ⟨ad,h,_⟩:=hr.2 h0
    cases h
  clear h' hr
  have hq:= @kT Tryz.prog w 26 9 Tryz.underlying26 none l.length c
  have HL:=Lib.hid Au
  clear Au
  go_enter Tryz.func101,Tryz.ntmps101
  go_wp2
  go_ret
  exact ⟨_,rfl,.inl ⟨rfl,HL.out⟩,Below.refl _ _⟩
 ·have Ui:=Lib.hid h'
  clear h' hr
  have hq:= @kT Tryz.prog w 26 9 Tryz.underlying26 (some ad) l.length c
  go_enter Tryz.func101,Tryz.ntmps101
  go_wp2_with (at_builtin;refine uA _ rfl _ _ 26 rfl Uj w.heap.size _ _ rfl (xe.qB w _) _ l rfl (Ui.out.below ((Below.refl _ _).alloc (Nat.le_refl _) _)) h1 (by simp;omega) (by simp) ?_;intro v2 w2 Fb QG _)
  go_ret
  exact ⟨_,rfl,by simpa using Fb,((Below.refl w.heap.size w).alloc (Nat.le_refl _) _).Ex (xe.qB w _) QG⟩
theorem CJ (l:List (List UInt8)) (hl:l.length≤1000000):bG Tryz.prog 101 [.sl 1 (af (fun s=>[cV s]) l)] (.own 1 (af (fun s=>[cV s]) l)):=by
 have e:af (fun s:List UInt8=>[cV s]) l=qf (l.map fun s=>.string ⟨s.toArray⟩):=by
  induction l with
  | nil=>rfl
  | cons x l ih=>rw [jA,ih (by simp at hl;omega)];rfl
 rw [e]
 refine bG.Ld fun w vs h1 hr=>?_
 obtain ⟨a,rfl⟩:=FC h1 rfl
 exact CK a _ w (H4 (hr 0 a _ rfl rfl) fun _ h=>h) (by simp [Value.oneCell']) (by simpa using hl)
def xt (a:UInt8):UInt8:=if a&&&128≠0 then (a<<<1)^^^27 else a<<<1
theorem p_ (p:UInt8->Bool) (h:(List.range 256).all (fun n=>p (UInt8.ofNat n))=true) (a:UInt8):p a=true:=by
 rw [List.all_eq_true] at h
 have:=h a.toNat (List.mem_range.2 (UInt8.toNat_lt a))
 simpa using this
theorem Cn (a b c:UInt8):(a^^^b)&&&c=(a&&&c)^^^(b&&&c):=by
 apply UInt8.toBitVec_inj.1;simp only [UInt8.toBitVec_and,UInt8.toBitVec_xor];ext i hi;simp;cases a.toBitVec[i]<;>cases b.toBitVec[i]<;>cases c.toBitVec[i]<;>rfl
theorem Ht (a b:UInt8):(a^^^b)<<<1=(a<<<1)^^^(b<<<1):=by
 apply UInt8.toBitVec_inj.1;simp [UInt8.toBitVec_shiftLeft,UInt8.toBitVec_xor,BitVec.shiftLeft_xor_distrib]
theorem Hs (a b:UInt8):(a^^^b)>>>1=(a>>>1)^^^(b>>>1):=by
 apply UInt8.toBitVec_inj.1;simp [UInt8.toBitVec_shiftRight,UInt8.toBitVec_xor,BitVec.ushiftRight_xor_distrib]
theorem R9 (a b c d:UInt8):(a^^^b)^^^(c^^^d)=(a^^^c)^^^(b^^^d):=by
 rw [UInt8.xor_assoc,UInt8.xor_assoc,←UInt8.xor_assoc b,UInt8.xor_comm b c,UInt8.xor_assoc c]
theorem BK (a:UInt8):a&&&128=0∨a&&&128=128:=by
 have:=p_ (fun a=>decide (a&&&128=0∨a&&&128=128)) (by decide +kernel) a
 exact of_decide_eq_true this
theorem vt (a:UInt8):a&&&1=0∨a&&&1=1:=by
 have:=p_ (fun a=>decide (a&&&1=0∨a&&&1=1)) (by decide +kernel) a
 exact of_decide_eq_true this
theorem MY (a b:UInt8):xt (a^^^b)=xt a^^^xt b:=by
 unfold xt
 rw [Cn,Ht]
 rcases BK a with h|h<;>rcases BK b with k|k<;>rw [h,k]<;>simp [UInt8.xor_assoc]
 ·rw [UInt8.xor_comm 27]
 ·rw [←UInt8.xor_assoc 27,UInt8.xor_comm 27,UInt8.xor_assoc];simp
theorem Is (a b p:UInt8) (k:Nat):(bN ⟨a,b,p⟩ (k+1)).a=xt (bN ⟨a,b,p⟩ k).a:=rfl
theorem ta (a c b p q:UInt8):∀k,bN ⟨a^^^c,b,p^^^q⟩ k=⟨(bN ⟨a,b,p⟩ k).a^^^(bN ⟨c,b,q⟩ k).a,(bN ⟨a,b,p⟩ k).b,(bN ⟨a,b,p⟩ k).p^^^(bN ⟨c,b,q⟩ k).p⟩∧(bN ⟨c,b,q⟩ k).b=(bN ⟨a,b,p⟩ k).b
 | 0=>⟨rfl,rfl⟩
 | k+1=>by
  obtain ⟨h,hb⟩:=ta a c b p q k
  refine ⟨?_,?_⟩
  ·rw [bN,h]
   simp only [bN,vk,hb]
   have:=MY (bN ⟨a,b,p⟩ k).a (bN ⟨c,b,q⟩ k).a
   unfold xt at this
   rw [this]
   congr 1
   split
   ·exact R9 _ _ _ _
   ·rfl
  ·simp only [bN,vk,hb]
theorem s_ (a b c p q:UInt8):∀k,bN ⟨a,b^^^c,p^^^q⟩ k=⟨(bN ⟨a,b,p⟩ k).a,(bN ⟨a,b,p⟩ k).b^^^(bN ⟨a,c,q⟩ k).b,(bN ⟨a,b,p⟩ k).p^^^(bN ⟨a,c,q⟩ k).p⟩∧(bN ⟨a,c,q⟩ k).a=(bN ⟨a,b,p⟩ k).a
 | 0=>⟨rfl,rfl⟩
 | k+1=>by
  obtain ⟨h,hb⟩:=s_ a b c p q k
  refine ⟨?_,?_⟩
  ·rw [bN,h]
   simp only [bN,vk,hb,Hs,Cn]
   congr 1
   rcases vt (bN ⟨a,b,p⟩ k).b with h1|h1<;>rcases vt (bN ⟨a,c,q⟩ k).b with h2|h2<;>rw [h1,h2]<;>simp [UInt8.xor_assoc]
   ·rw [UInt8.xor_comm (bN ⟨a,c,q⟩ k).p]
   ·rw [←UInt8.xor_assoc (bN ⟨a,b,p⟩ k).a,UInt8.xor_comm (bN ⟨a,b,p⟩ k).a (bN ⟨a,c,q⟩ k).p,UInt8.xor_assoc,UInt8.xor_self,UInt8.xor_zero]
  ·simp only [bN,vk,hb]
theorem iV (a c b:UInt8):eW (a^^^c) b=eW a b^^^eW c b:=by
 have:=(ta a c b 0 0 8).1
 rw [UInt8.xor_self] at this
 unfold eW;rw [this]
theorem jy (a b c:UInt8):eW a (b^^^c)=eW a b^^^eW a c:=by
 have:=(s_ a b c 0 0 8).1
 rw [UInt8.xor_self] at this
 unfold eW;rw [this]
theorem rq {f g:UInt8->UInt8} (hf:∀a b,f (a^^^b)=f a^^^f b) (hg:∀a b,g (a^^^b)=g a^^^g b) (h:∀i,i<8->f (UInt8.ofNat (2^i))=g (UInt8.ofNat (2^i))) (a:UInt8):f a=g a:=by
 have f0:f 0=0:=by have:=hf 0 0;rwa [UInt8.xor_self,UInt8.xor_self] at this
 have g0:g 0=0:=by have:=hg 0 0;rwa [UInt8.xor_self,UInt8.xor_self] at this
 have e:a=(((((((a&&&1)^^^(a&&&2))^^^(a&&&4))^^^(a&&&8))^^^(a&&&16))^^^(a&&&32))^^^(a&&&64))^^^(a&&&128):=by
  have:=p_ (fun a=>decide (a=(((((((a&&&1)^^^(a&&&2))^^^(a&&&4))^^^(a&&&8))^^^(a&&&16))^^^(a&&&32))^^^(a&&&64))^^^(a&&&128))) (by decide +kernel) a
  exact of_decide_eq_true this
 have one:∀i,i<8->a&&&UInt8.ofNat (2^i)=0∨a&&&UInt8.ofNat (2^i)=UInt8.ofNat (2^i):=by
  intro i hi
  have:=p_ (fun a=>decide (∀i,i<8->a&&&UInt8.ofNat (2^i)=0∨a&&&UInt8.ofNat (2^i)=UInt8.ofNat (2^i))) (by decide +kernel) a
  exact of_decide_eq_true this i hi
 have s:∀i,i<8->f (a&&&UInt8.ofNat (2^i))=g (a&&&UInt8.ofNat (2^i)):=by
  intro i hi
  rcases one i hi with h1|h1<;>rw [h1]
  ·rw [f0,g0]
  ·exact h i hi
 rw [e]
 simp only [hf,hg]
 rw [show f (a&&&1)=g (a&&&1) from s 0 ag,show f (a&&&2)=g (a&&&2) from s 1 ag,show f (a&&&4)=g (a&&&4) from s 2 ag,show f (a&&&8)=g (a&&&8) from s 3 ag,show f (a&&&16)=g (a&&&16) from s 4 ag,show f (a&&&32)=g (a&&&32) from s 5 ag,show f (a&&&64)=g (a&&&64) from s 6 ag,show f (a&&&128)=g (a&&&128) from s 7 ag]
theorem xU (a b:UInt8):eW a b=eW b a:=by
 refine rq (f:=fun a=>eW a b) (g:=fun a=>eW b a) (fun x y=>iV x y b) (fun x y=>jy b x y) (fun i hi=>?_) a
 refine rq (f:=fun b=>eW (UInt8.ofNat (2^i)) b) (g:=fun b=>eW b (UInt8.ofNat (2^i))) (fun x y=>jy _ x y) (fun x y=>iV x y _) (fun j hj=>?_) b
 have:∀i,i<8-> ∀j,j<8->eW (UInt8.ofNat (2^i)) (UInt8.ofNat (2^j))=eW (UInt8.ofNat (2^j)) (UInt8.ofNat (2^i)):=by decide +kernel
 exact this i hi j hj
theorem Du (a b c:UInt8):eW (eW a b) c=eW a (eW b c):=by
 refine rq (f:=fun a=>eW (eW a b) c) (g:=fun a=>eW a (eW b c)) (fun x y=>by simp only [iV]) (fun x y=>by simp only [iV]) (fun i hi=>?_) a
 refine rq (f:=fun b=>eW (eW (UInt8.ofNat (2^i)) b) c) (g:=fun b=>eW (UInt8.ofNat (2^i)) (eW b c)) (fun x y=>by simp only [iV,jy]) (fun x y=>by simp only [iV,jy]) (fun j hj=>?_) b
 refine rq (f:=fun c=>eW (eW (UInt8.ofNat (2^i)) (UInt8.ofNat (2^j))) c) (g:=fun c=>eW (UInt8.ofNat (2^i)) (eW (UInt8.ofNat (2^j)) c)) (fun x y=>by simp only [jy]) (fun x y=>by simp only [jy]) (fun k hk=>?_) c
 have:∀i,i<8-> ∀j,j<8-> ∀k,k<8->eW (eW (UInt8.ofNat (2^i)) (UInt8.ofNat (2^j))) (UInt8.ofNat (2^k))=eW (UInt8.ofNat (2^i)) (eW (UInt8.ofNat (2^j)) (UInt8.ofNat (2^k))):=by decide +kernel
 exact this i hi j hj k hk
theorem Ju (a:UInt8):eW a 1=a:=of_decide_eq_true (p_ (fun a=>decide (eW a 1=a)) (by decide +kernel) a)
theorem Il (a:UInt8):eW 1 a=a:=by rw [xU,Ju]
theorem Gy (a:UInt8):eW a 0=0:=by have:=jy a 0 0;rwa [UInt8.xor_self,UInt8.xor_self] at this
theorem FJ (a:UInt8):eW 0 a=0:=by rw [xU,Gy]
theorem xA (a b:UInt8):∀k,k≤8->(gJ a b k).x=(bN ⟨a,b,0⟩ k).a.toUInt64∧(gJ a b k).p=(bN ⟨a,b,0⟩ k).p∧(k<8->(bN ⟨a,b,0⟩ k).b=b>>>UInt8.ofNat k)
 | 0,_=>⟨rfl,rfl,fun _=>by simp [bN]⟩
 | k+1,hk=>by
  obtain ⟨h1,h2,h3⟩:=xA a b k ag
  have h3:=h3 ag
  refine ⟨?_,?_,fun h8=>?_⟩
  ·rw [gJ,uU,h1,Is]
   have:=p_ (fun a=>decide ((if (a.toUInt64<<<1)&&&256≠0 then (a.toUInt64<<<1)^^^283 else a.toUInt64<<<1)=(xt a).toUInt64)) (by decide +kernel) (bN ⟨a,b,0⟩ k).a
   exact of_decide_eq_true this
  ·rw [gJ,uU,h1,h2,bN,vk,←h3]
   have e:(bN ⟨a,b,0⟩ k).a.toUInt64.toUInt8=(bN ⟨a,b,0⟩ k).a:=by simp
   rw [e]
   rcases vt (bN ⟨a,b,0⟩ k).b with h|h<;>rw [h]<;>rfl
  ·rw [bN,vk]
   show (bN ⟨a,b,0⟩ k).b>>>1=_
   rw [h3]
   have:=p_ (fun b=>(List.range 7).all fun k=>(b>>>UInt8.ofNat k)>>>1 == b>>>UInt8.ofNat (k+1)) (by decide +kernel) b
   rw [List.all_eq_true] at this
   simpa using this k (List.mem_range.2 ag)
theorem A5 (a b:UInt8):kW a b=eW a b:=(xA a b 8 (Nat.le_refl _)).2.1
def nJ (f:Nat->UInt8):Nat->UInt8
 | 0=>0
 | n+1=>nJ f n^^^f n
theorem uz {f g:Nat->UInt8}:∀ {n:Nat},(∀i,i<n->f i=g i)->nJ f n=nJ g n
 | 0,_=>rfl
 | n+1,h=>by rw [nJ,nJ,uz (fun i hi=>h i ag),h n ag]
theorem Ay (f:Nat->UInt8) (x:UInt8):∀n,eW (nJ f n) x=nJ (fun i=>eW (f i) x) n
 | 0=>FJ x
 | n+1=>by rw [nJ,iV,Ay f x n];rfl
theorem uy (f:Nat->UInt8):∀n,nJ f (n+1)=f 0^^^nJ (fun i=>f (i+1)) n
 | 0=>by simp [nJ]
 | n+1=>by rw [nJ,uy f n,nJ,UInt8.xor_assoc]
theorem se (x:UInt8) (k:Nat):zp x (k+1)=eW (zp x k) x:=by rw [zp,A5]
theorem I2 (aY:List UInt8) (L j:Nat) (x:UInt8) (need:Nat):∀m,m≤need-1->dJ aY L j x need m=nJ (fun t=>eW (aY.getD ((need-1-m+t)*L+j) 0) (zp x (t+1))) m
 | 0,_=>rfl
 | m+1,h=>by
  rw [dJ,I2 aY L j x need m ag,iV,Ay,uy,UInt8.xor_comm]
  congr 1
  ·rw [Nat.add_zero,se,zp,Il,show need-1-m-1=need-1-(m+1) by omega]
  ·refine uz fun i hi=>?_
   rw [Du,←se,show need-1-m+i=need-1-(m+1)+(i+1) by omega]
theorem Ie (aY:List UInt8) (L j:Nat) (x c:UInt8):∀d,u_ aY L j x c d=(c^^^nJ (fun t=>eW (aY.getD (t*L+j) 0) (zp x (t+1))) d,zp x d)
 | 0=>by simp [u_,nJ,zp]
 | d+1=>by rw [u_,Ie aY L j x c d,nJ];simp only [A5,se,UInt8.xor_assoc]
theorem CN (s r:List UInt8) (need:Nat) (x:UInt8) (j:Nat):gS s r need x j=CG s r need x j:=by
 rw [gS,CG,Ie,I2 _ _ _ _ _ _ (Nat.le_refl _),UInt8.xor_comm]
 simp only [Nat.sub_self,Nat.zero_add]
theorem CM (s r:List UInt8) (need n:Int):gg s r need n=ju s r need n:=by
 unfold gg ju jI HP EG ym
 split
 ·refine List.map_congr_left fun i _=>?_
  congr 1
  exact List.map_congr_left fun j _=>CN ..
 ·rfl
theorem yz (ar aY:List UInt8) (need n:Int):bG Tryz.prog 119 [.sl 1 (aj ar),.sl 1 (aj aY),ai need,ai n] (.cw [.own 2 (af eC (gg ar aY need n)),ai (dM ar aY need n)]):=by
 refine zO Tryz.func119 91 ?_
 by_cases hl:64<ar.length
 ·have e1:dM ar aY need n=8:=by simp [dM,hl]
  refine zq<|zS<|zB 0<|zP 1 [yH [(1,{k:=ar.length})]] [.aa [17,9,8,0,1,2,3] []] [yI (aB ar)]<|iw 17 ((↑ar.length:Int)>64)<|zq<|zR<|bc<|aK (zV [yB (af eC (gg ar aY need n)= []) (by rw [gg,e1];rfl),yJ 8 (dM ar aY need n) (by rw [e1])])
 by_cases h1:need<1
 ·have e1:dM ar aY need n=9:=by simp [dM,hl,h1]
  refine zq<|zS<|zB 0<|zP 1 [yH [(1,{k:=ar.length})]] [.aa [17,9,8,0,1,2,3] []] [yI (aB ar)]<|dF 17 ((↑ar.length:Int)>64)<|zP 1 [{}] [.aa [21,17,9,8,0,1,2,3] []] (yM 4 (yT (need<1))++yM 3 (yR true))<|zT 21<|zq<|zR<|bc<|aK (zV [yB (af eC (gg ar aY need n)= []) (by rw [gg,e1];rfl),yJ 9 (dM ar aY need n) (by rw [e1])])
 by_cases h2:n<need
 ·have e1:dM ar aY need n=9:=by simp [dM,hl,h2]
  refine zq<|zS<|zB 0<|zP 1 [yH [(1,{k:=ar.length})]] [.aa [17,9,8,0,1,2,3] []] [yI (aB ar)]<|dF 17 ((↑ar.length:Int)>64)<|zP 1 [yH ([(6,{b:=false})]++yg [3,4,5])] [.aa [21,17,9,8,0,1,2,3] []] (yM 4 (yF (need<1))++yM 3 (yT (n<need)))<|zT 21<|zq<|zR<|bc<|aK (zV [yB (af eC (gg ar aY need n)= []) (by rw [gg,e1];rfl),yJ 9 (dM ar aY need n) (by rw [e1])])
 by_cases h3:255<n
 ·have e1:dM ar aY need n=9:=by simp [dM,hl,h3]
  refine zq<|zS<|zB 0<|zP 1 [yH [(1,{k:=ar.length})]] [.aa [17,9,8,0,1,2,3] []] [yI (aB ar)]<|dF 17 ((↑ar.length:Int)>64)<|zP 1 [yH ([(6,{b:=false}),(10,{b:=false})]++yg [3,4,5,8,9])] [.aa [21,17,9,8,0,1,2,3] []] (yM 4 (yF (need<1))++yM 3 (yF (n<need)))<|iw 21 (n>255)<|zq<|zR<|bc<|aK (zV [yB (af eC (gg ar aY need n)= []) (by rw [gg,e1];rfl),yJ 9 (dM ar aY need n) (by rw [e1])])
 obtain ⟨N,rfl⟩:=Int.eq_ofNat_of_zero_le (by omega:0≤need)
 obtain ⟨M,rfl⟩:=Int.eq_ofNat_of_zero_le (by omega:0≤n)
 have hp:((N:Int)-1)*ar.length≤254*64:=Int.mul_le_mul ag ag ag ag
 have Xz:0≤((N:Int)-1)*ar.length:=Int.mul_nonneg ag ag
 by_cases h4:(aY.length:Int)<((N:Int)-1)*ar.length
 ·have e1:dM ar aY N M=1:=by simp [dM,hl,h1,h2,h3,h4]
  refine zq<|zS<|zB 0<|zP 1 [yH [(1,{k:=ar.length})]] [.aa [17,9,8,0,1,2,3] []] [yI (aB ar)]<|dF 17 ((↑ar.length:Int)>64)<|zP 1 [yH ([(6,{b:=false}),(10,{b:=false})]++yg [3,4,5,8,9])] [.aa [21,17,9,8,0,1,2,3] []] (yM 4 (yF ((↑N:Int)<1))++yM 3 (yF ((↑M:Int)<(↑N:Int))))<|dF 21 ((↑M:Int)>255)<|zP 1 [yH [(1,{k:=aY.length}),(3,yV (ai ((↑N:Int)-1))),(5,{k:=ar.length}),(6,yV (ai (((↑N:Int)-1)*(↑ar.length:Int))))]] [.aa [33,21,17,9,8,0,1,2,3] []] [yI (aB aY),yN ((↑N:Int)-1),yI (aB ar),yN (((↑N:Int)-1)*(↑ar.length:Int))]<|iw 33 ((↑aY.length:Int)<((↑N:Int)-1)*(↑ar.length:Int))<|zq<|zR<|bc<|aK (zV [yB (af eC (gg ar aY (↑N:Int) (↑M:Int))= []) (by rw [gg,e1];rfl),yJ 1 (dM ar aY (↑N:Int) (↑M:Int)) (by rw [e1])])
 have e0:dM ar aY N M=0:=by simp [dM,hl,h1,h2,h3,h4]
 refine zq<|zS<|zB 0<|zP 1 [yH [(1,{k:=ar.length})]] [.aa [17,9,8,0,1,2,3] []] [yI (aB ar)]<|dF 17 ((↑ar.length:Int)>64)<|zP 1 [yH ([(6,{b:=false}),(10,{b:=false})]++yg [3,4,5,8,9])] [.aa [21,17,9,8,0,1,2,3] []] (yM 4 (yF ((↑N:Int)<1))++yM 3 (yF ((↑M:Int)<(↑N:Int))))<|dF 21 ((↑M:Int)>255)<|zP 1 [yH [(1,{k:=aY.length}),(3,yV (ai ((↑N:Int)-1))),(5,{k:=ar.length}),(6,yV (ai (((↑N:Int)-1)*(↑ar.length:Int))))]] [.aa [33,21,17,9,8,0,1,2,3] []] [yI (aB aY),yN ((↑N:Int)-1),yI (aB ar),yN (((↑N:Int)-1)*(↑ar.length:Int))]<|dF 33 ((↑aY.length:Int)<((↑N:Int)-1)*(↑ar.length:Int))<|zK<|aJ<|al<|zq<|zS<|zq<|zB 1 (zL (fun (i:Nat)=>(⟨[(0,AV.sl 1 (aj ar)),(1,AV.sl 1 (aj aY)),(2,ai ↑N),(3,ai ↑M),(10,AV.ref 89),(11,ai ((i:Int)+1))],[(89,⟨2,true,false,af eC ((List.range i).map (jI ar aY N))⟩)]⟩:AS)) (fun i=>(i≤M)) (fun i=>(M-i)) (0) ?_ (zW [.nil 10 89 2,.aa [0,1,2,3,10,11] [89]]) ?_)
 ·omega
 intro i hi
 refine zS<|zP 1 [{}] [.aa [44,0,1,2,3,10,11] [89]] [] (zD 44 ((↑i:Int)+1≤(↑M:Int)) (fun hc=>?_) (fun hc=>?_))
 ·skip
  refine a_<|zS<|zB 2<|zq<|zS<|zq<|zB 3 (zL (fun (j:Nat)=>(⟨[(0,AV.sl 1 (aj ar)),(1,AV.sl 1 (aj aY)),(2,ai ↑N),(3,ai ↑M),(10,AV.ref 89),(11,ai ((↑i:Int)+1)),(12,AV.ref 83),(13,ai j)],[(89,⟨2,true,false,af eC (List.map (jI ar aY N) (List.range i))⟩),(83,⟨1,true,false,aj ((List.range j).map (gS ar aY N (u8 (i+1))))⟩)]⟩:AS)) (fun j=>(j≤ar.length)) (fun j=>(ar.length-j)) (0) ?_ (zW [.nil 12 83 1,.aa [0,1,2,3,10,11,12,13] [89,83]]) ?_)
  ·omega
  intro j hj
  refine zS<|zP 1 [yH [(2,{k:=ar.length})]] [.aa [50,0,1,2,3,10,11,12,13] [89,83]] [yI (aB ar)] (zD 50 ((↑j:Int)<(↑ar.length:Int)) (fun h5=>?_) (fun h5=>?_))
  ·skip
   refine a_<|zS<|zB 4<|zP 1 [yH [(2,{k:=j}),(3,yV (ab (ar.getD j 0)))]] [.aa [15,14,50,0,1,2,3,10,11,12,13] [89,83]] [yR (↑j:Int),yB (j<(aj ar).length) (by simp only [aB];omega),yB ((aj ar)[j]?=some (ab (ar.getD j 0))) (o_ ag)]<|zS<|zq<|zB 5 (zL (fun (d:Nat)=>(⟨[(0,AV.sl 1 (aj ar)),(1,AV.sl 1 (aj aY)),(2,ai ↑N),(3,ai ↑M),(10,AV.ref 89),(11,ai ((↑i:Int)+1)),(12,AV.ref 83),(13,ai ↑j),(14,ab (u_ aY ar.length j (u8 (i+1)) (ar.getD j 0) d).1),(15,ab (u_ aY ar.length j (u8 (i+1)) (ar.getD j 0) d).2),(16,ai ((d:Int)+1))],[(89,⟨2,true,false,af eC (List.map (jI ar aY N) (List.range i))⟩),(83,⟨1,true,false,aj (List.map (gS ar aY N (u8 ((↑i:Int)+1))) (List.range j))⟩)]⟩:AS)) (fun d=>(d≤N-1)) (fun d=>(N-1-d)) (0) ?_ (zW [.aa [0,1,2,3,10,11,12,13,14,15,16] [89,83]]) ?_)
   ·omega
   intro d hd
   refine zS<|zP 1 [{}] [.aa [59,0,1,2,3,10,11,12,13,14,15,16] [89,83]] [] (zD 59 ((↑d:Int)+1<(↑N:Int)) (fun h6=>?_) (fun h6=>?_))
   ·have hN:d+1≤N-1:=ag
    have hk:((d:Int)+1-1)*ar.length=((d*ar.length:Nat):Int):=by
     rw [Int.natCast_mul,show (d:Int)+1-1=d by omega]
    have hb:=Nat.mul_le_mul_right ar.length hN
    rw [Nat.add_mul,Nat.one_mul] at hb
    have U4:(((N-1)*ar.length:Nat):Int)=((N:Int)-1)*ar.length:=by rw [Int.natCast_mul,show ((N-1:Nat):Int)=(N:Int)-1 by omega]
    have Hn:d+1-1=d:=ag
    have w8:((d:Int)+1-1)*ar.length+j=(((d+1-1)*ar.length+j:Nat):Int):=by rw [hk,Hn];omega
    have cW:(d+1-1)*ar.length+j<aY.length:=by rw [Hn];omega
    refine a_<|zS<|zB 6<|zP 1 [yH [(2,yV (ab (u8 ((↑i:Int)+1)))),(3,yV (ab (kW (u_ aY ar.length j (u8 ((↑i:Int)+1)) (ar.getD j 0) d).snd (u8 ((↑i:Int)+1)))))]] [.aa [15,59,0,1,2,3,10,11,12,13,14,16] [89,83]] [yI (ji ((↑i:Int)+1)),yI (u6 ((u_ aY ar.length j (u8 ((↑i:Int)+1)) (ar.getD j 0) d).snd) (u8 ((↑i:Int)+1)))]<|zX (yH [(3,yV (ai ((↑d:Int)+1-1))),(5,{k:=ar.length}),(6,yV (ai (((↑d:Int)+1-1)*(↑ar.length:Int)))),(8,yV (ai (((↑d:Int)+1-1)*(↑ar.length:Int)+(↑j:Int)))),(9,{k:=(d+1-1)*ar.length+j}),(10,yV (ab (aY.getD ((d+1-1)*ar.length+j) 0))),(12,yV (ab (kW (aY.getD ((d+1-1)*ar.length+j) 0) (kW (u_ aY ar.length j (u8 ((↑i:Int)+1)) (ar.getD j 0) d).snd (u8 ((↑i:Int)+1)))))),(13,yV (ab ((u_ aY ar.length j (u8 ((↑i:Int)+1)) (ar.getD j 0) d).fst^^^kW (aY.getD ((d+1-1)*ar.length+j) 0) (kW (u_ aY ar.length j (u8 ((↑i:Int)+1)) (ar.getD j 0) d).snd (u8 ((↑i:Int)+1))))))]) [yN ((↑d:Int)+1-1),yI (aB ar),yN (((↑d:Int)+1-1)*(↑ar.length:Int)),yN (((↑d:Int)+1-1)*(↑ar.length:Int)+(↑j:Int)),yI w8,yB ((d+1-1)*ar.length+j<(aj aY).length) (by simp only [aB];omega),yB ((aj aY)[(d+1-1)*ar.length+j]?=some (ab (aY.getD ((d+1-1)*ar.length+j) 0))) (o_ ag),yI (u6 (aY.getD ((d+1-1)*ar.length+j) 0) (kW (u_ aY ar.length j (u8 ((↑i:Int)+1)) (ar.getD j 0) d).snd (u8 ((↑i:Int)+1)))),yI (FB ((u_ aY ar.length j (u8 ((↑i:Int)+1)) (ar.getD j 0) d).fst) (kW (aY.getD ((d+1-1)*ar.length+j) 0) (kW (u_ aY ar.length j (u8 ((↑i:Int)+1)) (ar.getD j 0) d).snd (u8 ((↑i:Int)+1)))))]<|aJ<|al<|zX (yH [(1,yV (ai ((↑d:Int)+1+1)))]) [yN ((↑d:Int)+1+1)] (aH (d+1) hN ag (zW [.aa [0,1,2,3,10,11,12,13,14,15,16] [89,83]]))
   ·have e6:d=N-1:=ag
    subst e6
    refine zE 5<|a6<|aM<|bm<|al<|zX (yH [(2,yV (AV.arr (aj [(u_ aY ar.length j (u8 ((↑i:Int)+1)) (ar.getD j 0) (N-1)).fst]))),(3,yV (AV.arr (aj (List.map (gS ar aY N (u8 ((↑i:Int)+1))) (List.range j)++ [(u_ aY ar.length j (u8 ((↑i:Int)+1)) (ar.getD j 0) (N-1)).fst]))))]) [yR [ab ((u_ aY ar.length j (u8 ((↑i:Int)+1)) (ar.getD j 0) (N-1)).fst)],yB (aj (List.map (gS ar aY N (u8 ((↑i:Int)+1))) (List.range j))++aj [(u_ aY ar.length j (u8 ((↑i:Int)+1)) (ar.getD j 0) (N-1)).fst]=aj (List.map (gS ar aY N (u8 ((↑i:Int)+1))) (List.range j)++ [(u_ aY ar.length j (u8 ((↑i:Int)+1)) (ar.getD j 0) (N-1)).fst])) (db _ _),yB (((aj (List.map (gS ar aY N (u8 ((↑i:Int)+1))) (List.range j))).length+1)*1≤140737488355328) (by simp only [aB,List.length_map,List.length_range];omega)]<|aJ<|al<|zX (yH [(1,yV (ai ((↑j:Int)+1)))]) [yN ((↑j:Int)+1)] (aH (j+1) ag ag (eS [.aa [0,1,2,3,10,11,12,13] [89,83]] [] [83] [yB (aj (List.map (gS ar aY N (u8 ((↑i:Int)+1))) (List.range j)++ [(u_ aY ar.length j (u8 ((↑i:Int)+1)) (ar.getD j 0) (N-1)).fst])=aj (List.map (gS ar aY N (u8 ((↑i:Int)+1))) (List.range (j+1)))) (congrArg aj (u9 (gS ar aY N (u8 (i+1))) j))]))
  ·have e6:j=ar.length:=ag
   subst e6
   refine zE 3<|a6<|aM<|bm<|al<|zX {} [yB (((af eC (List.map (jI ar aY N) (List.range i))).length+2)*32≤281474976710656) (by simp only [List.length_map,List.length_range,aE (f:=eC) (e:=2) (fun _=>rfl)];omega)]<|aJ<|al<|zX (yH [(1,yV (ai ((↑i:Int)+1+1)))]) [yN ((↑i:Int)+1+1)] (aH (i+1) ag ag (eS [.aa [0,1,2,3,10,11] [89]] [] [89] [yB (af eC (List.map (jI ar aY N) (List.range i))++ [ai ((↑i:Int)+1),AV.sl 1 (aj (List.map (gS ar aY N (u8 ((↑i:Int)+1))) (List.range ar.length)))]=af eC (List.map (jI ar aY N) (List.range (i+1)))) (GU (f:=eC) (jI ar aY N) i)]))
 ·have e8:i=M:=ag
  subst e8
  refine zE 1<|a6<|aM<|bm<|al<|zq<|zR (zV [yB (af eC (List.map (jI ar aY N) (List.range i))=af eC (gg ar aY (↑N:Int) (↑i:Int))) (by simp [gg,e0]),yJ 0 (dM ar aY (↑N:Int) (↑i:Int)) (by rw [e0])])
theorem qn (ar aY:List UInt8) (need n:Int):bG Tryz.prog 119 [.sl 1 (aj ar),.sl 1 (aj aY),ai need,ai n] (.cw [.own 2 (af eC (ju ar aY need n)),ai (dM ar aY need n)]):=by
 rw [←CM];exact yz ar aY need n
def ff (E:Nat->Int):Nat->Int
 | 0=>0
 | n+1=>if ff E n≠0 then ff E n else E n
theorem lN {E:Nat->Int} {m:Nat} {e:Int} (he:e≠0) (h:ff E m=e):∀n,m≤n->ff E n=e
 | 0,hn=>by
  have:m=0:=ag
  subst this;exact h
 | n+1,hn=>by
  by_cases hm:m=n+1
  ·subst hm;exact h
  ·have:=lN he h n ag
   unfold ff
   rw [this,if_pos he]
def eF (x:List UInt8):Int:=if x.length<1∨32<x.length then 9 else if Lib.validD x=false then 6 else 0
def Gi (a b:List UInt8):Bool:=Op.bytesLess (⟨a.toArray⟩:ByteArray).toList (⟨b.toArray⟩:ByteArray).toList || (⟨a.toArray⟩:ByteArray).toList == (⟨b.toArray⟩:ByteArray).toList
def ny (l:List (List UInt8)) (i:Nat):Int:=if eF (l.getD i default)≠0 then eF (l.getD i default) else if 0<i∧Gi (l.getD i default) (l.getD (i-1) default)=true then 7 else 0
theorem qC {x:List UInt8} (h:x.length<1∨32<x.length):eF x=9:=by unfold eF;rw [if_pos h]
theorem y0 {x:List UInt8} (h:¬(x.length<1∨32<x.length)) (hv:Lib.validD x=false):eF x=6:=by unfold eF;rw [if_neg h,if_pos hv]
theorem EP {x:List UInt8} (h:¬(x.length<1∨32<x.length)) (hv:Lib.validD x=true):eF x=0:=by unfold eF;rw [if_neg h,if_neg (by simp [hv])]
theorem Jf {l:List (List UInt8)} {i:Nat} {e:Int} (h:eF (l.getD i default)=e) (he:e≠0):ny l i=e:=by unfold ny;rw [if_pos ag,h]
theorem Je {l:List (List UInt8)} {i k:Nat} (h:eF (l.getD i default)=0) (hk:k+1=i):ny l i=if Gi (l.getD i default) (l.getD k default)=true then 7 else 0:=by
 unfold ny
 subst hk
 rw [if_neg ag,Nat.add_sub_cancel]
 by_cases hc:Gi (l.getD (k+1) default) (l.getD k default)=true
 ·rw [if_pos ⟨ag,hc⟩,if_pos hc]
 ·rw [if_neg (fun h=>hc h.2),if_neg hc]
theorem Fe {l:List (List UInt8)} (h:eF (l.getD 0 default)=0):ny l 0=0:=by unfold ny;rw [if_neg ag,if_neg (fun h=>ag)]
def oB (n:Nat) (need:Int):Prop:=n<1∨8<n∨need<1∨(n:Int)<need
instance (n:Nat) (need:Int):Decidable (oB n need):=inferInstanceAs (Decidable (_∨_∨_∨_))
def rP (l:List (List UInt8)) (need:Int):Int:=if oB l.length need then 9 else ff (ny l) l.length
def K2 (seed:UInt64) (a8:Int):UInt64:=derive seed [100,101,112,111,115,105,116] a8
def HU (seed:UInt64) (a8:Int) (n:Nat) (need:Int):List Sh:=ju (words [K2 seed a8]) (stream (derive seed [115,104,97,114,101,115] a8) 0 (8*(need-1))) need n
def tC (seed:UInt64) (a8:Int) (l:List (List UInt8)) (need:Int):List (List UInt8):=if rP l need=0 then (List.range l.length).map (fun i=>((HU seed a8 l.length need).getD i default).2) else []
def fW (seed:UInt64) (a8:Int) (l:List (List UInt8)) (need:Int):nH :=
 if rP l need=0 then ⟨Bj (K2 seed a8),0,[],l,(List.range l.length).map (fun i=>pg (l.getD i default) ((HU seed a8 l.length need).getD i default).2),need,0⟩ else default
def Ra (d:nH):List AV:=[aw d.bV,aw d.peer,.own 1 (aj d.box),.own 1 (af ay d.ae),.own 1 (ah d.ax),ai d.need,aw d.target]
def part {T:Type} (f:Nat->T) (z:T) (n i:Nat):List T:=(List.range n).map fun k=>if k<i then f k else z
def nE (m:UInt64) (k:Nat):Nat:=m.toNat/2^(60-4*k)%16
def bo (m:UInt64):Nat->Nat
 | 0=>0
 | k+1=>bo m k+(15-nE m k)
def cB (m:UInt64):List Int:=(List.range 16).map (fun k=>(nE m k:Int))++ [((bo m 16/16:Nat):Int),((bo m 16%16:Nat):Int)]
theorem C7 (m:UInt64) (k:Nat):nE m k<16:=Nat.mod_lt _ (by decide)
theorem rT (m:UInt64) (k:Nat):bo m k≤15*k:=by
 induction k with
 | zero=>simp [bo]
 | succ k ih=>simp only [bo];omega
theorem ox (m:UInt64):(cB m).length=18:=by simp [cB]
def iL (m:UInt64) (k:Nat):List Int:=(List.range k).map fun j=>(nE m j:Int)
theorem Ce (m:UInt64) (k:Nat):iL m (k+1)=iL m k++ [(nE m k:Int)]:=by simp [iL,List.range_succ]
theorem D5 (m:UInt64) (k:Nat):(iL m k).length=k:=by simp [iL]
theorem L5 (m:UInt64):cB m=iL m 16++ [((bo m 16/16:Nat):Int),((bo m 16%16:Nat):Int)]:=rfl
def PF (leaf chain:Int) (p:Int) (x:UInt64):UInt64:=hash 1 (words [u64 leaf,u64 chain,u64 p,x])
def jU (leaf chain:Int) (p:Int) (x:UInt64):Nat->UInt64
 | 0=>x
 | n+1=>PF leaf chain (p+n) (jU leaf chain p x n)
theorem xz (leaf chain:Int) (p:Int) (x:UInt64) (n:Nat):jU leaf chain p x (n+1)=hash 1 (words [u64 leaf,u64 chain,u64 (p+n),jU leaf chain p x n]):=rfl
def run (leaf chain src dst:Int) (x:UInt64):UInt64:=jU leaf chain (max src 0) x (min dst 15-max src 0).toNat
theorem H0 (leaf chain p:Int) (x:UInt64) (a b:Nat):jU leaf chain p x (a+b)=jU leaf chain (p+a) (jU leaf chain p x a) b:=by
 induction b with
 | zero=>rfl
 | succ b ih =>
  show jU leaf chain p x (a+b+1)=_
  rw [xz,xz,ih,show p+((a+b:Nat):Int)=p+a+b by omega]
theorem FV (leaf chain p q r:Int) (x:UInt64) (h0:0≤p) (h1:p≤q) (h2:q≤r) (hp:p≤15):run leaf chain p r x=run leaf chain q r (run leaf chain p q x):=by
 unfold run
 rw [show max p 0=p by omega,show max q 0=q by omega]
 by_cases hq:q≤15
 ·have e:(min r 15-p).toNat=(q-p).toNat+(min r 15-q).toNat:=ag
  rw [e,H0,show min q 15=q by omega,show p+((q-p).toNat:Int)=q by omega]
 ·rw [show (min r 15-q).toNat=0 by omega,show min r 15=15 by omega,show min q 15=15 by omega];rfl
def ar (seed:UInt64) (leaf c:Int):UInt64:=Ar seed 1 (words [u64 leaf,u64 c])
def combine (leaf:Int) (l:List UInt64):UInt64:=hash 2 (words (u64 leaf::l))
def bK (seed:UInt64) (leaf:Int) (n:Nat):List UInt64:=(List.range n).map fun (i:Nat)=>run leaf i 0 15 (ar seed leaf i)
def bS (seed:UInt64) (leaf:Int) (m:UInt64) (n:Nat):List UInt64:=(List.range n).map fun (i:Nat)=>run leaf i 0 ((cB m).getD i 0) (ar seed leaf i)
def cP (leaf:Int) (m:UInt64) (s:List UInt64) (n:Nat):List UInt64:=(List.range n).map fun (i:Nat)=>run leaf i ((cB m).getD i 0) 15 (s.getD i 0)
theorem s5 (seed:UInt64) (leaf:Int) (n:Nat):(bK seed leaf n).length=n:=by simp [bK]
theorem oH (seed:UInt64) (leaf:Int) (m:UInt64) (n:Nat):(bS seed leaf m n).length=n:=by simp [bS]
theorem Bg (leaf:Int) (m:UInt64) (s:List UInt64) (n:Nat):(cP leaf m s n).length=n:=by simp [cP]
theorem yY (seed:UInt64) (leaf:Int) (n:Nat):bK seed leaf (n+1)=bK seed leaf n++ [run leaf n 0 15 (ar seed leaf n)]:=by simp [bK,List.range_succ]
theorem CI (seed:UInt64) (leaf:Int) (m:UInt64) (n:Nat):bS seed leaf m (n+1)=bS seed leaf m n++ [run leaf n 0 ((cB m).getD n 0) (ar seed leaf n)]:=by simp [bS,List.range_succ]
theorem F8 (leaf:Int) (m:UInt64) (s:List UInt64) (n:Nat):cP leaf m s (n+1)=cP leaf m s n++ [run leaf n ((cB m).getD n 0) 15 (s.getD n 0)]:=by simp [cP,List.range_succ]
theorem L6 (m:UInt64) (i:Nat):0≤(cB m).getD i 0∧(cB m).getD i 0≤15:=by
 have hs:=rT m 16
 by_cases h:i<16
 ·have:=C7 m i
  have e:(cB m).getD i 0=(nE m i:Int):=by simp [cB,List.getElem?_append,h]
  omega
 ·by_cases T0:i=16
  ·subst T0
   have e:(cB m).getD 16 0=((bo m 16/16:Nat):Int):=by simp [cB]
   omega
  ·by_cases WW:i=17
   ·subst WW
    have e:(cB m).getD 17 0=((bo m 16%16:Nat):Int):=by simp [cB]
    omega
   ·have e:(cB m).getD i 0=0:=by
     rw [List.getD_eq_getElem?_getD,List.getElem?_eq_none (by rw [ox];omega)];rfl
    omega
theorem Ia (seed:UInt64) (leaf:Int) (m:UInt64):cP leaf m (bS seed leaf m 18) 18=bK seed leaf 18:=by
 unfold cP bK
 apply List.map_congr_left
 intro i hi
 have jx:=List.mem_range.1 hi
 have hb:=L6 m i
 have e:(bS seed leaf m 18).getD i 0=run leaf i 0 ((cB m).getD i 0) (ar seed leaf i):=by simp [bS,jx]
 rw [e,←FV leaf i 0 _ 15 _ ag hb.1 hb.2 ag]
def jl (m:UInt64) (k:Nat):List Int:=(List.range 18).map fun j=>if j<k then (nE m j:Int) else 0
theorem J3 (m:UInt64) (k:Nat):(jl m k).length=18:=by simp [jl]
theorem L7 (m:UInt64) (k j:Nat) (hj:j<18):(jl m k).getD j 0=if j<k then (nE m j:Int) else 0:=by
 rw [List.getD_eq_getElem?_getD];simp [jl,hj]
theorem J2 (m:UInt64) (k:Nat):(jl m k).set k (nE m k:Int)=jl m (k+1):=by
 apply List.ext_getElem (by simp [jl])
 intro j h1 h2
 rw [List.getElem_set]
 simp only [jl,List.getElem_map,List.getElem_range]
 by_cases hk:k=j
 ·subst hk;rw [if_pos rfl,if_pos ag]
 ·rw [if_neg hk]
  by_cases h:j<k
  ·rw [if_pos h,if_pos ag]
  ·rw [if_neg h,if_neg ag]
theorem J4 (m:UInt64):((jl m 16).set 16 ((bo m 16/16:Nat):Int)).set 17 ((bo m 16%16:Nat):Int)=cB m:=by
 simp [jl,cB,List.range_succ]
def cU (n:Nat) (l:List UInt64) (k:Nat):List UInt64:=l.take k++List.replicate (n-k) 0
theorem kL {n k:Nat} {l:List UInt64} (hl:l.length=n) (hk:k≤n):(cU n l k).length=n:=by simp [cU];omega
theorem lg {n:Nat} {l:List UInt64} (hl:l.length=n):cU n l n=l:=by simp [cU,←hl]
theorem mB {n k:Nat} {l:List UInt64} (hl:l.length=n) (hk:k<n):(cU n l k).set k (l.getD k 0)=cU n l (k+1):=by
 apply List.ext_getElem (by simp [cU];omega)
 intro j h1 h2
 have hj:j<n:=by rw [List.length_set,kL hl ag] at h1;exact h1
 rw [List.getElem_set]
 by_cases h:k=j
 ·subst h
  simp [cU,hl,hk,List.getElem_append]
  omega
 ·rw [if_neg h]
  simp only [cU,List.getElem_append,List.length_take,hl]
  by_cases w_:j<k
  ·simp [show j<min k n by omega,show j<min (k+1) n by omega]
  ·simp [show ¬j<min k n by omega,show ¬j<min (k+1) n by omega]
theorem HR (seed:UInt64) (leaf:Int) (m:UInt64) (i:Nat) (h:i<18):(bS seed leaf m 18).getD i 0=run leaf i 0 ((cB m).getD i 0) (ar seed leaf i):=by simp [bS,h]
theorem La (leaf:Int) (m:UInt64) (s:List UInt64) (i:Nat) (h:i<18):(cP leaf m s 18).getD i 0=run leaf i ((cB m).getD i 0) 15 (s.getD i 0):=by simp [cP,h]
theorem CY (seed:UInt64) (leaf:Int) (i:Nat) (h:i<18):(bK seed leaf 18).getD i 0=run leaf i 0 15 (ar seed leaf i):=by simp [bK,h]
theorem ES (m:UInt64) (k:Nat) (hk:k≤15):wv ((m>>>UInt64.ofNat (60-4*k))&&&15)=(nE m k:Int):=by
 unfold wv nE
 rw [UInt64.toNat_and,UInt64.toNat_shiftRight,UInt64.toNat_ofNat_of_lt' (by show _<2^64;omega),Nat.mod_eq_of_lt ag,Nat.shiftRight_eq_div_pow]
 rw [show (15:UInt64).toNat=2^4-1 from rfl,Nat.and_two_pow_sub_one_eq_mod]
end Go.Proofs.YtjgbhhnghedgdaaGreatDoor
