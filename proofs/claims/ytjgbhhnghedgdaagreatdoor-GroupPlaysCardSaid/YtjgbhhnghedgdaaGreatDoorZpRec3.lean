import Derived.Test.YtjgbhhnghedgdaaGreatDoorZpEx3
import Derived.Test.YtjgbhhnghedgdaaGreatDoorZpRN
import Derived.StillTailTactics
import Derived.Deep.RegionWith
import Derived.Deep.DeepCutAuto
set_option linter.all false
namespace Go.Proofs.YtjgbhhnghedgdaaGreatDoor
open Go.RowKit
set_option maxRecDepth 100000
set_option maxHeartbeats 4000000
def sD (r:List UInt8):List AV:=[.sl 1 (ag r)]
theorem vD.pP (w:World) (e:TypeId):vD (w.alloc (.cells #[] e)) w.heap.size (.slice (some ⟨w.heap.size,0,none⟩) 0 0) [] :=
 .inr ⟨w.heap.size,0,#[],e,(0,0),rfl,Nat.le_refl _,heap_alloc_new w _,by simp,by simp,rfl,rfl,by simp⟩
theorem ku {P:Program} {w:World} {t e:TypeId} (ht:P.underlying t=some (.slice e)) (A:Option Addr) (n c:Nat):(binOp .eql t (.slice A n c) (.slice none 0 0)).run P w= .ok (.bool A.isNone) w:=by
 have key:∀d,(Op.equalIn (d+1) t (.slice A n c) (.slice none 0 0)).run P w= .ok A.isNone w:=by
  intro d
  unfold Op.equalIn
  cases A<;>simp [run_underlying ht]
 show (Op.equalIn (9999+1) t (.slice A n c) (.slice none 0 0) >>= fun b=>pure (Value.bool b)).run P w=_
 rw [Sem.run_bind,key 9999]
 rfl
theorem FP (v:Value) (l:List UInt8) (w:World) (h:iX w v (sf l)) (hl:l.length≤70368744177664) :
  Calls Tryz.prog 100 #[v] w fun e w'=>qs w e w' l:=by
 have h':=h
 obtain ⟨A,c,rfl,hc,hm,hr⟩:=h
 rcases A with _|ad
 ·have yW:l= []:=by
   rcases Nat.eq_zero_or_pos l.length with h0|h0
   ·exact List.length_eq_zero_iff.1 h0
   ·obtain ⟨ad,h,_⟩:=hr.2 (by rw [gf];exact h0)
    cases h
  subst yW
  have hq:= @ku Tryz.prog w 25 5 Tryz.underlying25 none (sf []).length c
  go_enter Tryz.func100,Tryz.ntmps100
  go_wp2
  go_ret
  exact ⟨_,rfl,.inl ⟨rfl,rfl⟩,Below.refl _ _⟩
 ·have SB:=Lib.hid h'
  clear h' hr
  have hq:= @ku Tryz.prog w 25 5 Tryz.underlying25 (some ad) (sf l).length c
  go_enter Tryz.func100,Tryz.ntmps100
  go_wp2_with (at_builtin;refine tg _ rfl _ _ 25 rfl E8 w.heap.size _ _ rfl (vD.pP w _) _ (sf l) rfl (SB.out.below ((Below.refl _ _).alloc (Nat.le_refl _) _)) (Ev _) (by rw [gf];simp;omega) (by simp) ?_;intro v2 w2 Ga Pu _)
  go_ret
  exact ⟨_,rfl,by simpa using Ga,((Below.refl w.heap.size w).alloc (Nat.le_refl _) _).Dz (vD.pP w _) Pu⟩
theorem FO (l:List UInt8) (hl:l.length≤70368744177664):bK Tryz.prog 100 [.sl 1 (ag l)] (.own 1 (ag l)):=by
 refine bK.Af fun w vs h1 hr=>?_
 obtain ⟨a,rfl⟩:=Ey h1 rfl
 exact FP a l w (v_ (hr 0 a _ rfl rfl) fun _ h=>h) hl
def pz (us:List Value):List AV:=us.map AV.val
theorem lF (us:List Value):(pz us).length=us.length:=by simp [pz]
theorem GX {S:Nat->Prop} {w:World} {v:Value} {bs:List Value} (h:cA S w v (.sl 1 (pz bs))) (hS:∀b,S b->b<w.heap.size):iX w v bs:=by
 cases h with
 | sl A n c e us row hl hn hc hm ha h =>
  have Ff:us=bs:=by
   apply List.ext_getElem?
   intro j
   cases hu:us[j]? with
   | none =>
    have:us.length≤j:=List.getElem?_eq_none_iff.1 hu
    rw [List.getElem?_eq_none (by rw [lF] at hl;omega)]
   | some u =>
    have hj:j<bs.length:=by have:=(List.getElem?_eq_some_iff.1 hu).1;rw [hl,lF] at this;exact this
    have hx:(pz bs)[j]?=some (.val bs[j]):=by simp [pz,hj]
    have:=h j u _ hu hx
    cases this
    simp [hj]
  subst Ff
  rw [lF] at hn ha
  have sr:us.length=n:=aj
  subst sr
  exact ⟨A,c,rfl,hc,hm,rfl,fun h0=>by
   obtain ⟨ad,e,hs,bu⟩:=ha h0
   exact ⟨ad,e,hS _ hs,bu⟩⟩
def EC (w:World) (e:Ending) (w':World) (us:List Value):Prop:=∃v,e= .returned v∧vD w' w.heap.size v us∧Below w.heap.size w w'
theorem bK.Ka {P:Program} {f:FuncId} {args:List AV} {us:List Value} (h:∀(w:World) (vs:List Value),vs.length=args.length->(∀(j:Nat) v x,vs[j]?=some v->args[j]?=some x->cA (fun b=>b<w.heap.size) w v x) ->
  Calls P f vs.toArray w fun e w'=>EC w e w' us):bK P f args (.own 1 (pz us)):=by
 intro w S vs _ hS hl hr
 refine (h w vs hl fun j v x hv hx=>(hr j v x hv hx).mono fun b hb=>⟨hS b hb,rfl⟩).mono fun e w' ⟨v,he,ho,hb⟩=>?_
 rcases ho with ⟨rfl,hn⟩|⟨g,cap,cur,te,fr,rfl,AA,hg,Fk,sR,wE,LA,gH⟩
 ·subst hn
  exact ⟨_,[],he,hb,List.nodup_nil,by simp,.inl (.inl (.nil 1))⟩
 ·have dd:g<w'.heap.size:=by
   rcases Nat.lt_or_ge g w'.heap.size with h|h
   ·exact h
   ·rw [Array.getElem?_eq_none h] at hg;cases hg
  refine ⟨_,[g],he,hb,by simp,by simp [AA,dd],.inl (.inl (.own g _ cap 1 (pz us) cur te fr hg (fun j hj=>gH j aj) (by rw [lF,Nat.one_mul]) Fk sR aj ?_))⟩
  intro j u x hu hx
  have hj:j<us.length:=by have:=(List.getElem?_eq_some_iff.1 hx).1;rwa [lF] at this
  have Jz:x= .val us[j]:=by simp [pz,hj] at hx;exact hx.symm
  subst Jz
  have HP:us[j]?=some u:=by
   rw [←LA,List.getElem?_take_of_lt hj];simpa using hu
  have:u=us[j]:=by simp [hj] at HP;exact HP.symm
  subst this
  exact .val _
theorem Kq:(Tryz.prog.info? 9).map (fun i=>(i.zero,i.size,i.bytes))=some (some (.string ⟨#[]⟩),1,16):=by kernel_rfl
theorem SC:Bq Tryz.prog 26 9 (.string ⟨#[]⟩) 16:=by
 obtain ⟨i,h,h1,h2,h3⟩:=info_parts Kq
 exact ⟨Tryz.underlying26,⟨i,h,h1,h2,h3⟩,rfl,by decide⟩
set_option maxRecDepth 100000 in
theorem BJ (v:Value) (l:List Value) (w:World) (h:iX w v l) (h1:∀u∈l,u.oneCell'=true) (hl:l.length≤1000000) :
  Calls Tryz.prog 101 #[v] w fun e w'=>EC w e w' l:=by
 have h':=h
 obtain ⟨A,c,rfl,hc,hm,hr⟩:=h
 rcases A with _|ad
 ·have yW:l= []:=by
   rcases Nat.eq_zero_or_pos l.length with h0|h0
   ·exact List.length_eq_zero_iff.1 h0
   ·obtain ⟨ad,h,_⟩:=hr.2 h0
    cases h
  clear h' hr
  have hq:= @ku Tryz.prog w 26 9 Tryz.underlying26 none l.length c
  have HL:=Lib.hid yW
  clear yW
  go_enter Tryz.func101,Tryz.ntmps101
  go_wp2
  go_ret
  exact ⟨_,rfl,.inl ⟨rfl,HL.out⟩,Below.refl _ _⟩
 ·have SB:=Lib.hid h'
  clear h' hr
  have hq:= @ku Tryz.prog w 26 9 Tryz.underlying26 (some ad) l.length c
  go_enter Tryz.func101,Tryz.ntmps101
  go_wp2_with (at_builtin;refine tg _ rfl _ _ 26 rfl SC w.heap.size _ _ rfl (vD.pP w _) _ l rfl (SB.out.below ((Below.refl _ _).alloc (Nat.le_refl _) _)) h1 (by simp;omega) (by simp) ?_;intro v2 w2 Ga Pu _)
  go_ret
  exact ⟨_,rfl,by simpa using Ga,((Below.refl w.heap.size w).alloc (Nat.le_refl _) _).Dz (vD.pP w _) Pu⟩
theorem BI (l:List (List UInt8)) (hl:l.length≤1000000):bK Tryz.prog 101 [.sl 1 (af (fun s=>[cZ s]) l)] (.own 1 (af (fun s=>[cZ s]) l)):=by
 have e:af (fun s:List UInt8=>[cZ s]) l=pz (l.map fun s=>.string ⟨s.toArray⟩):=by
  induction l with
  | nil=>rfl
  | cons x l ih=>rw [jh,ih (by simp at hl;omega)];rfl
 rw [e]
 refine bK.Ka fun w vs h1 hr=>?_
 obtain ⟨a,rfl⟩:=Ey h1 rfl
 exact BJ a _ w (GX (hr 0 a _ rfl rfl) fun _ h=>h) (by simp [Value.oneCell']) (by simpa using hl)
def xt (a:UInt8):UInt8:=if a&&&128≠0 then (a<<<1)^^^27 else a<<<1
theorem pj (p:UInt8->Bool) (h:(List.range 256).all (fun n=>p (UInt8.ofNat n))=true) (a:UInt8):p a=true:=by
 rw [List.all_eq_true] at h
 have:=h a.toNat (List.mem_range.2 (UInt8.toNat_lt a))
 simpa using this
theorem Bl (a b c:UInt8):(a^^^b)&&&c=(a&&&c)^^^(b&&&c):=by
 apply UInt8.toBitVec_inj.1;simp only [UInt8.toBitVec_and,UInt8.toBitVec_xor];ext i hi;simp;cases a.toBitVec[i]<;>cases b.toBitVec[i]<;>cases c.toBitVec[i]<;>rfl
theorem Gi (a b:UInt8):(a^^^b)<<<1=(a<<<1)^^^(b<<<1):=by
 apply UInt8.toBitVec_inj.1;simp [UInt8.toBitVec_shiftLeft,UInt8.toBitVec_xor,BitVec.shiftLeft_xor_distrib]
theorem Gh (a b:UInt8):(a^^^b)>>>1=(a>>>1)^^^(b>>>1):=by
 apply UInt8.toBitVec_inj.1;simp [UInt8.toBitVec_shiftRight,UInt8.toBitVec_xor,BitVec.ushiftRight_xor_distrib]
theorem QM (a b c d:UInt8):(a^^^b)^^^(c^^^d)=(a^^^c)^^^(b^^^d):=by
 rw [UInt8.xor_assoc,UInt8.xor_assoc,←UInt8.xor_assoc b,UInt8.xor_comm b c,UInt8.xor_assoc c]
theorem Az (a:UInt8):a&&&128=0∨a&&&128=128:=by
 have:=pj (fun a=>decide (a&&&128=0∨a&&&128=128)) (by decide +kernel) a
 exact of_decide_eq_true this
theorem ug (a:UInt8):a&&&1=0∨a&&&1=1:=by
 have:=pj (fun a=>decide (a&&&1=0∨a&&&1=1)) (by decide +kernel) a
 exact of_decide_eq_true this
theorem LU (a b:UInt8):xt (a^^^b)=xt a^^^xt b:=by
 unfold xt
 rw [Bl,Gi]
 rcases Az a with h|h<;>rcases Az b with k|k<;>rw [h,k]<;>simp [UInt8.xor_assoc]
 ·rw [UInt8.xor_comm 27]
 ·rw [←UInt8.xor_assoc 27,UInt8.xor_comm 27,UInt8.xor_assoc];simp
theorem Ho (a b p:UInt8) (k:Nat):(bP ⟨a,b,p⟩ (k+1)).a=xt (bP ⟨a,b,p⟩ k).a:=rfl
theorem rU (a c b p q:UInt8):∀k,bP ⟨a^^^c,b,p^^^q⟩ k=⟨(bP ⟨a,b,p⟩ k).a^^^(bP ⟨c,b,q⟩ k).a,(bP ⟨a,b,p⟩ k).b,(bP ⟨a,b,p⟩ k).p^^^(bP ⟨c,b,q⟩ k).p⟩∧(bP ⟨c,b,q⟩ k).b=(bP ⟨a,b,p⟩ k).b
 | 0=>⟨rfl,rfl⟩
 | k+1=>by
  obtain ⟨h,hb⟩:=rU a c b p q k
  refine ⟨?_,?_⟩
  ·rw [bP,h]
   simp only [bP,tZ,hb]
   have:=LU (bP ⟨a,b,p⟩ k).a (bP ⟨c,b,q⟩ k).a
   unfold xt at this
   rw [this]
   congr 1
   split
   ·exact QM _ _ _ _
   ·rfl
  ·simp only [bP,tZ,hb]
theorem rT (a b c p q:UInt8):∀k,bP ⟨a,b^^^c,p^^^q⟩ k=⟨(bP ⟨a,b,p⟩ k).a,(bP ⟨a,b,p⟩ k).b^^^(bP ⟨a,c,q⟩ k).b,(bP ⟨a,b,p⟩ k).p^^^(bP ⟨a,c,q⟩ k).p⟩∧(bP ⟨a,c,q⟩ k).a=(bP ⟨a,b,p⟩ k).a
 | 0=>⟨rfl,rfl⟩
 | k+1=>by
  obtain ⟨h,hb⟩:=rT a b c p q k
  refine ⟨?_,?_⟩
  ·rw [bP,h]
   simp only [bP,tZ,hb,Gh,Bl]
   congr 1
   rcases ug (bP ⟨a,b,p⟩ k).b with h1|h1<;>rcases ug (bP ⟨a,c,q⟩ k).b with h2|h2<;>rw [h1,h2]<;>simp [UInt8.xor_assoc]
   ·rw [UInt8.xor_comm (bP ⟨a,c,q⟩ k).p]
   ·rw [←UInt8.xor_assoc (bP ⟨a,b,p⟩ k).a,UInt8.xor_comm (bP ⟨a,b,p⟩ k).a (bP ⟨a,c,q⟩ k).p,UInt8.xor_assoc,UInt8.xor_self,UInt8.xor_zero]
  ·simp only [bP,tZ,hb]
theorem iD (a c b:UInt8):eu (a^^^c) b=eu a b^^^eu c b:=by
 have:=(rU a c b 0 0 8).1
 rw [UInt8.xor_self] at this
 unfold eu;rw [this]
theorem je (a b c:UInt8):eu a (b^^^c)=eu a b^^^eu a c:=by
 have:=(rT a b c 0 0 8).1
 rw [UInt8.xor_self] at this
 unfold eu;rw [this]
theorem qp {f g:UInt8->UInt8} (hf:∀a b,f (a^^^b)=f a^^^f b) (hg:∀a b,g (a^^^b)=g a^^^g b) (h:∀i,i<8->f (UInt8.ofNat (2^i))=g (UInt8.ofNat (2^i))) (a:UInt8):f a=g a:=by
 have f0:f 0=0:=by have:=hf 0 0;rwa [UInt8.xor_self,UInt8.xor_self] at this
 have g0:g 0=0:=by have:=hg 0 0;rwa [UInt8.xor_self,UInt8.xor_self] at this
 have e:a=(((((((a&&&1)^^^(a&&&2))^^^(a&&&4))^^^(a&&&8))^^^(a&&&16))^^^(a&&&32))^^^(a&&&64))^^^(a&&&128):=by
  have:=pj (fun a=>decide (a=(((((((a&&&1)^^^(a&&&2))^^^(a&&&4))^^^(a&&&8))^^^(a&&&16))^^^(a&&&32))^^^(a&&&64))^^^(a&&&128))) (by decide +kernel) a
  exact of_decide_eq_true this
 have one:∀i,i<8->a&&&UInt8.ofNat (2^i)=0∨a&&&UInt8.ofNat (2^i)=UInt8.ofNat (2^i):=by
  intro i hi
  have:=pj (fun a=>decide (∀i,i<8->a&&&UInt8.ofNat (2^i)=0∨a&&&UInt8.ofNat (2^i)=UInt8.ofNat (2^i))) (by decide +kernel) a
  exact of_decide_eq_true this i hi
 have s:∀i,i<8->f (a&&&UInt8.ofNat (2^i))=g (a&&&UInt8.ofNat (2^i)):=by
  intro i hi
  rcases one i hi with h1|h1<;>rw [h1]
  ·rw [f0,g0]
  ·exact h i hi
 rw [e]
 simp only [hf,hg]
 rw [show f (a&&&1)=g (a&&&1) from s 0 aj,show f (a&&&2)=g (a&&&2) from s 1 aj,show f (a&&&4)=g (a&&&4) from s 2 aj,show f (a&&&8)=g (a&&&8) from s 3 aj,show f (a&&&16)=g (a&&&16) from s 4 aj,show f (a&&&32)=g (a&&&32) from s 5 aj,show f (a&&&64)=g (a&&&64) from s 6 aj,show f (a&&&128)=g (a&&&128) from s 7 aj]
theorem wG (a b:UInt8):eu a b=eu b a:=by
 refine qp (f:=fun a=>eu a b) (g:=fun a=>eu b a) (fun x y=>iD x y b) (fun x y=>je b x y) (fun i hi=>?_) a
 refine qp (f:=fun b=>eu (UInt8.ofNat (2^i)) b) (g:=fun b=>eu b (UInt8.ofNat (2^i))) (fun x y=>je _ x y) (fun x y=>iD x y _) (fun j hj=>?_) b
 have:∀i,i<8-> ∀j,j<8->eu (UInt8.ofNat (2^i)) (UInt8.ofNat (2^j))=eu (UInt8.ofNat (2^j)) (UInt8.ofNat (2^i)):=by decide +kernel
 exact this i hi j hj
theorem Cr (a b c:UInt8):eu (eu a b) c=eu a (eu b c):=by
 refine qp (f:=fun a=>eu (eu a b) c) (g:=fun a=>eu a (eu b c)) (fun x y=>by simp only [iD]) (fun x y=>by simp only [iD]) (fun i hi=>?_) a
 refine qp (f:=fun b=>eu (eu (UInt8.ofNat (2^i)) b) c) (g:=fun b=>eu (UInt8.ofNat (2^i)) (eu b c)) (fun x y=>by simp only [iD,je]) (fun x y=>by simp only [iD,je]) (fun j hj=>?_) b
 refine qp (f:=fun c=>eu (eu (UInt8.ofNat (2^i)) (UInt8.ofNat (2^j))) c) (g:=fun c=>eu (UInt8.ofNat (2^i)) (eu (UInt8.ofNat (2^j)) c)) (fun x y=>by simp only [je]) (fun x y=>by simp only [je]) (fun k hk=>?_) c
 have:∀i,i<8-> ∀j,j<8-> ∀k,k<8->eu (eu (UInt8.ofNat (2^i)) (UInt8.ofNat (2^j))) (UInt8.ofNat (2^k))=eu (UInt8.ofNat (2^i)) (eu (UInt8.ofNat (2^j)) (UInt8.ofNat (2^k))):=by decide +kernel
 exact this i hi j hj k hk
theorem Ip (a:UInt8):eu a 1=a:=of_decide_eq_true (pj (fun a=>decide (eu a 1=a)) (by decide +kernel) a)
theorem Hf (a:UInt8):eu 1 a=a:=by rw [wG,Ip]
theorem Ft (a:UInt8):eu a 0=0:=by have:=je a 0 0;rwa [UInt8.xor_self,UInt8.xor_self] at this
theorem EF (a:UInt8):eu 0 a=0:=by rw [wG,Ft]
theorem v8 (a b:UInt8):∀k,k≤8->(gr a b k).x=(bP ⟨a,b,0⟩ k).a.toUInt64∧(gr a b k).p=(bP ⟨a,b,0⟩ k).p∧(k<8->(bP ⟨a,b,0⟩ k).b=b>>>UInt8.ofNat k)
 | 0,_=>⟨rfl,rfl,fun _=>by simp [bP]⟩
 | k+1,hk=>by
  obtain ⟨h1,h2,h3⟩:=v8 a b k aj
  have h3:=h3 aj
  refine ⟨?_,?_,fun h8=>?_⟩
  ·rw [gr,tF,h1,Ho]
   have:=pj (fun a=>decide ((if (a.toUInt64<<<1)&&&256≠0 then (a.toUInt64<<<1)^^^283 else a.toUInt64<<<1)=(xt a).toUInt64)) (by decide +kernel) (bP ⟨a,b,0⟩ k).a
   exact of_decide_eq_true this
  ·rw [gr,tF,h1,h2,bP,tZ,←h3]
   have e:(bP ⟨a,b,0⟩ k).a.toUInt64.toUInt8=(bP ⟨a,b,0⟩ k).a:=by simp
   rw [e]
   rcases ug (bP ⟨a,b,0⟩ k).b with h|h<;>rw [h]<;>rfl
  ·rw [bP,tZ]
   show (bP ⟨a,b,0⟩ k).b>>>1=_
   rw [h3]
   have:=pj (fun b=>(List.range 7).all fun k=>(b>>>UInt8.ofNat k)>>>1 == b>>>UInt8.ofNat (k+1)) (by decide +kernel) b
   rw [List.all_eq_true] at this
   simpa using this k (List.mem_range.2 aj)
theorem zw (a b:UInt8):ky a b=eu a b:=(v8 a b 8 (Nat.le_refl _)).2.1
def mW (f:Nat->UInt8):Nat->UInt8
 | 0=>0
 | n+1=>mW f n^^^f n
theorem tf {f g:Nat->UInt8}:∀ {n:Nat},(∀i,i<n->f i=g i)->mW f n=mW g n
 | 0,_=>rfl
 | n+1,h=>by rw [mW,mW,tf (fun i hi=>h i aj),h n aj]
theorem yZ (f:Nat->UInt8) (x:UInt8):∀n,eu (mW f n) x=mW (fun i=>eu (f i) x) n
 | 0=>EF x
 | n+1=>by rw [mW,iD,yZ f x n];rfl
theorem td (f:Nat->UInt8):∀n,mW f (n+1)=f 0^^^mW (fun i=>f (i+1)) n
 | 0=>by simp [mW]
 | n+1=>by rw [mW,td f n,mW,UInt8.xor_assoc]
theorem q8 (x:UInt8) (k:Nat):xQ x (k+1)=eu (xQ x k) x:=by rw [xQ,zw]
theorem HR (aS:List UInt8) (L j:Nat) (x:UInt8) (need:Nat):∀m,m≤need-1->dL aS L j x need m=mW (fun t=>eu (aS.getD ((need-1-m+t)*L+j) 0) (xQ x (t+1))) m
 | 0,_=>rfl
 | m+1,h=>by
  rw [dL,HR aS L j x need m aj,iD,yZ,td,UInt8.xor_comm]
  congr 1
  ·rw [Nat.add_zero,q8,xQ,Hf,show need-1-m-1=need-1-(m+1) by omega]
  ·refine tf fun i hi=>?_
   rw [Cr,←q8,show need-1-m+i=need-1-(m+1)+(i+1) by omega]
theorem G_ (aS:List UInt8) (L j:Nat) (x c:UInt8):∀d,tQ aS L j x c d=(c^^^mW (fun t=>eu (aS.getD (t*L+j) 0) (xQ x (t+1))) d,xQ x d)
 | 0=>by simp [tQ,mW,xQ]
 | d+1=>by rw [tQ,G_ aS L j x c d,mW];simp only [zw,q8,UInt8.xor_assoc]
theorem BM (s r:List UInt8) (need:Nat) (x:UInt8) (j:Nat):gE s r need x j=BE s r need x j:=by
 rw [gE,BE,G_,HR _ _ _ _ _ _ (Nat.le_refl _),UInt8.xor_comm]
 simp only [Nat.sub_self,Nat.zero_add]
theorem BL (s r:List UInt8) (need n:Int):fO s r need n=iK s r need n:=by
 unfold fO iK jr GD DI w6
 split
 ·refine List.map_congr_left fun i _=>?_
  congr 1
  exact List.map_congr_left fun j _=>BM ..
 ·rfl
theorem xg (ar aS:List UInt8) (need n:Int):bK Tryz.prog 119 [.sl 1 (ag ar),.sl 1 (ag aS),ai need,ai n] (.br [.own 2 (af dK (fO ar aS need n)),ai (dj ar aS need n)]):=by
 refine zO Tryz.func119 91 ?_
 by_cases hl:64<ar.length
 ·have e1:dj ar aS need n=8:=by simp [dj,hl]
  refine zq<|zS<|zB 0<|zP 1 [yH [(1,{k:=ar.length})]] [.aa [17,9,8,0,1,2,3] []] [yI (aC ar)]<|ib 17 ((↑ar.length:Int)>64)<|zq<|zR<|bc<|aK (zV [yB (af dK (fO ar aS need n)= []) (by rw [fO,e1];rfl),yJ 8 (dj ar aS need n) (by rw [e1])])
 by_cases h1:need<1
 ·have e1:dj ar aS need n=9:=by simp [dj,hl,h1]
  refine zq<|zS<|zB 0<|zP 1 [yH [(1,{k:=ar.length})]] [.aa [17,9,8,0,1,2,3] []] [yI (aC ar)]<|dp 17 ((↑ar.length:Int)>64)<|zP 1 [{}] [.aa [21,17,9,8,0,1,2,3] []] (yM 4 (yT (need<1))++yM 3 (yR true))<|zT 21<|zq<|zR<|bc<|aK (zV [yB (af dK (fO ar aS need n)= []) (by rw [fO,e1];rfl),yJ 9 (dj ar aS need n) (by rw [e1])])
 by_cases h2:n<need
 ·have e1:dj ar aS need n=9:=by simp [dj,hl,h2]
  refine zq<|zS<|zB 0<|zP 1 [yH [(1,{k:=ar.length})]] [.aa [17,9,8,0,1,2,3] []] [yI (aC ar)]<|dp 17 ((↑ar.length:Int)>64)<|zP 1 [yH ([(6,{b:=false})]++yg [3,4,5])] [.aa [21,17,9,8,0,1,2,3] []] (yM 4 (yF (need<1))++yM 3 (yT (n<need)))<|zT 21<|zq<|zR<|bc<|aK (zV [yB (af dK (fO ar aS need n)= []) (by rw [fO,e1];rfl),yJ 9 (dj ar aS need n) (by rw [e1])])
 by_cases h3:255<n
 ·have e1:dj ar aS need n=9:=by simp [dj,hl,h3]
  refine zq<|zS<|zB 0<|zP 1 [yH [(1,{k:=ar.length})]] [.aa [17,9,8,0,1,2,3] []] [yI (aC ar)]<|dp 17 ((↑ar.length:Int)>64)<|zP 1 [yH ([(6,{b:=false}),(10,{b:=false})]++yg [3,4,5,8,9])] [.aa [21,17,9,8,0,1,2,3] []] (yM 4 (yF (need<1))++yM 3 (yF (n<need)))<|ib 21 (n>255)<|zq<|zR<|bc<|aK (zV [yB (af dK (fO ar aS need n)= []) (by rw [fO,e1];rfl),yJ 9 (dj ar aS need n) (by rw [e1])])
 obtain ⟨N,rfl⟩:=Int.eq_ofNat_of_zero_le (by omega:0≤need)
 obtain ⟨M,rfl⟩:=Int.eq_ofNat_of_zero_le (by omega:0≤n)
 have hp:((N:Int)-1)*ar.length≤254*64:=Int.mul_le_mul aj aj aj aj
 have VL:0≤((N:Int)-1)*ar.length:=Int.mul_nonneg aj aj
 by_cases h4:(aS.length:Int)<((N:Int)-1)*ar.length
 ·have e1:dj ar aS N M=1:=by simp [dj,hl,h1,h2,h3,h4]
  refine zq<|zS<|zB 0<|zP 1 [yH [(1,{k:=ar.length})]] [.aa [17,9,8,0,1,2,3] []] [yI (aC ar)]<|dp 17 ((↑ar.length:Int)>64)<|zP 1 [yH ([(6,{b:=false}),(10,{b:=false})]++yg [3,4,5,8,9])] [.aa [21,17,9,8,0,1,2,3] []] (yM 4 (yF ((↑N:Int)<1))++yM 3 (yF ((↑M:Int)<(↑N:Int))))<|dp 21 ((↑M:Int)>255)<|zP 1 [yH [(1,{k:=aS.length}),(3,yV (ai ((↑N:Int)-1))),(5,{k:=ar.length}),(6,yV (ai (((↑N:Int)-1)*(↑ar.length:Int))))]] [.aa [33,21,17,9,8,0,1,2,3] []] [yI (aC aS),yN ((↑N:Int)-1),yI (aC ar),yN (((↑N:Int)-1)*(↑ar.length:Int))]<|ib 33 ((↑aS.length:Int)<((↑N:Int)-1)*(↑ar.length:Int))<|zq<|zR<|bc<|aK (zV [yB (af dK (fO ar aS (↑N:Int) (↑M:Int))= []) (by rw [fO,e1];rfl),yJ 1 (dj ar aS (↑N:Int) (↑M:Int)) (by rw [e1])])
 have e0:dj ar aS N M=0:=by simp [dj,hl,h1,h2,h3,h4]
 refine zq<|zS<|zB 0<|zP 1 [yH [(1,{k:=ar.length})]] [.aa [17,9,8,0,1,2,3] []] [yI (aC ar)]<|dp 17 ((↑ar.length:Int)>64)<|zP 1 [yH ([(6,{b:=false}),(10,{b:=false})]++yg [3,4,5,8,9])] [.aa [21,17,9,8,0,1,2,3] []] (yM 4 (yF ((↑N:Int)<1))++yM 3 (yF ((↑M:Int)<(↑N:Int))))<|dp 21 ((↑M:Int)>255)<|zP 1 [yH [(1,{k:=aS.length}),(3,yV (ai ((↑N:Int)-1))),(5,{k:=ar.length}),(6,yV (ai (((↑N:Int)-1)*(↑ar.length:Int))))]] [.aa [33,21,17,9,8,0,1,2,3] []] [yI (aC aS),yN ((↑N:Int)-1),yI (aC ar),yN (((↑N:Int)-1)*(↑ar.length:Int))]<|dp 33 ((↑aS.length:Int)<((↑N:Int)-1)*(↑ar.length:Int))<|zK<|aL<|ak<|zq<|zS<|zq<|zB 1 (zL (fun (i:Nat)=>(⟨[(0,AV.sl 1 (ag ar)),(1,AV.sl 1 (ag aS)),(2,ai ↑N),(3,ai ↑M),(10,AV.ref 89),(11,ai ((i:Int)+1))],[(89,⟨2,true,false,af dK ((List.range i).map (jr ar aS N))⟩)]⟩:AS)) (fun i=>(i≤M)) (fun i=>(M-i)) (0) ?_ (zW [.nil 10 89 2,.aa [0,1,2,3,10,11] [89]]) ?_)
 ·omega
 intro i hi
 refine zS<|zP 1 [{}] [.aa [44,0,1,2,3,10,11] [89]] [] (zD 44 ((↑i:Int)+1≤(↑M:Int)) (fun hc=>?_) (fun hc=>?_))
 ·skip
  refine a7<|zS<|zB 2<|zq<|zS<|zq<|zB 3 (zL (fun (j:Nat)=>(⟨[(0,AV.sl 1 (ag ar)),(1,AV.sl 1 (ag aS)),(2,ai ↑N),(3,ai ↑M),(10,AV.ref 89),(11,ai ((↑i:Int)+1)),(12,AV.ref 83),(13,ai j)],[(89,⟨2,true,false,af dK (List.map (jr ar aS N) (List.range i))⟩),(83,⟨1,true,false,ag ((List.range j).map (gE ar aS N (u8 (i+1))))⟩)]⟩:AS)) (fun j=>(j≤ar.length)) (fun j=>(ar.length-j)) (0) ?_ (zW [.nil 12 83 1,.aa [0,1,2,3,10,11,12,13] [89,83]]) ?_)
  ·omega
  intro j hj
  refine zS<|zP 1 [yH [(2,{k:=ar.length})]] [.aa [50,0,1,2,3,10,11,12,13] [89,83]] [yI (aC ar)] (zD 50 ((↑j:Int)<(↑ar.length:Int)) (fun h5=>?_) (fun h5=>?_))
  ·skip
   refine a7<|zS<|zB 4<|zP 1 [yH [(2,{k:=j}),(3,yV (ab (ar.getD j 0)))]] [.aa [15,14,50,0,1,2,3,10,11,12,13] [89,83]] [yR (↑j:Int),yB (j<(ag ar).length) (by simp only [aC];omega),yB ((ag ar)[j]?=some (ab (ar.getD j 0))) (n_ aj)]<|zS<|zq<|zB 5 (zL (fun (d:Nat)=>(⟨[(0,AV.sl 1 (ag ar)),(1,AV.sl 1 (ag aS)),(2,ai ↑N),(3,ai ↑M),(10,AV.ref 89),(11,ai ((↑i:Int)+1)),(12,AV.ref 83),(13,ai ↑j),(14,ab (tQ aS ar.length j (u8 (i+1)) (ar.getD j 0) d).1),(15,ab (tQ aS ar.length j (u8 (i+1)) (ar.getD j 0) d).2),(16,ai ((d:Int)+1))],[(89,⟨2,true,false,af dK (List.map (jr ar aS N) (List.range i))⟩),(83,⟨1,true,false,ag (List.map (gE ar aS N (u8 ((↑i:Int)+1))) (List.range j))⟩)]⟩:AS)) (fun d=>(d≤N-1)) (fun d=>(N-1-d)) (0) ?_ (zW [.aa [0,1,2,3,10,11,12,13,14,15,16] [89,83]]) ?_)
   ·omega
   intro d hd
   refine zS<|zP 1 [{}] [.aa [59,0,1,2,3,10,11,12,13,14,15,16] [89,83]] [] (zD 59 ((↑d:Int)+1<(↑N:Int)) (fun h6=>?_) (fun h6=>?_))
   ·have hN:d+1≤N-1:=aj
    have hk:((d:Int)+1-1)*ar.length=((d*ar.length:Nat):Int):=by
     rw [Int.natCast_mul,show (d:Int)+1-1=d by omega]
    have hb:=Nat.mul_le_mul_right ar.length hN
    rw [Nat.add_mul,Nat.one_mul] at hb
    have Tp:(((N-1)*ar.length:Nat):Int)=((N:Int)-1)*ar.length:=by rw [Int.natCast_mul,show ((N-1:Nat):Int)=(N:Int)-1 by omega]
    have Gd:d+1-1=d:=aj
    have Bt:((d:Int)+1-1)*ar.length+j=(((d+1-1)*ar.length+j:Nat):Int):=by rw [hk,Gd];omega
    have dd:(d+1-1)*ar.length+j<aS.length:=by rw [Gd];omega
    refine a7<|zS<|zB 6<|zP 1 [yH [(2,yV (ab (u8 ((↑i:Int)+1)))),(3,yV (ab (ky (tQ aS ar.length j (u8 ((↑i:Int)+1)) (ar.getD j 0) d).snd (u8 ((↑i:Int)+1)))))]] [.aa [15,59,0,1,2,3,10,11,12,13,14,16] [89,83]] [yI (iW ((↑i:Int)+1)),yI (tM ((tQ aS ar.length j (u8 ((↑i:Int)+1)) (ar.getD j 0) d).snd) (u8 ((↑i:Int)+1)))]<|zX (yH [(3,yV (ai ((↑d:Int)+1-1))),(5,{k:=ar.length}),(6,yV (ai (((↑d:Int)+1-1)*(↑ar.length:Int)))),(8,yV (ai (((↑d:Int)+1-1)*(↑ar.length:Int)+(↑j:Int)))),(9,{k:=(d+1-1)*ar.length+j}),(10,yV (ab (aS.getD ((d+1-1)*ar.length+j) 0))),(12,yV (ab (ky (aS.getD ((d+1-1)*ar.length+j) 0) (ky (tQ aS ar.length j (u8 ((↑i:Int)+1)) (ar.getD j 0) d).snd (u8 ((↑i:Int)+1)))))),(13,yV (ab ((tQ aS ar.length j (u8 ((↑i:Int)+1)) (ar.getD j 0) d).fst^^^ky (aS.getD ((d+1-1)*ar.length+j) 0) (ky (tQ aS ar.length j (u8 ((↑i:Int)+1)) (ar.getD j 0) d).snd (u8 ((↑i:Int)+1))))))]) [yN ((↑d:Int)+1-1),yI (aC ar),yN (((↑d:Int)+1-1)*(↑ar.length:Int)),yN (((↑d:Int)+1-1)*(↑ar.length:Int)+(↑j:Int)),yI Bt,yB ((d+1-1)*ar.length+j<(ag aS).length) (by simp only [aC];omega),yB ((ag aS)[(d+1-1)*ar.length+j]?=some (ab (aS.getD ((d+1-1)*ar.length+j) 0))) (n_ aj),yI (tM (aS.getD ((d+1-1)*ar.length+j) 0) (ky (tQ aS ar.length j (u8 ((↑i:Int)+1)) (ar.getD j 0) d).snd (u8 ((↑i:Int)+1)))),yI (Ex ((tQ aS ar.length j (u8 ((↑i:Int)+1)) (ar.getD j 0) d).fst) (ky (aS.getD ((d+1-1)*ar.length+j) 0) (ky (tQ aS ar.length j (u8 ((↑i:Int)+1)) (ar.getD j 0) d).snd (u8 ((↑i:Int)+1)))))]<|aL<|ak<|zX (yH [(1,yV (ai ((↑d:Int)+1+1)))]) [yN ((↑d:Int)+1+1)] (aH (d+1) hN aj (zW [.aa [0,1,2,3,10,11,12,13,14,15,16] [89,83]]))
   ·have e6:d=N-1:=aj
    subst e6
    refine zE 5<|a_<|aP<|bo<|ak<|zX (yH [(2,yV (AV.arr (ag [(tQ aS ar.length j (u8 ((↑i:Int)+1)) (ar.getD j 0) (N-1)).fst]))),(3,yV (AV.arr (ag (List.map (gE ar aS N (u8 ((↑i:Int)+1))) (List.range j)++ [(tQ aS ar.length j (u8 ((↑i:Int)+1)) (ar.getD j 0) (N-1)).fst]))))]) [yR [ab ((tQ aS ar.length j (u8 ((↑i:Int)+1)) (ar.getD j 0) (N-1)).fst)],yB (ag (List.map (gE ar aS N (u8 ((↑i:Int)+1))) (List.range j))++ag [(tQ aS ar.length j (u8 ((↑i:Int)+1)) (ar.getD j 0) (N-1)).fst]=ag (List.map (gE ar aS N (u8 ((↑i:Int)+1))) (List.range j)++ [(tQ aS ar.length j (u8 ((↑i:Int)+1)) (ar.getD j 0) (N-1)).fst])) (cX _ _),yB (((ag (List.map (gE ar aS N (u8 ((↑i:Int)+1))) (List.range j))).length+1)*1≤140737488355328) (by simp only [aC,List.length_map,List.length_range];omega)]<|aL<|ak<|zX (yH [(1,yV (ai ((↑j:Int)+1)))]) [yN ((↑j:Int)+1)] (aH (j+1) aj aj (eJ [.aa [0,1,2,3,10,11,12,13] [89,83]] [] [83] [yB (ag (List.map (gE ar aS N (u8 ((↑i:Int)+1))) (List.range j)++ [(tQ aS ar.length j (u8 ((↑i:Int)+1)) (ar.getD j 0) (N-1)).fst])=ag (List.map (gE ar aS N (u8 ((↑i:Int)+1))) (List.range (j+1)))) (congrArg ag (tP (gE ar aS N (u8 (i+1))) j))]))
  ·have e6:j=ar.length:=aj
   subst e6
   refine zE 3<|a_<|aP<|bo<|ak<|zX {} [yB (((af dK (List.map (jr ar aS N) (List.range i))).length+2)*32≤281474976710656) (by simp only [List.length_map,List.length_range,aE (f:=dK) (e:=2) (fun _=>rfl)];omega)]<|aL<|ak<|zX (yH [(1,yV (ai ((↑i:Int)+1+1)))]) [yN ((↑i:Int)+1+1)] (aH (i+1) aj aj (eJ [.aa [0,1,2,3,10,11] [89]] [] [89] [yB (af dK (List.map (jr ar aS N) (List.range i))++ [ai ((↑i:Int)+1),AV.sl 1 (ag (List.map (gE ar aS N (u8 ((↑i:Int)+1))) (List.range ar.length)))]=af dK (List.map (jr ar aS N) (List.range (i+1)))) (FJ (f:=dK) (jr ar aS N) i)]))
 ·have e8:i=M:=aj
  subst e8
  refine zE 1<|a_<|aP<|bo<|ak<|zq<|zR (zV [yB (af dK (List.map (jr ar aS N) (List.range i))=af dK (fO ar aS (↑N:Int) (↑i:Int))) (by simp [fO,e0]),yJ 0 (dj ar aS (↑N:Int) (↑i:Int)) (by rw [e0])])
theorem xf (ar aS:List UInt8) (need n:Int):bK Tryz.prog 119 [.sl 1 (ag ar),.sl 1 (ag aS),ai need,ai n] (.br [.own 2 (af dK (iK ar aS need n)),ai (dj ar aS need n)]):=by
 rw [←BL];exact xg ar aS need n
def ff (E:Nat->Int):Nat->Int
 | 0=>0
 | n+1=>if ff E n≠0 then ff E n else E n
theorem k9 {E:Nat->Int} {m:Nat} {e:Int} (he:e≠0) (h:ff E m=e):∀n,m≤n->ff E n=e
 | 0,hn=>by
  have:m=0:=aj
  subst this;exact h
 | n+1,hn=>by
  by_cases hm:m=n+1
  ·subst hm;exact h
  ·have:=k9 he h n aj
   unfold ff
   rw [this,if_pos he]
def dV (x:List UInt8):Int:=if x.length<1∨32<x.length then 9 else if Lib.validD x=false then 6 else 0
def Fa (a b:List UInt8):Bool:=Op.bytesLess (⟨a.toArray⟩:ByteArray).toList (⟨b.toArray⟩:ByteArray).toList || (⟨a.toArray⟩:ByteArray).toList == (⟨b.toArray⟩:ByteArray).toList
def mu (l:List (List UInt8)) (i:Nat):Int:=if dV (l.getD i default)≠0 then dV (l.getD i default) else if 0<i∧Fa (l.getD i default) (l.getD (i-1) default)=true then 7 else 0
theorem pQ {x:List UInt8} (h:x.length<1∨32<x.length):dV x=9:=by unfold dV;rw [if_pos h]
theorem xq {x:List UInt8} (h:¬(x.length<1∨32<x.length)) (hv:Lib.validD x=false):dV x=6:=by unfold dV;rw [if_neg h,if_pos hv]
theorem DR {x:List UInt8} (h:¬(x.length<1∨32<x.length)) (hv:Lib.validD x=true):dV x=0:=by unfold dV;rw [if_neg h,if_neg (by simp [hv])]
theorem H7 {l:List (List UInt8)} {i:Nat} {e:Int} (h:dV (l.getD i default)=e) (he:e≠0):mu l i=e:=by unfold mu;rw [if_pos aj,h]
theorem H6 {l:List (List UInt8)} {i k:Nat} (h:dV (l.getD i default)=0) (hk:k+1=i):mu l i=if Fa (l.getD i default) (l.getD k default)=true then 7 else 0:=by
 unfold mu
 subst hk
 rw [if_neg aj,Nat.add_sub_cancel]
 by_cases hc:Fa (l.getD (k+1) default) (l.getD k default)=true
 ·rw [if_pos ⟨aj,hc⟩,if_pos hc]
 ·rw [if_neg (fun h=>hc h.2),if_neg hc]
theorem Ed {l:List (List UInt8)} (h:dV (l.getD 0 default)=0):mu l 0=0:=by unfold mu;rw [if_neg aj,if_neg (fun h=>aj)]
def nD (n:Nat) (need:Int):Prop:=n<1∨8<n∨need<1∨(n:Int)<need
instance (n:Nat) (need:Int):Decidable (nD n need):=inferInstanceAs (Decidable (_∨_∨_∨_))
def qK (l:List (List UInt8)) (need:Int):Int:=if nD l.length need then 9 else ff (mu l) l.length
def JZ (seed:UInt64) (aW:Int):UInt64:=derive seed [100,101,112,111,115,105,116] aW
def GK (seed:UInt64) (aW:Int) (n:Nat) (need:Int):List Sh:=iK (words [JZ seed aW]) (stream (derive seed [115,104,97,114,101,115] aW) 0 (8*(need-1))) need n
def sn (seed:UInt64) (aW:Int) (l:List (List UInt8)) (need:Int):List (List UInt8):=if qK l need=0 then (List.range l.length).map (fun i=>((GK seed aW l.length need).getD i default).2) else []
def fF (seed:UInt64) (aW:Int) (l:List (List UInt8)) (need:Int):mU :=
 if qK l need=0 then ⟨Aa (JZ seed aW),0,[],l,(List.range l.length).map (fun i=>ou (l.getD i default) ((GK seed aW l.length need).getD i default).2),need,0⟩ else default
def PU (d:mU):List AV:=[aw d.bF,aw d.peer,.own 1 (ag d.box),.own 1 (af ay d.ae),.own 1 (ah d.au),ai d.need,aw d.target]
def part {T:Type} (f:Nat->T) (z:T) (n i:Nat):List T:=(List.range n).map fun k=>if k<i then f k else z
def mR (m:UInt64) (k:Nat):Nat:=m.toNat/2^(60-4*k)%16
def bl (m:UInt64):Nat->Nat
 | 0=>0
 | k+1=>bl m k+(15-mR m k)
def b_ (m:UInt64):List Int:=(List.range 16).map (fun k=>(mR m k:Int))++ [((bl m 16/16:Nat):Int),((bl m 16%16:Nat):Int)]
theorem B4 (m:UInt64) (k:Nat):mR m k<16:=Nat.mod_lt _ (by decide)
theorem qQ (m:UInt64) (k:Nat):bl m k≤15*k:=by
 induction k with
 | zero=>simp [bl]
 | succ k ih=>simp only [bl];omega
theorem nC (m:UInt64):(b_ m).length=18:=by simp [b_]
def ir (m:UInt64) (k:Nat):List Int:=(List.range k).map fun j=>(mR m j:Int)
theorem Bb (m:UInt64) (k:Nat):ir m (k+1)=ir m k++ [(mR m k:Int)]:=by simp [ir,List.range_succ]
theorem C3 (m:UInt64) (k:Nat):(ir m k).length=k:=by simp [ir]
theorem K7 (m:UInt64):b_ m=ir m 16++ [((bl m 16/16:Nat):Int),((bl m 16%16:Nat):Int)]:=rfl
def Ou (leaf chain:Int) (p:Int) (x:UInt64):UInt64:=hash 1 (words [u64 leaf,u64 chain,u64 p,x])
def jC (leaf chain:Int) (p:Int) (x:UInt64):Nat->UInt64
 | 0=>x
 | n+1=>Ou leaf chain (p+n) (jC leaf chain p x n)
theorem vZ (leaf chain:Int) (p:Int) (x:UInt64) (n:Nat):jC leaf chain p x (n+1)=hash 1 (words [u64 leaf,u64 chain,u64 (p+n),jC leaf chain p x n]):=rfl
def run (leaf chain src dst:Int) (x:UInt64):UInt64:=jC leaf chain (max src 0) x (min dst 15-max src 0).toNat
theorem GR (leaf chain p:Int) (x:UInt64) (a b:Nat):jC leaf chain p x (a+b)=jC leaf chain (p+a) (jC leaf chain p x a) b:=by
 induction b with
 | zero=>rfl
 | succ b ih =>
  show jC leaf chain p x (a+b+1)=_
  rw [vZ,vZ,ih,show p+((a+b:Nat):Int)=p+a+b by omega]
theorem ER (leaf chain p q r:Int) (x:UInt64) (h0:0≤p) (h1:p≤q) (h2:q≤r) (hp:p≤15):run leaf chain p r x=run leaf chain q r (run leaf chain p q x):=by
 unfold run
 rw [show max p 0=p by omega,show max q 0=q by omega]
 by_cases hq:q≤15
 ·have e:(min r 15-p).toNat=(q-p).toNat+(min r 15-q).toNat:=aj
  rw [e,GR,show min q 15=q by omega,show p+((q-p).toNat:Int)=q by omega]
 ·rw [show (min r 15-q).toNat=0 by omega,show min r 15=15 by omega,show min q 15=15 by omega];rfl
def ar (seed:UInt64) (leaf c:Int):UInt64:=yQ seed 1 (words [u64 leaf,u64 c])
def combine (leaf:Int) (l:List UInt64):UInt64:=hash 2 (words (u64 leaf::l))
def bG (seed:UInt64) (leaf:Int) (n:Nat):List UInt64:=(List.range n).map fun (i:Nat)=>run leaf i 0 15 (ar seed leaf i)
def bT (seed:UInt64) (leaf:Int) (m:UInt64) (n:Nat):List UInt64:=(List.range n).map fun (i:Nat)=>run leaf i 0 ((b_ m).getD i 0) (ar seed leaf i)
def cM (leaf:Int) (m:UInt64) (s:List UInt64) (n:Nat):List UInt64:=(List.range n).map fun (i:Nat)=>run leaf i ((b_ m).getD i 0) 15 (s.getD i 0)
theorem rP (seed:UInt64) (leaf:Int) (n:Nat):(bG seed leaf n).length=n:=by simp [bG]
theorem qE (seed:UInt64) (leaf:Int) (m:UInt64) (n:Nat):(bT seed leaf m n).length=n:=by simp [bT]
theorem z8 (leaf:Int) (m:UInt64) (s:List UInt64) (n:Nat):(cM leaf m s n).length=n:=by simp [cM]
theorem xo (seed:UInt64) (leaf:Int) (n:Nat):bG seed leaf (n+1)=bG seed leaf n++ [run leaf n 0 15 (ar seed leaf n)]:=by simp [bG,List.range_succ]
theorem BG (seed:UInt64) (leaf:Int) (m:UInt64) (n:Nat):bT seed leaf m (n+1)=bT seed leaf m n++ [run leaf n 0 ((b_ m).getD n 0) (ar seed leaf n)]:=by simp [bT,List.range_succ]
theorem EZ (leaf:Int) (m:UInt64) (s:List UInt64) (n:Nat):cM leaf m s (n+1)=cM leaf m s n++ [run leaf n ((b_ m).getD n 0) 15 (s.getD n 0)]:=by simp [cM,List.range_succ]
theorem K8 (m:UInt64) (i:Nat):0≤(b_ m).getD i 0∧(b_ m).getD i 0≤15:=by
 have hs:=qQ m 16
 by_cases h:i<16
 ·have:=B4 m i
  have e:(b_ m).getD i 0=(mR m i:Int):=by simp [b_,List.getElem?_append,h]
  omega
 ·by_cases Sg:i=16
  ·subst Sg
   have e:(b_ m).getD 16 0=((bl m 16/16:Nat):Int):=by simp [b_]
   omega
  ·by_cases Vl:i=17
   ·subst Vl
    have e:(b_ m).getD 17 0=((bl m 16%16:Nat):Int):=by simp [b_]
    omega
   ·have e:(b_ m).getD i 0=0:=by
     rw [List.getD_eq_getElem?_getD,List.getElem?_eq_none (by rw [nC];omega)];rfl
    omega
theorem G5 (seed:UInt64) (leaf:Int) (m:UInt64):cM leaf m (bT seed leaf m 18) 18=bG seed leaf 18:=by
 unfold cM bG
 apply List.map_congr_left
 intro i hi
 have jd:=List.mem_range.1 hi
 have hb:=K8 m i
 have e:(bT seed leaf m 18).getD i 0=run leaf i 0 ((b_ m).getD i 0) (ar seed leaf i):=by simp [bT,jd]
 rw [e,←ER leaf i 0 _ 15 _ aj hb.1 hb.2 aj]
def iZ (m:UInt64) (k:Nat):List Int:=(List.range 18).map fun j=>if j<k then (mR m j:Int) else 0
theorem I2 (m:UInt64) (k:Nat):(iZ m k).length=18:=by simp [iZ]
theorem K9 (m:UInt64) (k j:Nat) (hj:j<18):(iZ m k).getD j 0=if j<k then (mR m j:Int) else 0:=by
 rw [List.getD_eq_getElem?_getD];simp [iZ,hj]
theorem I1 (m:UInt64) (k:Nat):(iZ m k).set k (mR m k:Int)=iZ m (k+1):=by
 apply List.ext_getElem (by simp [iZ])
 intro j h1 h2
 rw [List.getElem_set]
 simp only [iZ,List.getElem_map,List.getElem_range]
 by_cases hk:k=j
 ·subst hk;rw [if_pos rfl,if_pos aj]
 ·rw [if_neg hk]
  by_cases h:j<k
  ·rw [if_pos h,if_pos aj]
  ·rw [if_neg h,if_neg aj]
theorem I3 (m:UInt64):((iZ m 16).set 16 ((bl m 16/16:Nat):Int)).set 17 ((bl m 16%16:Nat):Int)=b_ m:=by
 simp [iZ,b_,List.range_succ]
def cQ (n:Nat) (l:List UInt64) (k:Nat):List UInt64:=l.take k++List.replicate (n-k) 0
theorem kk {n k:Nat} {l:List UInt64} (hl:l.length=n) (hk:k≤n):(cQ n l k).length=n:=by simp [cQ];omega
theorem kH {n:Nat} {l:List UInt64} (hl:l.length=n):cQ n l n=l:=by simp [cQ,←hl]
theorem lT {n k:Nat} {l:List UInt64} (hl:l.length=n) (hk:k<n):(cQ n l k).set k (l.getD k 0)=cQ n l (k+1):=by
 apply List.ext_getElem (by simp [cQ];omega)
 intro j h1 h2
 have hj:j<n:=by rw [List.length_set,kk hl aj] at h1;exact h1
 rw [List.getElem_set]
 by_cases h:k=j
 ·subst h
  simp [cQ,hl,hk,List.getElem_append]
  omega
 ·rw [if_neg h]
  simp only [cQ,List.getElem_append,List.length_take,hl]
  by_cases vx:j<k
  ·simp [show j<min k n by omega,show j<min (k+1) n by omega]
  ·simp [show ¬j<min k n by omega,show ¬j<min (k+1) n by omega]
theorem GH (seed:UInt64) (leaf:Int) (m:UInt64) (i:Nat) (h:i<18):(bT seed leaf m 18).getD i 0=run leaf i 0 ((b_ m).getD i 0) (ar seed leaf i):=by simp [bT,h]
theorem J9 (leaf:Int) (m:UInt64) (s:List UInt64) (i:Nat) (h:i<18):(cM leaf m s 18).getD i 0=run leaf i ((b_ m).getD i 0) 15 (s.getD i 0):=by simp [cM,h]
theorem BX (seed:UInt64) (leaf:Int) (i:Nat) (h:i<18):(bG seed leaf 18).getD i 0=run leaf i 0 15 (ar seed leaf i):=by simp [bG,h]
theorem DS (m:UInt64) (k:Nat) (hk:k≤15):wv ((m>>>UInt64.ofNat (60-4*k))&&&15)=(mR m k:Int):=by
 unfold wv mR
 rw [UInt64.toNat_and,UInt64.toNat_shiftRight,UInt64.toNat_ofNat_of_lt' (by show _<2^64;omega),Nat.mod_eq_of_lt aj,Nat.shiftRight_eq_div_pow]
 rw [show (15:UInt64).toNat=2^4-1 from rfl,Nat.and_two_pow_sub_one_eq_mod]
end Go.Proofs.YtjgbhhnghedgdaaGreatDoor
