import Derived.Test.YtjgbhhnghedgdaaGreatDoorZaEx3
import Derived.Test.YtjgbhhnghedgdaaGreatDoorZaRN
import Derived.StillTailTactics
import Derived.Deep.RegionWith
import Derived.Deep.DeepCutAuto
set_option linter.all false
namespace Go.Proofs.YtjgbhhnghedgdaaGreatDoor
open Go.RowKit
set_option maxRecDepth 100000
set_option maxHeartbeats 4000000
def sM (r:List UInt8):List AV:=[.sl 1 (ag r)]
theorem vN.pW (w:World) (e:TypeId):vN (w.alloc (.cells #[] e)) w.heap.size (.slice (some ⟨w.heap.size,0,none⟩) 0 0) [] :=
 .inr ⟨w.heap.size,0,#[],e,(0,0),rfl,Nat.le_refl _,heap_alloc_new w _,by simp,by simp,rfl,rfl,by simp⟩
theorem kz {P:Program} {w:World} {t e:TypeId} (ht:P.underlying t=some (.slice e)) (A:Option Addr) (n c:Nat):(binOp .eql t (.slice A n c) (.slice none 0 0)).run P w= .ok (.bool A.isNone) w:=by
 have key:∀d,(Op.equalIn (d+1) t (.slice A n c) (.slice none 0 0)).run P w= .ok A.isNone w:=by
  intro d
  unfold Op.equalIn
  cases A<;>simp [run_underlying ht]
 show (Op.equalIn (9999+1) t (.slice A n c) (.slice none 0 0) >>= fun b=>pure (Value.bool b)).run P w=_
 rw [Sem.run_bind,key 9999]
 rfl
theorem Gk (v:Value) (l:List UInt8) (w:World) (h:i3 w v (sr l)) (hl:l.length≤70368744177664) :
  Calls Tryz.prog 100 #[v] w fun e w'=>qC w e w' l:=by
 have h':=h
 obtain ⟨A,c,rfl,hc,hm,hr⟩:=h
 rcases A with _|ad
 ·have ze:l= []:=by
   rcases Nat.eq_zero_or_pos l.length with h0|h0
   ·exact List.length_eq_zero_iff.1 h0
   ·obtain ⟨ad,h,_⟩:=hr.2 (by rw [gg];exact h0)
    cases h
  subst ze
  have hq:= @kz Tryz.prog w 25 5 Tryz.underlying25 none (sr []).length c
  go_enter Tryz.func100,Tryz.ntmps100
  go_wp2
  go_ret
  exact ⟨_,rfl,.inl ⟨rfl,rfl⟩,Below.refl _ _⟩
 ·have SX:=Lib.hid h'
  clear h' hr
  have hq:= @kz Tryz.prog w 25 5 Tryz.underlying25 (some ad) (sr l).length c
  go_enter Tryz.func100,Tryz.ntmps100
  go_wp2_with (at_builtin;refine tu _ rfl _ _ 25 rfl E8 w.heap.size _ _ rfl (vN.pW w _) _ (sr l) rfl (SX.out.below ((Below.refl _ _).alloc (Nat.le_refl _) _)) (EP _) (by rw [gg];simp;omega) (by simp) ?_;intro v2 w2 Gz PU _)
  go_ret
  exact ⟨_,rfl,by simpa using Gz,((Below.refl w.heap.size w).alloc (Nat.le_refl _) _).DS (vN.pW w _) PU⟩
theorem Gj (l:List UInt8) (hl:l.length≤70368744177664):bK Tryz.prog 100 [.sl 1 (ag l)] (.own 1 (ag l)):=by
 refine bK.Av fun w vs h1 hr=>?_
 obtain ⟨a,rfl⟩:=ET h1 rfl
 exact Gk a l w (wu (hr 0 a _ rfl rfl) fun _ h=>h) hl
def pG (us:List Value):List AV:=us.map AV.val
theorem lN (us:List Value):(pG us).length=us.length:=by simp [pG]
theorem Hn {S:Nat->Prop} {w:World} {v:Value} {bs:List Value} (h:cz S w v (.sl 1 (pG bs))) (hS:∀b,S b->b<w.heap.size):i3 w v bs:=by
 cases h with
 | sl A n c e us row hl hn hc hm ha h =>
  have FE:us=bs:=by
   apply List.ext_getElem?
   intro j
   cases hu:us[j]? with
   | none =>
    have:us.length≤j:=List.getElem?_eq_none_iff.1 hu
    rw [List.getElem?_eq_none (by rw [lN] at hl;omega)]
   | some u =>
    have hj:j<bs.length:=by have:=(List.getElem?_eq_some_iff.1 hu).1;rw [hl,lN] at this;exact this
    have hx:(pG bs)[j]?=some (.val bs[j]):=by simp [pG,hj]
    have:=h j u _ hu hx
    cases this
    simp [hj]
  subst FE
  rw [lN] at hn ha
  have sF:us.length=n:=ah
  subst sF
  exact ⟨A,c,rfl,hc,hm,rfl,fun h0=>by
   obtain ⟨ad,e,hs,bu⟩:=ha h0
   exact ⟨ad,e,hS _ hs,bu⟩⟩
def EY (w:World) (e:Ending) (w':World) (us:List Value):Prop:=∃v,e= .returned v∧vN w' w.heap.size v us∧Below w.heap.size w w'
theorem bK.KC {P:Program} {f:FuncId} {args:List AV} {us:List Value} (h:∀(w:World) (vs:List Value),vs.length=args.length->(∀(j:Nat) v x,vs[j]?=some v->args[j]?=some x->cz (fun b=>b<w.heap.size) w v x) ->
  Calls P f vs.toArray w fun e w'=>EY w e w' us):bK P f args (.own 1 (pG us)):=by
 intro w S vs _ hS hl hr
 refine (h w vs hl fun j v x hv hx=>(hr j v x hv hx).mono fun b hb=>⟨hS b hb,rfl⟩).mono fun e w' ⟨v,he,ho,hb⟩=>?_
 rcases ho with ⟨rfl,hn⟩|⟨g,cap,cur,te,fr,rfl,AR,hg,FJ,s7,wM,L0,gw⟩
 ·subst hn
  exact ⟨_,[],he,hb,List.nodup_nil,by simp,.inl (.inl (.nil 1))⟩
 ·have dh:g<w'.heap.size:=by
   rcases Nat.lt_or_ge g w'.heap.size with h|h
   ·exact h
   ·rw [Array.getElem?_eq_none h] at hg;cases hg
  refine ⟨_,[g],he,hb,by simp,by simp [AR,dh],.inl (.inl (.own g _ cap 1 (pG us) cur te fr hg (fun j hj=>gw j ah) (by rw [lN,Nat.one_mul]) FJ s7 ah ?_))⟩
  intro j u x hu hx
  have hj:j<us.length:=by have:=(List.getElem?_eq_some_iff.1 hx).1;rwa [lN] at this
  have JZ:x= .val us[j]:=by simp [pG,hj] at hx;exact hx.symm
  subst JZ
  have Ia:us[j]?=some u:=by
   rw [←L0,List.getElem?_take_of_lt hj];simpa using hu
  have:u=us[j]:=by simp [hj] at Ia;exact Ia.symm
  subst this
  exact .val _
theorem KR:(Tryz.prog.info? 9).map (fun i=>(i.zero,i.size,i.bytes))=some (some (.string ⟨#[]⟩),1,16):=by kernel_rfl
theorem SY:BC Tryz.prog 26 9 (.string ⟨#[]⟩) 16:=by
 obtain ⟨i,h,h1,h2,h3⟩:=info_parts KR
 exact ⟨Tryz.underlying26,⟨i,h,h1,h2,h3⟩,rfl,by decide⟩
set_option maxRecDepth 100000 in
theorem BU (v:Value) (l:List Value) (w:World) (h:i3 w v l) (h1:∀u∈l,u.oneCell'=true) (hl:l.length≤1000000) :
  Calls Tryz.prog 101 #[v] w fun e w'=>EY w e w' l:=by
 have h':=h
 obtain ⟨A,c,rfl,hc,hm,hr⟩:=h
 rcases A with _|ad
 ·have ze:l= []:=by
   rcases Nat.eq_zero_or_pos l.length with h0|h0
   ·exact List.length_eq_zero_iff.1 h0
   ·obtain ⟨ad,h,_⟩:=hr.2 h0
    cases h
  clear h' hr
  have hq:= @kz Tryz.prog w 26 9 Tryz.underlying26 none l.length c
  have HL:=Lib.hid ze
  clear ze
  go_enter Tryz.func101,Tryz.ntmps101
  go_wp2
  go_ret
  exact ⟨_,rfl,.inl ⟨rfl,HL.out⟩,Below.refl _ _⟩
 ·have SX:=Lib.hid h'
  clear h' hr
  have hq:= @kz Tryz.prog w 26 9 Tryz.underlying26 (some ad) l.length c
  go_enter Tryz.func101,Tryz.ntmps101
  go_wp2_with (at_builtin;refine tu _ rfl _ _ 26 rfl SY w.heap.size _ _ rfl (vN.pW w _) _ l rfl (SX.out.below ((Below.refl _ _).alloc (Nat.le_refl _) _)) h1 (by simp;omega) (by simp) ?_;intro v2 w2 Gz PU _)
  go_ret
  exact ⟨_,rfl,by simpa using Gz,((Below.refl w.heap.size w).alloc (Nat.le_refl _) _).DS (vN.pW w _) PU⟩
theorem BT (l:List (List UInt8)) (hl:l.length≤1000000):bK Tryz.prog 101 [.sl 1 (af (fun s=>[db s]) l)] (.own 1 (af (fun s=>[db s]) l)):=by
 have e:af (fun s:List UInt8=>[db s]) l=pG (l.map fun s=>.string ⟨s.toArray⟩):=by
  induction l with
  | nil=>rfl
  | cons x l ih=>rw [gH,ih (by simp at hl;omega)];rfl
 rw [e]
 refine bK.KC fun w vs h1 hr=>?_
 obtain ⟨a,rfl⟩:=ET h1 rfl
 exact BU a _ w (Hn (hr 0 a _ rfl rfl) fun _ h=>h) (by simp [Value.oneCell']) (by simpa using hl)
def xt (a:UInt8):UInt8:=if a&&&128≠0 then (a<<<1)^^^27 else a<<<1
theorem pA (p:UInt8->Bool) (h:(List.range 256).all (fun n=>p (UInt8.ofNat n))=true) (a:UInt8):p a=true:=by
 rw [List.all_eq_true] at h
 have:=h a.toNat (List.mem_range.2 (UInt8.toNat_lt a))
 simpa using this
theorem Bw (a b c:UInt8):(a^^^b)&&&c=(a&&&c)^^^(b&&&c):=by
 apply UInt8.toBitVec_inj.1;simp only [UInt8.toBitVec_and,UInt8.toBitVec_xor];ext i hi;simp;cases a.toBitVec[i]<;>cases b.toBitVec[i]<;>cases c.toBitVec[i]<;>rfl
theorem GJ (a b:UInt8):(a^^^b)<<<1=(a<<<1)^^^(b<<<1):=by
 apply UInt8.toBitVec_inj.1;simp [UInt8.toBitVec_shiftLeft,UInt8.toBitVec_xor,BitVec.shiftLeft_xor_distrib]
theorem GI (a b:UInt8):(a^^^b)>>>1=(a>>>1)^^^(b>>>1):=by
 apply UInt8.toBitVec_inj.1;simp [UInt8.toBitVec_shiftRight,UInt8.toBitVec_xor,BitVec.ushiftRight_xor_distrib]
theorem Q8 (a b c d:UInt8):(a^^^b)^^^(c^^^d)=(a^^^c)^^^(b^^^d):=by
 rw [UInt8.xor_assoc,UInt8.xor_assoc,←UInt8.xor_assoc b,UInt8.xor_comm b c,UInt8.xor_assoc c]
theorem AQ (a:UInt8):a&&&128=0∨a&&&128=128:=by
 have:=pA (fun a=>decide (a&&&128=0∨a&&&128=128)) (by decide +kernel) a
 exact of_decide_eq_true this
theorem ur (a:UInt8):a&&&1=0∨a&&&1=1:=by
 have:=pA (fun a=>decide (a&&&1=0∨a&&&1=1)) (by decide +kernel) a
 exact of_decide_eq_true this
theorem Mk (a b:UInt8):xt (a^^^b)=xt a^^^xt b:=by
 unfold xt
 rw [Bw,GJ]
 rcases AQ a with h|h<;>rcases AQ b with k|k<;>rw [h,k]<;>simp [UInt8.xor_assoc]
 ·rw [UInt8.xor_comm 27]
 ·rw [←UInt8.xor_assoc 27,UInt8.xor_comm 27,UInt8.xor_assoc];simp
theorem HK (a b p:UInt8) (k:Nat):(bO ⟨a,b,p⟩ (k+1)).a=xt (bO ⟨a,b,p⟩ k).a:=rfl
theorem r6 (a c b p q:UInt8):∀k,bO ⟨a^^^c,b,p^^^q⟩ k=⟨(bO ⟨a,b,p⟩ k).a^^^(bO ⟨c,b,q⟩ k).a,(bO ⟨a,b,p⟩ k).b,(bO ⟨a,b,p⟩ k).p^^^(bO ⟨c,b,q⟩ k).p⟩∧(bO ⟨c,b,q⟩ k).b=(bO ⟨a,b,p⟩ k).b
 | 0=>⟨rfl,rfl⟩
 | k+1=>by
  obtain ⟨h,hb⟩:=r6 a c b p q k
  refine ⟨?_,?_⟩
  ·rw [bO,h]
   simp only [bO,ug,hb]
   have:=Mk (bO ⟨a,b,p⟩ k).a (bO ⟨c,b,q⟩ k).a
   unfold xt at this
   rw [this]
   congr 1
   split
   ·exact Q8 _ _ _ _
   ·rfl
  ·simp only [bO,ug,hb]
theorem r5 (a b c p q:UInt8):∀k,bO ⟨a,b^^^c,p^^^q⟩ k=⟨(bO ⟨a,b,p⟩ k).a,(bO ⟨a,b,p⟩ k).b^^^(bO ⟨a,c,q⟩ k).b,(bO ⟨a,b,p⟩ k).p^^^(bO ⟨a,c,q⟩ k).p⟩∧(bO ⟨a,c,q⟩ k).a=(bO ⟨a,b,p⟩ k).a
 | 0=>⟨rfl,rfl⟩
 | k+1=>by
  obtain ⟨h,hb⟩:=r5 a b c p q k
  refine ⟨?_,?_⟩
  ·rw [bO,h]
   simp only [bO,ug,hb,GI,Bw]
   congr 1
   rcases ur (bO ⟨a,b,p⟩ k).b with h1|h1<;>rcases ur (bO ⟨a,c,q⟩ k).b with h2|h2<;>rw [h1,h2]<;>simp [UInt8.xor_assoc]
   ·rw [UInt8.xor_comm (bO ⟨a,c,q⟩ k).p]
   ·rw [←UInt8.xor_assoc (bO ⟨a,b,p⟩ k).a,UInt8.xor_comm (bO ⟨a,b,p⟩ k).a (bO ⟨a,c,q⟩ k).p,UInt8.xor_assoc,UInt8.xor_self,UInt8.xor_zero]
  ·simp only [bO,ug,hb]
theorem iD (a c b:UInt8):eC (a^^^c) b=eC a b^^^eC c b:=by
 have:=(r6 a c b 0 0 8).1
 rw [UInt8.xor_self] at this
 unfold eC;rw [this]
theorem jk (a b c:UInt8):eC a (b^^^c)=eC a b^^^eC a c:=by
 have:=(r5 a b c 0 0 8).1
 rw [UInt8.xor_self] at this
 unfold eC;rw [this]
theorem qA {f g:UInt8->UInt8} (hf:∀a b,f (a^^^b)=f a^^^f b) (hg:∀a b,g (a^^^b)=g a^^^g b) (h:∀i,i<8->f (UInt8.ofNat (2^i))=g (UInt8.ofNat (2^i))) (a:UInt8):f a=g a:=by
 have f0:f 0=0:=by have:=hf 0 0;rwa [UInt8.xor_self,UInt8.xor_self] at this
 have g0:g 0=0:=by have:=hg 0 0;rwa [UInt8.xor_self,UInt8.xor_self] at this
 have e:a=(((((((a&&&1)^^^(a&&&2))^^^(a&&&4))^^^(a&&&8))^^^(a&&&16))^^^(a&&&32))^^^(a&&&64))^^^(a&&&128):=by
  have:=pA (fun a=>decide (a=(((((((a&&&1)^^^(a&&&2))^^^(a&&&4))^^^(a&&&8))^^^(a&&&16))^^^(a&&&32))^^^(a&&&64))^^^(a&&&128))) (by decide +kernel) a
  exact of_decide_eq_true this
 have one:∀i,i<8->a&&&UInt8.ofNat (2^i)=0∨a&&&UInt8.ofNat (2^i)=UInt8.ofNat (2^i):=by
  intro i hi
  have:=pA (fun a=>decide (∀i,i<8->a&&&UInt8.ofNat (2^i)=0∨a&&&UInt8.ofNat (2^i)=UInt8.ofNat (2^i))) (by decide +kernel) a
  exact of_decide_eq_true this i hi
 have s:∀i,i<8->f (a&&&UInt8.ofNat (2^i))=g (a&&&UInt8.ofNat (2^i)):=by
  intro i hi
  rcases one i hi with h1|h1<;>rw [h1]
  ·rw [f0,g0]
  ·exact h i hi
 rw [e]
 simp only [hf,hg]
 rw [show f (a&&&1)=g (a&&&1) from s 0 ah,show f (a&&&2)=g (a&&&2) from s 1 ah,show f (a&&&4)=g (a&&&4) from s 2 ah,show f (a&&&8)=g (a&&&8) from s 3 ah,show f (a&&&16)=g (a&&&16) from s 4 ah,show f (a&&&32)=g (a&&&32) from s 5 ah,show f (a&&&64)=g (a&&&64) from s 6 ah,show f (a&&&128)=g (a&&&128) from s 7 ah]
theorem wP (a b:UInt8):eC a b=eC b a:=by
 refine qA (f:=fun a=>eC a b) (g:=fun a=>eC b a) (fun x y=>iD x y b) (fun x y=>jk b x y) (fun i hi=>?_) a
 refine qA (f:=fun b=>eC (UInt8.ofNat (2^i)) b) (g:=fun b=>eC b (UInt8.ofNat (2^i))) (fun x y=>jk _ x y) (fun x y=>iD x y _) (fun j hj=>?_) b
 have:∀i,i<8-> ∀j,j<8->eC (UInt8.ofNat (2^i)) (UInt8.ofNat (2^j))=eC (UInt8.ofNat (2^j)) (UInt8.ofNat (2^i)):=by decide +kernel
 exact this i hi j hj
theorem CJ (a b c:UInt8):eC (eC a b) c=eC a (eC b c):=by
 refine qA (f:=fun a=>eC (eC a b) c) (g:=fun a=>eC a (eC b c)) (fun x y=>by simp only [iD]) (fun x y=>by simp only [iD]) (fun i hi=>?_) a
 refine qA (f:=fun b=>eC (eC (UInt8.ofNat (2^i)) b) c) (g:=fun b=>eC (UInt8.ofNat (2^i)) (eC b c)) (fun x y=>by simp only [iD,jk]) (fun x y=>by simp only [iD,jk]) (fun j hj=>?_) b
 refine qA (f:=fun c=>eC (eC (UInt8.ofNat (2^i)) (UInt8.ofNat (2^j))) c) (g:=fun c=>eC (UInt8.ofNat (2^i)) (eC (UInt8.ofNat (2^j)) c)) (fun x y=>by simp only [jk]) (fun x y=>by simp only [jk]) (fun k hk=>?_) c
 have:∀i,i<8-> ∀j,j<8-> ∀k,k<8->eC (eC (UInt8.ofNat (2^i)) (UInt8.ofNat (2^j))) (UInt8.ofNat (2^k))=eC (UInt8.ofNat (2^i)) (eC (UInt8.ofNat (2^j)) (UInt8.ofNat (2^k))):=by decide +kernel
 exact this i hi j hj k hk
theorem IM (a:UInt8):eC a 1=a:=of_decide_eq_true (pA (fun a=>decide (eC a 1=a)) (by decide +kernel) a)
theorem HD (a:UInt8):eC 1 a=a:=by rw [wP,IM]
theorem FT (a:UInt8):eC a 0=0:=by have:=jk a 0 0;rwa [UInt8.xor_self,UInt8.xor_self] at this
theorem E1 (a:UInt8):eC 0 a=0:=by rw [wP,FT]
theorem wq (a b:UInt8):∀k,k≤8->(gq a b k).x=(bO ⟨a,b,0⟩ k).a.toUInt64∧(gq a b k).p=(bO ⟨a,b,0⟩ k).p∧(k<8->(bO ⟨a,b,0⟩ k).b=b>>>UInt8.ofNat k)
 | 0,_=>⟨rfl,rfl,fun _=>by simp [bO]⟩
 | k+1,hk=>by
  obtain ⟨h1,h2,h3⟩:=wq a b k ah
  have h3:=h3 ah
  refine ⟨?_,?_,fun h8=>?_⟩
  ·rw [gq,tO,h1,HK]
   have:=pA (fun a=>decide ((if (a.toUInt64<<<1)&&&256≠0 then (a.toUInt64<<<1)^^^283 else a.toUInt64<<<1)=(xt a).toUInt64)) (by decide +kernel) (bO ⟨a,b,0⟩ k).a
   exact of_decide_eq_true this
  ·rw [gq,tO,h1,h2,bO,ug,←h3]
   have e:(bO ⟨a,b,0⟩ k).a.toUInt64.toUInt8=(bO ⟨a,b,0⟩ k).a:=by simp
   rw [e]
   rcases ur (bO ⟨a,b,0⟩ k).b with h|h<;>rw [h]<;>rfl
  ·rw [bO,ug]
   show (bO ⟨a,b,0⟩ k).b>>>1=_
   rw [h3]
   have:=pA (fun b=>(List.range 7).all fun k=>(b>>>UInt8.ofNat k)>>>1 == b>>>UInt8.ofNat (k+1)) (by decide +kernel) b
   rw [List.all_eq_true] at this
   simpa using this k (List.mem_range.2 ah)
theorem z1 (a b:UInt8):kC a b=eC a b:=(wq a b 8 (Nat.le_refl _)).2.1
def m_ (f:Nat->UInt8):Nat->UInt8
 | 0=>0
 | n+1=>m_ f n^^^f n
theorem tt {f g:Nat->UInt8}:∀ {n:Nat},(∀i,i<n->f i=g i)->m_ f n=m_ g n
 | 0,_=>rfl
 | n+1,h=>by rw [m_,m_,tt (fun i hi=>h i ah),h n ah]
theorem zi (f:Nat->UInt8) (x:UInt8):∀n,eC (m_ f n) x=m_ (fun i=>eC (f i) x) n
 | 0=>E1 x
 | n+1=>by rw [m_,iD,zi f x n];rfl
theorem tr (f:Nat->UInt8):∀n,m_ f (n+1)=f 0^^^m_ (fun i=>f (i+1)) n
 | 0=>by simp [m_]
 | n+1=>by rw [m_,tr f n,m_,UInt8.xor_assoc]
theorem rk (x:UInt8) (k:Nat):x8 x (k+1)=eC (x8 x k) x:=by rw [x8,z1]
theorem Ic (aS:List UInt8) (L j:Nat) (x:UInt8) (need:Nat):∀m,m≤need-1->dP aS L j x need m=m_ (fun t=>eC (aS.getD ((need-1-m+t)*L+j) 0) (x8 x (t+1))) m
 | 0,_=>rfl
 | m+1,h=>by
  rw [dP,Ic aS L j x need m ah,iD,zi,tr,UInt8.xor_comm]
  congr 1
  ·rw [Nat.add_zero,rk,x8,HD,show need-1-m-1=need-1-(m+1) by omega]
  ·refine tt fun i hi=>?_
   rw [CJ,←rk,show need-1-m+i=need-1-(m+1)+(i+1) by omega]
theorem Hy (aS:List UInt8) (L j:Nat) (x c:UInt8):∀d,tY aS L j x c d=(c^^^m_ (fun t=>eC (aS.getD (t*L+j) 0) (x8 x (t+1))) d,x8 x d)
 | 0=>by simp [tY,m_,x8]
 | d+1=>by rw [tY,Hy aS L j x c d,m_];simp only [z1,rk,UInt8.xor_assoc]
theorem BX (s r:List UInt8) (need:Nat) (x:UInt8) (j:Nat):gC s r need x j=BP s r need x j:=by
 rw [gC,BP,Hy,Ic _ _ _ _ _ _ (Nat.le_refl _),UInt8.xor_comm]
 simp only [Nat.sub_self,Nat.zero_add]
theorem BW (s r:List UInt8) (need n:Int):fM s r need n=iM s r need n:=by
 unfold fM iM jv G7 D6 xe
 split
 ·refine List.map_congr_left fun i _=>?_
  congr 1
  exact List.map_congr_left fun j _=>BX ..
 ·rfl
theorem xp (ar aS:List UInt8) (need n:Int):bK Tryz.prog 119 [.sl 1 (ag ar),.sl 1 (ag aS),ai need,ai n] (.bq [.own 2 (af dR (fM ar aS need n)),ai (dq ar aS need n)]):=by
 refine zO Tryz.func119 91 ?_
 by_cases hl:64<ar.length
 ·have e1:dq ar aS need n=8:=by simp [dq,hl]
  refine zq<|zS<|zB 0<|zP 1 [yH [(1,{k:=ar.length})]] [.ae [17,9,8,0,1,2,3] []] [yI (aC ar)]<|gT 17 ((↑ar.length:Int)>64)<|zq<|zR<|aY<|aI (zV [yB (af dR (fM ar aS need n)= []) (by rw [fM,e1];rfl),yJ 8 (dq ar aS need n) (by rw [e1])])
 by_cases h1:need<1
 ·have e1:dq ar aS need n=9:=by simp [dq,hl,h1]
  refine zq<|zS<|zB 0<|zP 1 [yH [(1,{k:=ar.length})]] [.ae [17,9,8,0,1,2,3] []] [yI (aC ar)]<|dp 17 ((↑ar.length:Int)>64)<|zP 1 [{}] [.ae [21,17,9,8,0,1,2,3] []] (yM 4 (yT (need<1))++yM 3 (yR true))<|zT 21<|zq<|zR<|aY<|aI (zV [yB (af dR (fM ar aS need n)= []) (by rw [fM,e1];rfl),yJ 9 (dq ar aS need n) (by rw [e1])])
 by_cases h2:n<need
 ·have e1:dq ar aS need n=9:=by simp [dq,hl,h2]
  refine zq<|zS<|zB 0<|zP 1 [yH [(1,{k:=ar.length})]] [.ae [17,9,8,0,1,2,3] []] [yI (aC ar)]<|dp 17 ((↑ar.length:Int)>64)<|zP 1 [yH ([(6,{b:=false})]++yg [3,4,5])] [.ae [21,17,9,8,0,1,2,3] []] (yM 4 (yF (need<1))++yM 3 (yT (n<need)))<|zT 21<|zq<|zR<|aY<|aI (zV [yB (af dR (fM ar aS need n)= []) (by rw [fM,e1];rfl),yJ 9 (dq ar aS need n) (by rw [e1])])
 by_cases h3:255<n
 ·have e1:dq ar aS need n=9:=by simp [dq,hl,h3]
  refine zq<|zS<|zB 0<|zP 1 [yH [(1,{k:=ar.length})]] [.ae [17,9,8,0,1,2,3] []] [yI (aC ar)]<|dp 17 ((↑ar.length:Int)>64)<|zP 1 [yH ([(6,{b:=false}),(10,{b:=false})]++yg [3,4,5,8,9])] [.ae [21,17,9,8,0,1,2,3] []] (yM 4 (yF (need<1))++yM 3 (yF (n<need)))<|gT 21 (n>255)<|zq<|zR<|aY<|aI (zV [yB (af dR (fM ar aS need n)= []) (by rw [fM,e1];rfl),yJ 9 (dq ar aS need n) (by rw [e1])])
 obtain ⟨N,rfl⟩:=Int.eq_ofNat_of_zero_le (by omega:0≤need)
 obtain ⟨M,rfl⟩:=Int.eq_ofNat_of_zero_le (by omega:0≤n)
 have hp:((N:Int)-1)*ar.length≤254*64:=Int.mul_le_mul ah ah ah ah
 have V7:0≤((N:Int)-1)*ar.length:=Int.mul_nonneg ah ah
 by_cases h4:(aS.length:Int)<((N:Int)-1)*ar.length
 ·have e1:dq ar aS N M=1:=by simp [dq,hl,h1,h2,h3,h4]
  refine zq<|zS<|zB 0<|zP 1 [yH [(1,{k:=ar.length})]] [.ae [17,9,8,0,1,2,3] []] [yI (aC ar)]<|dp 17 ((↑ar.length:Int)>64)<|zP 1 [yH ([(6,{b:=false}),(10,{b:=false})]++yg [3,4,5,8,9])] [.ae [21,17,9,8,0,1,2,3] []] (yM 4 (yF ((↑N:Int)<1))++yM 3 (yF ((↑M:Int)<(↑N:Int))))<|dp 21 ((↑M:Int)>255)<|zP 1 [yH [(1,{k:=aS.length}),(3,yV (ai ((↑N:Int)-1))),(5,{k:=ar.length}),(6,yV (ai (((↑N:Int)-1)*(↑ar.length:Int))))]] [.ae [33,21,17,9,8,0,1,2,3] []] [yI (aC aS),yN ((↑N:Int)-1),yI (aC ar),yN (((↑N:Int)-1)*(↑ar.length:Int))]<|gT 33 ((↑aS.length:Int)<((↑N:Int)-1)*(↑ar.length:Int))<|zq<|zR<|aY<|aI (zV [yB (af dR (fM ar aS (↑N:Int) (↑M:Int))= []) (by rw [fM,e1];rfl),yJ 1 (dq ar aS (↑N:Int) (↑M:Int)) (by rw [e1])])
 have e0:dq ar aS N M=0:=by simp [dq,hl,h1,h2,h3,h4]
 refine zq<|zS<|zB 0<|zP 1 [yH [(1,{k:=ar.length})]] [.ae [17,9,8,0,1,2,3] []] [yI (aC ar)]<|dp 17 ((↑ar.length:Int)>64)<|zP 1 [yH ([(6,{b:=false}),(10,{b:=false})]++yg [3,4,5,8,9])] [.ae [21,17,9,8,0,1,2,3] []] (yM 4 (yF ((↑N:Int)<1))++yM 3 (yF ((↑M:Int)<(↑N:Int))))<|dp 21 ((↑M:Int)>255)<|zP 1 [yH [(1,{k:=aS.length}),(3,yV (ai ((↑N:Int)-1))),(5,{k:=ar.length}),(6,yV (ai (((↑N:Int)-1)*(↑ar.length:Int))))]] [.ae [33,21,17,9,8,0,1,2,3] []] [yI (aC aS),yN ((↑N:Int)-1),yI (aC ar),yN (((↑N:Int)-1)*(↑ar.length:Int))]<|dp 33 ((↑aS.length:Int)<((↑N:Int)-1)*(↑ar.length:Int))<|zK<|aM<|ak<|zq<|zS<|zq<|zB 1 (zL (fun (i:Nat)=>(⟨[(0,AV.sl 1 (ag ar)),(1,AV.sl 1 (ag aS)),(2,ai ↑N),(3,ai ↑M),(10,AV.ref 89),(11,ai ((i:Int)+1))],[(89,⟨2,true,false,af dR ((List.range i).map (jv ar aS N))⟩)]⟩:AS)) (fun i=>(i≤M)) (fun i=>(M-i)) (0) ?_ (zW [.nil 10 89 2,.ae [0,1,2,3,10,11] [89]]) ?_)
 ·omega
 intro i hi
 refine zS<|zP 1 [{}] [.ae [44,0,1,2,3,10,11] [89]] [] (zD 44 ((↑i:Int)+1≤(↑M:Int)) (fun hc=>?_) (fun hc=>?_))
 ·skip
  refine a_<|zS<|zB 2<|zq<|zS<|zq<|zB 3 (zL (fun (j:Nat)=>(⟨[(0,AV.sl 1 (ag ar)),(1,AV.sl 1 (ag aS)),(2,ai ↑N),(3,ai ↑M),(10,AV.ref 89),(11,ai ((↑i:Int)+1)),(12,AV.ref 83),(13,ai j)],[(89,⟨2,true,false,af dR (List.map (jv ar aS N) (List.range i))⟩),(83,⟨1,true,false,ag ((List.range j).map (gC ar aS N (u8 (i+1))))⟩)]⟩:AS)) (fun j=>(j≤ar.length)) (fun j=>(ar.length-j)) (0) ?_ (zW [.nil 12 83 1,.ae [0,1,2,3,10,11,12,13] [89,83]]) ?_)
  ·omega
  intro j hj
  refine zS<|zP 1 [yH [(2,{k:=ar.length})]] [.ae [50,0,1,2,3,10,11,12,13] [89,83]] [yI (aC ar)] (zD 50 ((↑j:Int)<(↑ar.length:Int)) (fun h5=>?_) (fun h5=>?_))
  ·skip
   refine a_<|zS<|zB 4<|zP 1 [yH [(2,{k:=j}),(3,yV (ab (ar.getD j 0)))]] [.ae [15,14,50,0,1,2,3,10,11,12,13] [89,83]] [yR (↑j:Int),yB (j<(ag ar).length) (by simp only [aC];omega),yB ((ag ar)[j]?=some (ab (ar.getD j 0))) (ot ah)]<|zS<|zq<|zB 5 (zL (fun (d:Nat)=>(⟨[(0,AV.sl 1 (ag ar)),(1,AV.sl 1 (ag aS)),(2,ai ↑N),(3,ai ↑M),(10,AV.ref 89),(11,ai ((↑i:Int)+1)),(12,AV.ref 83),(13,ai ↑j),(14,ab (tY aS ar.length j (u8 (i+1)) (ar.getD j 0) d).1),(15,ab (tY aS ar.length j (u8 (i+1)) (ar.getD j 0) d).2),(16,ai ((d:Int)+1))],[(89,⟨2,true,false,af dR (List.map (jv ar aS N) (List.range i))⟩),(83,⟨1,true,false,ag (List.map (gC ar aS N (u8 ((↑i:Int)+1))) (List.range j))⟩)]⟩:AS)) (fun d=>(d≤N-1)) (fun d=>(N-1-d)) (0) ?_ (zW [.ae [0,1,2,3,10,11,12,13,14,15,16] [89,83]]) ?_)
   ·omega
   intro d hd
   refine zS<|zP 1 [{}] [.ae [59,0,1,2,3,10,11,12,13,14,15,16] [89,83]] [] (zD 59 ((↑d:Int)+1<(↑N:Int)) (fun h6=>?_) (fun h6=>?_))
   ·have hN:d+1≤N-1:=ah
    have hk:((d:Int)+1-1)*ar.length=((d*ar.length:Nat):Int):=by
     rw [Int.natCast_mul,show (d:Int)+1-1=d by omega]
    have hb:=Nat.mul_le_mul_right ar.length hN
    rw [Nat.add_mul,Nat.one_mul] at hb
    have TM:(((N-1)*ar.length:Nat):Int)=((N:Int)-1)*ar.length:=by rw [Int.natCast_mul,show ((N-1:Nat):Int)=(N:Int)-1 by omega]
    have GD:d+1-1=d:=ah
    have r9:((d:Int)+1-1)*ar.length+j=(((d+1-1)*ar.length+j:Nat):Int):=by rw [hk,GD];omega
    have dh:(d+1-1)*ar.length+j<aS.length:=by rw [GD];omega
    refine a_<|zS<|zB 6<|zP 1 [yH [(2,yV (ab (u8 ((↑i:Int)+1)))),(3,yV (ab (kC (tY aS ar.length j (u8 ((↑i:Int)+1)) (ar.getD j 0) d).snd (u8 ((↑i:Int)+1)))))]] [.ae [15,59,0,1,2,3,10,11,12,13,14,16] [89,83]] [yI (iZ ((↑i:Int)+1)),yI (tU ((tY aS ar.length j (u8 ((↑i:Int)+1)) (ar.getD j 0) d).snd) (u8 ((↑i:Int)+1)))]<|zX (yH [(3,yV (ai ((↑d:Int)+1-1))),(5,{k:=ar.length}),(6,yV (ai (((↑d:Int)+1-1)*(↑ar.length:Int)))),(8,yV (ai (((↑d:Int)+1-1)*(↑ar.length:Int)+(↑j:Int)))),(9,{k:=(d+1-1)*ar.length+j}),(10,yV (ab (aS.getD ((d+1-1)*ar.length+j) 0))),(12,yV (ab (kC (aS.getD ((d+1-1)*ar.length+j) 0) (kC (tY aS ar.length j (u8 ((↑i:Int)+1)) (ar.getD j 0) d).snd (u8 ((↑i:Int)+1)))))),(13,yV (ab ((tY aS ar.length j (u8 ((↑i:Int)+1)) (ar.getD j 0) d).fst^^^kC (aS.getD ((d+1-1)*ar.length+j) 0) (kC (tY aS ar.length j (u8 ((↑i:Int)+1)) (ar.getD j 0) d).snd (u8 ((↑i:Int)+1))))))]) [yN ((↑d:Int)+1-1),yI (aC ar),yN (((↑d:Int)+1-1)*(↑ar.length:Int)),yN (((↑d:Int)+1-1)*(↑ar.length:Int)+(↑j:Int)),yI r9,yB ((d+1-1)*ar.length+j<(ag aS).length) (by simp only [aC];omega),yB ((ag aS)[(d+1-1)*ar.length+j]?=some (ab (aS.getD ((d+1-1)*ar.length+j) 0))) (ot ah),yI (tU (aS.getD ((d+1-1)*ar.length+j) 0) (kC (tY aS ar.length j (u8 ((↑i:Int)+1)) (ar.getD j 0) d).snd (u8 ((↑i:Int)+1)))),yI (ES ((tY aS ar.length j (u8 ((↑i:Int)+1)) (ar.getD j 0) d).fst) (kC (aS.getD ((d+1-1)*ar.length+j) 0) (kC (tY aS ar.length j (u8 ((↑i:Int)+1)) (ar.getD j 0) d).snd (u8 ((↑i:Int)+1)))))]<|aM<|ak<|zX (yH [(1,yV (ai ((↑d:Int)+1+1)))]) [yN ((↑d:Int)+1+1)] (aJ (d+1) hN ah (zW [.ae [0,1,2,3,10,11,12,13,14,15,16] [89,83]]))
   ·have e6:d=N-1:=ah
    subst e6
    refine zE 5<|a7<|aO<|bn<|ak<|zX (yH [(2,yV (AV.arr (ag [(tY aS ar.length j (u8 ((↑i:Int)+1)) (ar.getD j 0) (N-1)).fst]))),(3,yV (AV.arr (ag (List.map (gC ar aS N (u8 ((↑i:Int)+1))) (List.range j)++ [(tY aS ar.length j (u8 ((↑i:Int)+1)) (ar.getD j 0) (N-1)).fst]))))]) [yR [ab ((tY aS ar.length j (u8 ((↑i:Int)+1)) (ar.getD j 0) (N-1)).fst)],yB (ag (List.map (gC ar aS N (u8 ((↑i:Int)+1))) (List.range j))++ag [(tY aS ar.length j (u8 ((↑i:Int)+1)) (ar.getD j 0) (N-1)).fst]=ag (List.map (gC ar aS N (u8 ((↑i:Int)+1))) (List.range j)++ [(tY aS ar.length j (u8 ((↑i:Int)+1)) (ar.getD j 0) (N-1)).fst])) (cZ _ _),yB (((ag (List.map (gC ar aS N (u8 ((↑i:Int)+1))) (List.range j))).length+1)*1≤140737488355328) (by simp only [aC,List.length_map,List.length_range];omega)]<|aM<|ak<|zX (yH [(1,yV (ai ((↑j:Int)+1)))]) [yN ((↑j:Int)+1)] (aJ (j+1) ah ah (eK [.ae [0,1,2,3,10,11,12,13] [89,83]] [] [83] [yB (ag (List.map (gC ar aS N (u8 ((↑i:Int)+1))) (List.range j)++ [(tY aS ar.length j (u8 ((↑i:Int)+1)) (ar.getD j 0) (N-1)).fst])=ag (List.map (gC ar aS N (u8 ((↑i:Int)+1))) (List.range (j+1)))) (congrArg ag (tX (gC ar aS N (u8 (i+1))) j))]))
  ·have e6:j=ar.length:=ah
   subst e6
   refine zE 3<|a7<|aO<|bn<|ak<|zX {} [yB (((af dR (List.map (jv ar aS N) (List.range i))).length+2)*32≤281474976710656) (by simp only [List.length_map,List.length_range,aF (f:=dR) (e:=2) (fun _=>rfl)];omega)]<|aM<|ak<|zX (yH [(1,yV (ai ((↑i:Int)+1+1)))]) [yN ((↑i:Int)+1+1)] (aJ (i+1) ah ah (eK [.ae [0,1,2,3,10,11] [89]] [] [89] [yB (af dR (List.map (jv ar aS N) (List.range i))++ [ai ((↑i:Int)+1),AV.sl 1 (ag (List.map (gC ar aS N (u8 ((↑i:Int)+1))) (List.range ar.length)))]=af dR (List.map (jv ar aS N) (List.range (i+1)))) (Ge (f:=dR) (jv ar aS N) i)]))
 ·have e8:i=M:=ah
  subst e8
  refine zE 1<|a7<|aO<|bn<|ak<|zq<|zR (zV [yB (af dR (List.map (jv ar aS N) (List.range i))=af dR (fM ar aS (↑N:Int) (↑i:Int))) (by simp [fM,e0]),yJ 0 (dq ar aS (↑N:Int) (↑i:Int)) (by rw [e0])])
theorem xo (ar aS:List UInt8) (need n:Int):bK Tryz.prog 119 [.sl 1 (ag ar),.sl 1 (ag aS),ai need,ai n] (.bq [.own 2 (af dR (iM ar aS need n)),ai (dq ar aS need n)]):=by
 rw [←BW];exact xp ar aS need n
def ff (E:Nat->Int):Nat->Int
 | 0=>0
 | n+1=>if ff E n≠0 then ff E n else E n
theorem ld {E:Nat->Int} {m:Nat} {e:Int} (he:e≠0) (h:ff E m=e):∀n,m≤n->ff E n=e
 | 0,hn=>by
  have:m=0:=ah
  subst this;exact h
 | n+1,hn=>by
  by_cases hm:m=n+1
  ·subst hm;exact h
  ·have:=ld he h n ah
   unfold ff
   rw [this,if_pos he]
def d_ (x:List UInt8):Int:=if x.length<1∨32<x.length then 9 else if Lib.validD x=false then 6 else 0
def FA (a b:List UInt8):Bool:=Op.bytesLess (⟨a.toArray⟩:ByteArray).toList (⟨b.toArray⟩:ByteArray).toList || (⟨a.toArray⟩:ByteArray).toList == (⟨b.toArray⟩:ByteArray).toList
def mE (l:List (List UInt8)) (i:Nat):Int:=if d_ (l.getD i default)≠0 then d_ (l.getD i default) else if 0<i∧FA (l.getD i default) (l.getD (i-1) default)=true then 7 else 0
theorem pX {x:List UInt8} (h:x.length<1∨32<x.length):d_ x=9:=by unfold d_;rw [if_pos h]
theorem xD {x:List UInt8} (h:¬(x.length<1∨32<x.length)) (hv:Lib.validD x=false):d_ x=6:=by unfold d_;rw [if_neg h,if_pos hv]
theorem Ee {x:List UInt8} (h:¬(x.length<1∨32<x.length)) (hv:Lib.validD x=true):d_ x=0:=by unfold d_;rw [if_neg h,if_neg (by simp [hv])]
theorem Iv {l:List (List UInt8)} {i:Nat} {e:Int} (h:d_ (l.getD i default)=e) (he:e≠0):mE l i=e:=by unfold mE;rw [if_pos ah,h]
theorem Iu {l:List (List UInt8)} {i k:Nat} (h:d_ (l.getD i default)=0) (hk:k+1=i):mE l i=if FA (l.getD i default) (l.getD k default)=true then 7 else 0:=by
 unfold mE
 subst hk
 rw [if_neg ah,Nat.add_sub_cancel]
 by_cases hc:FA (l.getD (k+1) default) (l.getD k default)=true
 ·rw [if_pos ⟨ah,hc⟩,if_pos hc]
 ·rw [if_neg (fun h=>hc h.2),if_neg hc]
theorem Ez {l:List (List UInt8)} (h:d_ (l.getD 0 default)=0):mE l 0=0:=by unfold mE;rw [if_neg ah,if_neg (fun h=>ah)]
def nO (n:Nat) (need:Int):Prop:=n<1∨8<n∨need<1∨(n:Int)<need
instance (n:Nat) (need:Int):Decidable (nO n need):=inferInstanceAs (Decidable (_∨_∨_∨_))
def qT (l:List (List UInt8)) (need:Int):Int:=if nO l.length need then 9 else ff (mE l) l.length
def Kn (seed:UInt64) (aW:Int):UInt64:=derive seed [100,101,112,111,115,105,116] aW
def Hd (seed:UInt64) (aW:Int) (n:Nat) (need:Int):List Sh:=iM (words [Kn seed aW]) (stream (derive seed [115,104,97,114,101,115] aW) 0 (8*(need-1))) need n
def sD (seed:UInt64) (aW:Int) (l:List (List UInt8)) (need:Int):List (List UInt8):=if qT l need=0 then (List.range l.length).map (fun i=>((Hd seed aW l.length need).getD i default).2) else []
def fF (seed:UInt64) (aW:Int) (l:List (List UInt8)) (need:Int):m0 :=
 if qT l need=0 then ⟨Ap (Kn seed aW),0,[],l,(List.range l.length).map (fun i=>oC (l.getD i default) ((Hd seed aW l.length need).getD i default).2),need,0⟩ else default
def Ql (d:m0):List AV:=[aw d.bR,aw d.peer,.own 1 (ag d.box),.own 1 (af ay d.aa),.own 1 (aj d.au),ai d.need,aw d.target]
def part {T:Type} (f:Nat->T) (z:T) (n i:Nat):List T:=(List.range n).map fun k=>if k<i then f k else z
def m6 (m:UInt64) (k:Nat):Nat:=m.toNat/2^(60-4*k)%16
def bl (m:UInt64):Nat->Nat
 | 0=>0
 | k+1=>bl m k+(15-m6 m k)
def b7 (m:UInt64):List Int:=(List.range 16).map (fun k=>(m6 m k:Int))++ [((bl m 16/16:Nat):Int),((bl m 16%16:Nat):Int)]
theorem Cj (m:UInt64) (k:Nat):m6 m k<16:=Nat.mod_lt _ (by decide)
theorem qZ (m:UInt64) (k:Nat):bl m k≤15*k:=by
 induction k with
 | zero=>simp [bl]
 | succ k ih=>simp only [bl];omega
theorem nN (m:UInt64):(b7 m).length=18:=by simp [b7]
def im (m:UInt64) (k:Nat):List Int:=(List.range k).map fun j=>(m6 m j:Int)
theorem Bm (m:UInt64) (k:Nat):im m (k+1)=im m k++ [(m6 m k:Int)]:=by simp [im,List.range_succ]
theorem Dm (m:UInt64) (k:Nat):(im m k).length=k:=by simp [im]
theorem Ls (m:UInt64):b7 m=im m 16++ [((bl m 16/16:Nat):Int),((bl m 16%16:Nat):Int)]:=rfl
def OV (leaf chain:Int) (p:Int) (x:UInt64):UInt64:=hash 1 (words [u64 leaf,u64 chain,u64 p,x])
def jG (leaf chain:Int) (p:Int) (x:UInt64):Nat->UInt64
 | 0=>x
 | n+1=>OV leaf chain (p+n) (jG leaf chain p x n)
theorem wo (leaf chain:Int) (p:Int) (x:UInt64) (n:Nat):jG leaf chain p x (n+1)=hash 1 (words [u64 leaf,u64 chain,u64 (p+n),jG leaf chain p x n]):=rfl
def run (leaf chain src dst:Int) (x:UInt64):UInt64:=jG leaf chain (max src 0) x (min dst 15-max src 0).toNat
theorem Hj (leaf chain p:Int) (x:UInt64) (a b:Nat):jG leaf chain p x (a+b)=jG leaf chain (p+a) (jG leaf chain p x a) b:=by
 induction b with
 | zero=>rfl
 | succ b ih =>
  show jG leaf chain p x (a+b+1)=_
  rw [wo,wo,ih,show p+((a+b:Nat):Int)=p+a+b by omega]
theorem Fb (leaf chain p q r:Int) (x:UInt64) (h0:0≤p) (h1:p≤q) (h2:q≤r) (hp:p≤15):run leaf chain p r x=run leaf chain q r (run leaf chain p q x):=by
 unfold run
 rw [show max p 0=p by omega,show max q 0=q by omega]
 by_cases hq:q≤15
 ·have e:(min r 15-p).toNat=(q-p).toNat+(min r 15-q).toNat:=ah
  rw [e,Hj,show min q 15=q by omega,show p+((q-p).toNat:Int)=q by omega]
 ·rw [show (min r 15-q).toNat=0 by omega,show min r 15=15 by omega,show min q 15=15 by omega];rfl
def ar (seed:UInt64) (leaf c:Int):UInt64:=y_ seed 1 (words [u64 leaf,u64 c])
def combine (leaf:Int) (l:List UInt64):UInt64:=hash 2 (words (u64 leaf::l))
def bG (seed:UInt64) (leaf:Int) (n:Nat):List UInt64:=(List.range n).map fun (i:Nat)=>run leaf i 0 15 (ar seed leaf i)
def bU (seed:UInt64) (leaf:Int) (m:UInt64) (n:Nat):List UInt64:=(List.range n).map fun (i:Nat)=>run leaf i 0 ((b7 m).getD i 0) (ar seed leaf i)
def cM (leaf:Int) (m:UInt64) (s:List UInt64) (n:Nat):List UInt64:=(List.range n).map fun (i:Nat)=>run leaf i ((b7 m).getD i 0) 15 (s.getD i 0)
theorem rW (seed:UInt64) (leaf:Int) (n:Nat):(bG seed leaf n).length=n:=by simp [bG]
theorem qM (seed:UInt64) (leaf:Int) (m:UInt64) (n:Nat):(bU seed leaf m n).length=n:=by simp [bU]
theorem Am (leaf:Int) (m:UInt64) (s:List UInt64) (n:Nat):(cM leaf m s n).length=n:=by simp [cM]
theorem xA (seed:UInt64) (leaf:Int) (n:Nat):bG seed leaf (n+1)=bG seed leaf n++ [run leaf n 0 15 (ar seed leaf n)]:=by simp [bG,List.range_succ]
theorem BS (seed:UInt64) (leaf:Int) (m:UInt64) (n:Nat):bU seed leaf m (n+1)=bU seed leaf m n++ [run leaf n 0 ((b7 m).getD n 0) (ar seed leaf n)]:=by simp [bU,List.range_succ]
theorem Fj (leaf:Int) (m:UInt64) (s:List UInt64) (n:Nat):cM leaf m s (n+1)=cM leaf m s n++ [run leaf n ((b7 m).getD n 0) 15 (s.getD n 0)]:=by simp [cM,List.range_succ]
theorem Lt (m:UInt64) (i:Nat):0≤(b7 m).getD i 0∧(b7 m).getD i 0≤15:=by
 have hs:=qZ m 16
 by_cases h:i<16
 ·have:=Cj m i
  have e:(b7 m).getD i 0=(m6 m i:Int):=by simp [b7,List.getElem?_append,h]
  omega
 ·by_cases SC:i=16
  ·subst SC
   have e:(b7 m).getD 16 0=((bl m 16/16:Nat):Int):=by simp [b7]
   omega
  ·by_cases VH:i=17
   ·subst VH
    have e:(b7 m).getD 17 0=((bl m 16%16:Nat):Int):=by simp [b7]
    omega
   ·have e:(b7 m).getD i 0=0:=by
     rw [List.getD_eq_getElem?_getD,List.getElem?_eq_none (by rw [nN];omega)];rfl
    omega
theorem Ht (seed:UInt64) (leaf:Int) (m:UInt64):cM leaf m (bU seed leaf m 18) 18=bG seed leaf 18:=by
 unfold cM bG
 apply List.map_congr_left
 intro i hi
 have jj:=List.mem_range.1 hi
 have hb:=Lt m i
 have e:(bU seed leaf m 18).getD i 0=run leaf i 0 ((b7 m).getD i 0) (ar seed leaf i):=by simp [bU,jj]
 rw [e,←Fb leaf i 0 _ 15 _ ah hb.1 hb.2 ah]
def i5 (m:UInt64) (k:Nat):List Int:=(List.range 18).map fun j=>if j<k then (m6 m j:Int) else 0
theorem Jo (m:UInt64) (k:Nat):(i5 m k).length=18:=by simp [i5]
theorem Lu (m:UInt64) (k j:Nat) (hj:j<18):(i5 m k).getD j 0=if j<k then (m6 m j:Int) else 0:=by
 rw [List.getD_eq_getElem?_getD];simp [i5,hj]
theorem Jn (m:UInt64) (k:Nat):(i5 m k).set k (m6 m k:Int)=i5 m (k+1):=by
 apply List.ext_getElem (by simp [i5])
 intro j h1 h2
 rw [List.getElem_set]
 simp only [i5,List.getElem_map,List.getElem_range]
 by_cases hk:k=j
 ·subst hk;rw [if_pos rfl,if_pos ah]
 ·rw [if_neg hk]
  by_cases h:j<k
  ·rw [if_pos h,if_pos ah]
  ·rw [if_neg h,if_neg ah]
theorem Jp (m:UInt64):((i5 m 16).set 16 ((bl m 16/16:Nat):Int)).set 17 ((bl m 16%16:Nat):Int)=b7 m:=by
 simp [i5,b7,List.range_succ]
def cR (n:Nat) (l:List UInt64) (k:Nat):List UInt64:=l.take k++List.replicate (n-k) 0
theorem kq {n k:Nat} {l:List UInt64} (hl:l.length=n) (hk:k≤n):(cR n l k).length=n:=by simp [cR];omega
theorem kN {n:Nat} {l:List UInt64} (hl:l.length=n):cR n l n=l:=by simp [cR,←hl]
theorem l4 {n k:Nat} {l:List UInt64} (hl:l.length=n) (hk:k<n):(cR n l k).set k (l.getD k 0)=cR n l (k+1):=by
 apply List.ext_getElem (by simp [cR];omega)
 intro j h1 h2
 have hj:j<n:=by rw [List.length_set,kq hl ah] at h1;exact h1
 rw [List.getElem_set]
 by_cases h:k=j
 ·subst h
  simp [cR,hl,hk,List.getElem_append]
  omega
 ·rw [if_neg h]
  simp only [cR,List.getElem_append,List.length_take,hl]
  by_cases vH:j<k
  ·simp [show j<min k n by omega,show j<min (k+1) n by omega]
  ·simp [show ¬j<min k n by omega,show ¬j<min (k+1) n by omega]
theorem G_ (seed:UInt64) (leaf:Int) (m:UInt64) (i:Nat) (h:i<18):(bU seed leaf m 18).getD i 0=run leaf i 0 ((b7 m).getD i 0) (ar seed leaf i):=by simp [bU,h]
theorem Kz (leaf:Int) (m:UInt64) (s:List UInt64) (i:Nat) (h:i<18):(cM leaf m s 18).getD i 0=run leaf i ((b7 m).getD i 0) 15 (s.getD i 0):=by simp [cM,h]
theorem Cb (seed:UInt64) (leaf:Int) (i:Nat) (h:i<18):(bG seed leaf 18).getD i 0=run leaf i 0 15 (ar seed leaf i):=by simp [bG,h]
theorem Ef (m:UInt64) (k:Nat) (hk:k≤15):wv ((m>>>UInt64.ofNat (60-4*k))&&&15)=(m6 m k:Int):=by
 unfold wv m6
 rw [UInt64.toNat_and,UInt64.toNat_shiftRight,UInt64.toNat_ofNat_of_lt' (by show _<2^64;omega),Nat.mod_eq_of_lt ah,Nat.shiftRight_eq_div_pow]
 rw [show (15:UInt64).toNat=2^4-1 from rfl,Nat.and_two_pow_sub_one_eq_mod]
end Go.Proofs.YtjgbhhnghedgdaaGreatDoor
