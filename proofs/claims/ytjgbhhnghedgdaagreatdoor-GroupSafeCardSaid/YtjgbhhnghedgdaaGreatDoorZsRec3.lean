import Derived.Test.YtjgbhhnghedgdaaGreatDoorZsEx3
import Derived.Test.YtjgbhhnghedgdaaGreatDoorZsRN
import Derived.StillTailTactics
import Derived.Deep.RegionWith
import Derived.Deep.DeepCutAuto
set_option linter.all false
namespace Go.Proofs.YtjgbhhnghedgdaaGreatDoor
open Go.RowKit
set_option maxRecDepth 100000
set_option maxHeartbeats 4000000
def sm (r:List UInt8):List AV:=[.sl 1 (ag r)]
theorem vv.pw (w:World) (e:TypeId):vv (w.alloc (.cells #[] e)) w.heap.size (.slice (some ⟨w.heap.size,0,none⟩) 0 0) [] :=
 .inr ⟨w.heap.size,0,#[],e,(0,0),rfl,Nat.le_refl _,heap_alloc_new w _,by simp,by simp,rfl,rfl,by simp⟩
theorem kt {P:Program} {w:World} {t e:TypeId} (ht:P.underlying t=some (.slice e)) (A:Option Addr) (n c:Nat):(binOp .eql t (.slice A n c) (.slice none 0 0)).run P w= .ok (.bool A.isNone) w:=by
 have key:∀d,(Op.equalIn (d+1) t (.slice A n c) (.slice none 0 0)).run P w= .ok A.isNone w:=by
  intro d
  unfold Op.equalIn
  cases A<;>simp [run_underlying ht]
 show (Op.equalIn (9999+1) t (.slice A n c) (.slice none 0 0) >>= fun b=>pure (Value.bool b)).run P w=_
 rw [Sem.run_bind,key 9999]
 rfl
theorem FD (v:Value) (l:List UInt8) (w:World) (h:iP w v (r6 l)) (hl:l.length≤70368744177664) :
  Calls Tryz.prog 100 #[v] w fun e w'=>qh w e w' l:=by
 have h':=h
 obtain ⟨A,c,rfl,hc,hm,hr⟩:=h
 rcases A with _|ad
 ·have A9:l= []:=by
   rcases Nat.eq_zero_or_pos l.length with h0|h0
   ·exact List.length_eq_zero_iff.1 h0
   ·obtain ⟨ad,h,_⟩:=hr.2 (by rw [fY];exact h0)
    cases h
  subst A9
  have hq:= @kt Tryz.prog w 25 5 Tryz.underlying25 none (r6 []).length c
  go_enter Tryz.func100,Tryz.ntmps100
  go_wp2
  go_ret
  exact ⟨_,rfl,.inl ⟨rfl,rfl⟩,Below.refl _ _⟩
 ·have SD:=Lib.hid h'
  clear h' hr
  have hq:= @kt Tryz.prog w 25 5 Tryz.underlying25 (some ad) (r6 l).length c
  go_enter Tryz.func100,Tryz.ntmps100
  go_wp2_with (at_builtin;refine s7 _ rfl _ _ 25 rfl E8 w.heap.size _ _ rfl (vv.pw w _) _ (r6 l) rfl (SD.out.below ((Below.refl _ _).alloc (Nat.le_refl _) _)) (Ef _) (by rw [fY];simp;omega) (by simp) ?_;intro v2 w2 FT Ps _)
  go_ret
  exact ⟨_,rfl,by simpa using FT,((Below.refl w.heap.size w).alloc (Nat.le_refl _) _).De (vv.pw w _) Ps⟩
theorem FC (l:List UInt8) (hl:l.length≤70368744177664):bK Tryz.prog 100 [.sl 1 (ag l)] (.own 1 (ag l)):=by
 refine bK.zx fun w vs h1 hr=>?_
 obtain ⟨a,rfl⟩:=Ei h1 rfl
 exact FD a l w (vR (hr 0 a _ rfl rfl) fun _ h=>h) hl
def pb (us:List Value):List AV:=us.map AV.val
theorem lB (us:List Value):(pb us).length=us.length:=by simp [pb]
theorem GG {S:Nat->Prop} {w:World} {v:Value} {bs:List Value} (h:cp S w v (.sl 1 (pb bs))) (hS:∀b,S b->b<w.heap.size):iP w v bs:=by
 cases h with
 | sl A n c e us row hl hn hc hm ha h =>
  have E2:us=bs:=by
   apply List.ext_getElem?
   intro j
   cases hu:us[j]? with
   | none =>
    have:us.length≤j:=List.getElem?_eq_none_iff.1 hu
    rw [List.getElem?_eq_none (by rw [lB] at hl;omega)]
   | some u =>
    have hj:j<bs.length:=by have:=(List.getElem?_eq_some_iff.1 hu).1;rw [hl,lB] at this;exact this
    have hx:(pb bs)[j]?=some (.val bs[j]):=by simp [pb,hj]
    have:=h j u _ hu hx
    cases this
    simp [hj]
  subst E2
  rw [lB] at hn ha
  have sf:us.length=n:=ah
  subst sf
  exact ⟨A,c,rfl,hc,hm,rfl,fun h0=>by
   obtain ⟨ad,e,hs,bq⟩:=ha h0
   exact ⟨ad,e,hS _ hs,bq⟩⟩
def Ek (w:World) (e:Ending) (w':World) (us:List Value):Prop:=∃v,e= .returned v∧vv w' w.heap.size v us∧Below w.heap.size w w'
theorem bK.J6 {P:Program} {f:FuncId} {args:List AV} {us:List Value} (h:∀(w:World) (vs:List Value),vs.length=args.length->(∀(j:Nat) v x,vs[j]?=some v->args[j]?=some x->cp (fun b=>b<w.heap.size) w v x) ->
  Calls P f vs.toArray w fun e w'=>Ek w e w' us):bK P f args (.own 1 (pb us)):=by
 intro w S vs _ hS hl hr
 refine (h w vs hl fun j v x hv hx=>(hr j v x hv hx).mono fun b hb=>⟨hS b hb,rfl⟩).mono fun e w' ⟨v,he,ho,hb⟩=>?_
 rcases ho with ⟨rfl,hn⟩|⟨g,cap,cur,te,fr,rfl,Af,hg,E7,sL,wm,Lw,gv⟩
 ·subst hn
  exact ⟨_,[],he,hb,List.nodup_nil,by simp,.inl (.inl (.nil 1))⟩
 ·have cW:g<w'.heap.size:=by
   rcases Nat.lt_or_ge g w'.heap.size with h|h
   ·exact h
   ·rw [Array.getElem?_eq_none h] at hg;cases hg
  refine ⟨_,[g],he,hb,by simp,by simp [Af,cW],.inl (.inl (.own g _ cap 1 (pb us) cur te fr hg (fun j hj=>gv j ah) (by rw [lB,Nat.one_mul]) E7 sL ah ?_))⟩
  intro j u x hu hx
  have hj:j<us.length:=by have:=(List.getElem?_eq_some_iff.1 hx).1;rwa [lB] at this
  have Jo:x= .val us[j]:=by simp [pb,hj] at hx;exact hx.symm
  subst Jo
  have HD:us[j]?=some u:=by
   rw [←Lw,List.getElem?_take_of_lt hj];simpa using hu
  have:u=us[j]:=by simp [hj] at HD;exact HD.symm
  subst this
  exact .val _
theorem Km:(Tryz.prog.info? 9).map (fun i=>(i.zero,i.size,i.bytes))=some (some (.string ⟨#[]⟩),1,16):=by kernel_rfl
theorem SE:A6 Tryz.prog 26 9 (.string ⟨#[]⟩) 16:=by
 obtain ⟨i,h,h1,h2,h3⟩:=info_parts Km
 exact ⟨Tryz.underlying26,⟨i,h,h1,h2,h3⟩,rfl,by decide⟩
set_option maxRecDepth 100000 in
theorem Bp (v:Value) (l:List Value) (w:World) (h:iP w v l) (h1:∀u∈l,u.oneCell'=true) (hl:l.length≤1000000) :
  Calls Tryz.prog 101 #[v] w fun e w'=>Ek w e w' l:=by
 have h':=h
 obtain ⟨A,c,rfl,hc,hm,hr⟩:=h
 rcases A with _|ad
 ·have A9:l= []:=by
   rcases Nat.eq_zero_or_pos l.length with h0|h0
   ·exact List.length_eq_zero_iff.1 h0
   ·obtain ⟨ad,h,_⟩:=hr.2 h0
    cases h
  clear h' hr
  have hq:= @kt Tryz.prog w 26 9 Tryz.underlying26 none l.length c
  have HL:=Lib.hid A9
  clear A9
  go_enter Tryz.func101,Tryz.ntmps101
  go_wp2
  go_ret
  exact ⟨_,rfl,.inl ⟨rfl,HL.out⟩,Below.refl _ _⟩
 ·have SD:=Lib.hid h'
  clear h' hr
  have hq:= @kt Tryz.prog w 26 9 Tryz.underlying26 (some ad) l.length c
  go_enter Tryz.func101,Tryz.ntmps101
  go_wp2_with (at_builtin;refine s7 _ rfl _ _ 26 rfl SE w.heap.size _ _ rfl (vv.pw w _) _ l rfl (SD.out.below ((Below.refl _ _).alloc (Nat.le_refl _) _)) h1 (by simp;omega) (by simp) ?_;intro v2 w2 FT Ps _)
  go_ret
  exact ⟨_,rfl,by simpa using FT,((Below.refl w.heap.size w).alloc (Nat.le_refl _) _).De (vv.pw w _) Ps⟩
theorem Bo (l:List (List UInt8)) (hl:l.length≤1000000):bK Tryz.prog 101 [.sl 1 (af (fun s=>[dw s]) l)] (.own 1 (af (fun s=>[dw s]) l)):=by
 have e:af (fun s:List UInt8=>[dw s]) l=pb (l.map fun s=>.string ⟨s.toArray⟩):=by
  induction l with
  | nil=>rfl
  | cons x l ih=>rw [jb,ih (by simp at hl;omega)];rfl
 rw [e]
 refine bK.J6 fun w vs h1 hr=>?_
 obtain ⟨a,rfl⟩:=Ei h1 rfl
 exact Bp a _ w (GG (hr 0 a _ rfl rfl) fun _ h=>h) (by simp [Value.oneCell']) (by simpa using hl)
def xt (a:UInt8):UInt8:=if a&&&128≠0 then (a<<<1)^^^27 else a<<<1
theorem oX (p:UInt8->Bool) (h:(List.range 256).all (fun n=>p (UInt8.ofNat n))=true) (a:UInt8):p a=true:=by
 rw [List.all_eq_true] at h
 have:=h a.toNat (List.mem_range.2 (UInt8.toNat_lt a))
 simpa using this
theorem AZ (a b c:UInt8):(a^^^b)&&&c=(a&&&c)^^^(b&&&c):=by
 apply UInt8.toBitVec_inj.1;simp only [UInt8.toBitVec_and,UInt8.toBitVec_xor];ext i hi;simp;cases a.toBitVec[i]<;>cases b.toBitVec[i]<;>cases c.toBitVec[i]<;>rfl
theorem F6 (a b:UInt8):(a^^^b)<<<1=(a<<<1)^^^(b<<<1):=by
 apply UInt8.toBitVec_inj.1;simp [UInt8.toBitVec_shiftLeft,UInt8.toBitVec_xor,BitVec.shiftLeft_xor_distrib]
theorem F1 (a b:UInt8):(a^^^b)>>>1=(a>>>1)^^^(b>>>1):=by
 apply UInt8.toBitVec_inj.1;simp [UInt8.toBitVec_shiftRight,UInt8.toBitVec_xor,BitVec.ushiftRight_xor_distrib]
theorem QP (a b c d:UInt8):(a^^^b)^^^(c^^^d)=(a^^^c)^^^(b^^^d):=by
 rw [UInt8.xor_assoc,UInt8.xor_assoc,←UInt8.xor_assoc b,UInt8.xor_comm b c,UInt8.xor_assoc c]
theorem Ae (a:UInt8):a&&&128=0∨a&&&128=128:=by
 have:=oX (fun a=>decide (a&&&128=0∨a&&&128=128)) (by decide +kernel) a
 exact of_decide_eq_true this
theorem t_ (a:UInt8):a&&&1=0∨a&&&1=1:=by
 have:=oX (fun a=>decide (a&&&1=0∨a&&&1=1)) (by decide +kernel) a
 exact of_decide_eq_true this
theorem LV (a b:UInt8):xt (a^^^b)=xt a^^^xt b:=by
 unfold xt
 rw [AZ,F6]
 rcases Ae a with h|h<;>rcases Ae b with k|k<;>rw [h,k]<;>simp [UInt8.xor_assoc]
 ·rw [UInt8.xor_comm 27]
 ·rw [←UInt8.xor_assoc 27,UInt8.xor_comm 27,UInt8.xor_assoc];simp
theorem G_ (a b p:UInt8) (k:Nat):(bL ⟨a,b,p⟩ (k+1)).a=xt (bL ⟨a,b,p⟩ k).a:=rfl
theorem rM (a c b p q:UInt8):∀k,bL ⟨a^^^c,b,p^^^q⟩ k=⟨(bL ⟨a,b,p⟩ k).a^^^(bL ⟨c,b,q⟩ k).a,(bL ⟨a,b,p⟩ k).b,(bL ⟨a,b,p⟩ k).p^^^(bL ⟨c,b,q⟩ k).p⟩∧(bL ⟨c,b,q⟩ k).b=(bL ⟨a,b,p⟩ k).b
 | 0=>⟨rfl,rfl⟩
 | k+1=>by
  obtain ⟨h,hb⟩:=rM a c b p q k
  refine ⟨?_,?_⟩
  ·rw [bL,h]
   simp only [bL,tT,hb]
   have:=LV (bL ⟨a,b,p⟩ k).a (bL ⟨c,b,q⟩ k).a
   unfold xt at this
   rw [this]
   congr 1
   split
   ·exact QP _ _ _ _
   ·rfl
  ·simp only [bL,tT,hb]
theorem rL (a b c p q:UInt8):∀k,bL ⟨a,b^^^c,p^^^q⟩ k=⟨(bL ⟨a,b,p⟩ k).a,(bL ⟨a,b,p⟩ k).b^^^(bL ⟨a,c,q⟩ k).b,(bL ⟨a,b,p⟩ k).p^^^(bL ⟨a,c,q⟩ k).p⟩∧(bL ⟨a,c,q⟩ k).a=(bL ⟨a,b,p⟩ k).a
 | 0=>⟨rfl,rfl⟩
 | k+1=>by
  obtain ⟨h,hb⟩:=rL a b c p q k
  refine ⟨?_,?_⟩
  ·rw [bL,h]
   simp only [bL,tT,hb,F1,AZ]
   congr 1
   rcases t_ (bL ⟨a,b,p⟩ k).b with h1|h1<;>rcases t_ (bL ⟨a,c,q⟩ k).b with h2|h2<;>rw [h1,h2]<;>simp [UInt8.xor_assoc]
   ·rw [UInt8.xor_comm (bL ⟨a,c,q⟩ k).p]
   ·rw [←UInt8.xor_assoc (bL ⟨a,b,p⟩ k).a,UInt8.xor_comm (bL ⟨a,b,p⟩ k).a (bL ⟨a,c,q⟩ k).p,UInt8.xor_assoc,UInt8.xor_self,UInt8.xor_zero]
  ·simp only [bL,tT,hb]
theorem ir (a c b:UInt8):dS (a^^^c) b=dS a b^^^dS c b:=by
 have:=(rM a c b 0 0 8).1
 rw [UInt8.xor_self] at this
 unfold dS;rw [this]
theorem i7 (a b c:UInt8):dS a (b^^^c)=dS a b^^^dS a c:=by
 have:=(rL a b c 0 0 8).1
 rw [UInt8.xor_self] at this
 unfold dS;rw [this]
theorem qf {f g:UInt8->UInt8} (hf:∀a b,f (a^^^b)=f a^^^f b) (hg:∀a b,g (a^^^b)=g a^^^g b) (h:∀i,i<8->f (UInt8.ofNat (2^i))=g (UInt8.ofNat (2^i))) (a:UInt8):f a=g a:=by
 have f0:f 0=0:=by have:=hf 0 0;rwa [UInt8.xor_self,UInt8.xor_self] at this
 have g0:g 0=0:=by have:=hg 0 0;rwa [UInt8.xor_self,UInt8.xor_self] at this
 have e:a=(((((((a&&&1)^^^(a&&&2))^^^(a&&&4))^^^(a&&&8))^^^(a&&&16))^^^(a&&&32))^^^(a&&&64))^^^(a&&&128):=by
  have:=oX (fun a=>decide (a=(((((((a&&&1)^^^(a&&&2))^^^(a&&&4))^^^(a&&&8))^^^(a&&&16))^^^(a&&&32))^^^(a&&&64))^^^(a&&&128))) (by decide +kernel) a
  exact of_decide_eq_true this
 have one:∀i,i<8->a&&&UInt8.ofNat (2^i)=0∨a&&&UInt8.ofNat (2^i)=UInt8.ofNat (2^i):=by
  intro i hi
  have:=oX (fun a=>decide (∀i,i<8->a&&&UInt8.ofNat (2^i)=0∨a&&&UInt8.ofNat (2^i)=UInt8.ofNat (2^i))) (by decide +kernel) a
  exact of_decide_eq_true this i hi
 have s:∀i,i<8->f (a&&&UInt8.ofNat (2^i))=g (a&&&UInt8.ofNat (2^i)):=by
  intro i hi
  rcases one i hi with h1|h1<;>rw [h1]
  ·rw [f0,g0]
  ·exact h i hi
 rw [e]
 simp only [hf,hg]
 rw [show f (a&&&1)=g (a&&&1) from s 0 ah,show f (a&&&2)=g (a&&&2) from s 1 ah,show f (a&&&4)=g (a&&&4) from s 2 ah,show f (a&&&8)=g (a&&&8) from s 3 ah,show f (a&&&16)=g (a&&&16) from s 4 ah,show f (a&&&32)=g (a&&&32) from s 5 ah,show f (a&&&64)=g (a&&&64) from s 6 ah,show f (a&&&128)=g (a&&&128) from s 7 ah]
theorem wq (a b:UInt8):dS a b=dS b a:=by
 refine qf (f:=fun a=>dS a b) (g:=fun a=>dS b a) (fun x y=>ir x y b) (fun x y=>i7 b x y) (fun i hi=>?_) a
 refine qf (f:=fun b=>dS (UInt8.ofNat (2^i)) b) (g:=fun b=>dS b (UInt8.ofNat (2^i))) (fun x y=>i7 _ x y) (fun x y=>ir x y _) (fun j hj=>?_) b
 have:∀i,i<8-> ∀j,j<8->dS (UInt8.ofNat (2^i)) (UInt8.ofNat (2^j))=dS (UInt8.ofNat (2^j)) (UInt8.ofNat (2^i)):=by decide +kernel
 exact this i hi j hj
theorem B6 (a b c:UInt8):dS (dS a b) c=dS a (dS b c):=by
 refine qf (f:=fun a=>dS (dS a b) c) (g:=fun a=>dS a (dS b c)) (fun x y=>by simp only [ir]) (fun x y=>by simp only [ir]) (fun i hi=>?_) a
 refine qf (f:=fun b=>dS (dS (UInt8.ofNat (2^i)) b) c) (g:=fun b=>dS (UInt8.ofNat (2^i)) (dS b c)) (fun x y=>by simp only [ir,i7]) (fun x y=>by simp only [ir,i7]) (fun j hj=>?_) b
 refine qf (f:=fun c=>dS (dS (UInt8.ofNat (2^i)) (UInt8.ofNat (2^j))) c) (g:=fun c=>dS (UInt8.ofNat (2^i)) (dS (UInt8.ofNat (2^j)) c)) (fun x y=>by simp only [i7]) (fun x y=>by simp only [i7]) (fun k hk=>?_) c
 have:∀i,i<8-> ∀j,j<8-> ∀k,k<8->dS (dS (UInt8.ofNat (2^i)) (UInt8.ofNat (2^j))) (UInt8.ofNat (2^k))=dS (UInt8.ofNat (2^i)) (dS (UInt8.ofNat (2^j)) (UInt8.ofNat (2^k))):=by decide +kernel
 exact this i hi j hj k hk
theorem Ib (a:UInt8):dS a 1=a:=of_decide_eq_true (oX (fun a=>decide (dS a 1=a)) (by decide +kernel) a)
theorem G2 (a:UInt8):dS 1 a=a:=by rw [wq,Ib]
theorem Fe (a:UInt8):dS a 0=0:=by have:=i7 a 0 0;rwa [UInt8.xor_self,UInt8.xor_self] at this
theorem En (a:UInt8):dS 0 a=0:=by rw [wq,Fe]
theorem vQ (a b:UInt8):∀k,k≤8->(gj a b k).x=(bL ⟨a,b,0⟩ k).a.toUInt64∧(gj a b k).p=(bL ⟨a,b,0⟩ k).p∧(k<8->(bL ⟨a,b,0⟩ k).b=b>>>UInt8.ofNat k)
 | 0,_=>⟨rfl,rfl,fun _=>by simp [bL]⟩
 | k+1,hk=>by
  obtain ⟨h1,h2,h3⟩:=vQ a b k ah
  have h3:=h3 ah
  refine ⟨?_,?_,fun h8=>?_⟩
  ·rw [gj,tA,h1,G_]
   have:=oX (fun a=>decide ((if (a.toUInt64<<<1)&&&256≠0 then (a.toUInt64<<<1)^^^283 else a.toUInt64<<<1)=(xt a).toUInt64)) (by decide +kernel) (bL ⟨a,b,0⟩ k).a
   exact of_decide_eq_true this
  ·rw [gj,tA,h1,h2,bL,tT,←h3]
   have e:(bL ⟨a,b,0⟩ k).a.toUInt64.toUInt8=(bL ⟨a,b,0⟩ k).a:=by simp
   rw [e]
   rcases t_ (bL ⟨a,b,0⟩ k).b with h|h<;>rw [h]<;>rfl
  ·rw [bL,tT]
   show (bL ⟨a,b,0⟩ k).b>>>1=_
   rw [h3]
   have:=oX (fun b=>(List.range 7).all fun k=>(b>>>UInt8.ofNat k)>>>1 == b>>>UInt8.ofNat (k+1)) (by decide +kernel) b
   rw [List.all_eq_true] at this
   simpa using this k (List.mem_range.2 ah)
theorem y7 (a b:UInt8):kx a b=dS a b:=(vQ a b 8 (Nat.le_refl _)).2.1
def mO (f:Nat->UInt8):Nat->UInt8
 | 0=>0
 | n+1=>mO f n^^^f n
theorem s6 {f g:Nat->UInt8}:∀ {n:Nat},(∀i,i<n->f i=g i)->mO f n=mO g n
 | 0,_=>rfl
 | n+1,h=>by rw [mO,mO,s6 (fun i hi=>h i ah),h n ah]
theorem ym (f:Nat->UInt8) (x:UInt8):∀n,dS (mO f n) x=mO (fun i=>dS (f i) x) n
 | 0=>En x
 | n+1=>by rw [mO,ir,ym f x n];rfl
theorem s5 (f:Nat->UInt8):∀n,mO f (n+1)=f 0^^^mO (fun i=>f (i+1)) n
 | 0=>by simp [mO]
 | n+1=>by rw [mO,s5 f n,mO,UInt8.xor_assoc]
theorem qT (x:UInt8) (k:Nat):xy x (k+1)=dS (xy x k) x:=by rw [xy,y7]
theorem HF (aO:List UInt8) (L j:Nat) (x:UInt8) (need:Nat):∀m,m≤need-1->dI aO L j x need m=mO (fun t=>dS (aO.getD ((need-1-m+t)*L+j) 0) (xy x (t+1))) m
 | 0,_=>rfl
 | m+1,h=>by
  rw [dI,HF aO L j x need m ah,ir,ym,s5,UInt8.xor_comm]
  congr 1
  ·rw [Nat.add_zero,qT,xy,G2,show need-1-m-1=need-1-(m+1) by omega]
  ·refine s6 fun i hi=>?_
   rw [B6,←qT,show need-1-m+i=need-1-(m+1)+(i+1) by omega]
theorem GX (aO:List UInt8) (L j:Nat) (x c:UInt8):∀d,tK aO L j x c d=(c^^^mO (fun t=>dS (aO.getD (t*L+j) 0) (xy x (t+1))) d,xy x d)
 | 0=>by simp [tK,mO,xy]
 | d+1=>by rw [tK,GX aO L j x c d,mO];simp only [y7,qT,UInt8.xor_assoc]
theorem Bs (s r:List UInt8) (need:Nat) (x:UInt8) (j:Nat):gq s r need x j=Bj s r need x j:=by
 rw [gq,Bj,GX,HF _ _ _ _ _ _ (Nat.le_refl _),UInt8.xor_comm]
 simp only [Nat.sub_self,Nat.zero_add]
theorem Br (s r:List UInt8) (need n:Int):fC s r need n=iC s r need n:=by
 unfold fC iC jj Gn Dp wP
 split
 ·refine List.map_congr_left fun i _=>?_
  congr 1
  exact List.map_congr_left fun j _=>Bs ..
 ·rfl
theorem wX (aq aO:List UInt8) (need n:Int):bK Tryz.prog 119 [.sl 1 (ag aq),.sl 1 (ag aO),ai need,ai n] (.br [.own 2 (af du (fC aq aO need n)),ai (c_ aq aO need n)]):=by
 refine zO Tryz.func119 91 ?_
 by_cases hl:64<aq.length
 ·have e1:c_ aq aO need n=8:=by simp [c_,hl]
  refine zq<|zS<|zB 0<|zP 1 [yH [(1,{k:=aq.length})]] [.aa [17,9,8,0,1,2,3] []] [yI (aA aq)]<|jO 17 ((↑aq.length:Int)>64)<|zq<|zR<|bl<|aW (zV [yB (af du (fC aq aO need n)= []) (by rw [fC,e1];rfl),yJ 8 (c_ aq aO need n) (by rw [e1])])
 by_cases h1:need<1
 ·have e1:c_ aq aO need n=9:=by simp [c_,hl,h1]
  refine zq<|zS<|zB 0<|zP 1 [yH [(1,{k:=aq.length})]] [.aa [17,9,8,0,1,2,3] []] [yI (aA aq)]<|dK 17 ((↑aq.length:Int)>64)<|zP 1 [{}] [.aa [21,17,9,8,0,1,2,3] []] (yM 4 (yT (need<1))++yM 3 (yR true))<|zT 21<|zq<|zR<|bl<|aW (zV [yB (af du (fC aq aO need n)= []) (by rw [fC,e1];rfl),yJ 9 (c_ aq aO need n) (by rw [e1])])
 by_cases h2:n<need
 ·have e1:c_ aq aO need n=9:=by simp [c_,hl,h2]
  refine zq<|zS<|zB 0<|zP 1 [yH [(1,{k:=aq.length})]] [.aa [17,9,8,0,1,2,3] []] [yI (aA aq)]<|dK 17 ((↑aq.length:Int)>64)<|zP 1 [yH ([(6,{b:=false})]++yg [3,4,5])] [.aa [21,17,9,8,0,1,2,3] []] (yM 4 (yF (need<1))++yM 3 (yT (n<need)))<|zT 21<|zq<|zR<|bl<|aW (zV [yB (af du (fC aq aO need n)= []) (by rw [fC,e1];rfl),yJ 9 (c_ aq aO need n) (by rw [e1])])
 by_cases h3:255<n
 ·have e1:c_ aq aO need n=9:=by simp [c_,hl,h3]
  refine zq<|zS<|zB 0<|zP 1 [yH [(1,{k:=aq.length})]] [.aa [17,9,8,0,1,2,3] []] [yI (aA aq)]<|dK 17 ((↑aq.length:Int)>64)<|zP 1 [yH ([(6,{b:=false}),(10,{b:=false})]++yg [3,4,5,8,9])] [.aa [21,17,9,8,0,1,2,3] []] (yM 4 (yF (need<1))++yM 3 (yF (n<need)))<|jO 21 (n>255)<|zq<|zR<|bl<|aW (zV [yB (af du (fC aq aO need n)= []) (by rw [fC,e1];rfl),yJ 9 (c_ aq aO need n) (by rw [e1])])
 obtain ⟨N,rfl⟩:=Int.eq_ofNat_of_zero_le (by omega:0≤need)
 obtain ⟨M,rfl⟩:=Int.eq_ofNat_of_zero_le (by omega:0≤n)
 have hp:((N:Int)-1)*aq.length≤254*64:=Int.mul_le_mul ah ah ah ah
 have VT:0≤((N:Int)-1)*aq.length:=Int.mul_nonneg ah ah
 by_cases h4:(aO.length:Int)<((N:Int)-1)*aq.length
 ·have e1:c_ aq aO N M=1:=by simp [c_,hl,h1,h2,h3,h4]
  refine zq<|zS<|zB 0<|zP 1 [yH [(1,{k:=aq.length})]] [.aa [17,9,8,0,1,2,3] []] [yI (aA aq)]<|dK 17 ((↑aq.length:Int)>64)<|zP 1 [yH ([(6,{b:=false}),(10,{b:=false})]++yg [3,4,5,8,9])] [.aa [21,17,9,8,0,1,2,3] []] (yM 4 (yF ((↑N:Int)<1))++yM 3 (yF ((↑M:Int)<(↑N:Int))))<|dK 21 ((↑M:Int)>255)<|zP 1 [yH [(1,{k:=aO.length}),(3,yV (ai ((↑N:Int)-1))),(5,{k:=aq.length}),(6,yV (ai (((↑N:Int)-1)*(↑aq.length:Int))))]] [.aa [33,21,17,9,8,0,1,2,3] []] [yI (aA aO),yN ((↑N:Int)-1),yI (aA aq),yN (((↑N:Int)-1)*(↑aq.length:Int))]<|jO 33 ((↑aO.length:Int)<((↑N:Int)-1)*(↑aq.length:Int))<|zq<|zR<|bl<|aW (zV [yB (af du (fC aq aO (↑N:Int) (↑M:Int))= []) (by rw [fC,e1];rfl),yJ 1 (c_ aq aO (↑N:Int) (↑M:Int)) (by rw [e1])])
 have e0:c_ aq aO N M=0:=by simp [c_,hl,h1,h2,h3,h4]
 refine zq<|zS<|zB 0<|zP 1 [yH [(1,{k:=aq.length})]] [.aa [17,9,8,0,1,2,3] []] [yI (aA aq)]<|dK 17 ((↑aq.length:Int)>64)<|zP 1 [yH ([(6,{b:=false}),(10,{b:=false})]++yg [3,4,5,8,9])] [.aa [21,17,9,8,0,1,2,3] []] (yM 4 (yF ((↑N:Int)<1))++yM 3 (yF ((↑M:Int)<(↑N:Int))))<|dK 21 ((↑M:Int)>255)<|zP 1 [yH [(1,{k:=aO.length}),(3,yV (ai ((↑N:Int)-1))),(5,{k:=aq.length}),(6,yV (ai (((↑N:Int)-1)*(↑aq.length:Int))))]] [.aa [33,21,17,9,8,0,1,2,3] []] [yI (aA aO),yN ((↑N:Int)-1),yI (aA aq),yN (((↑N:Int)-1)*(↑aq.length:Int))]<|dK 33 ((↑aO.length:Int)<((↑N:Int)-1)*(↑aq.length:Int))<|zK<|aM<|ak<|zq<|zS<|zq<|zB 1 (zL (fun (i:Nat)=>(⟨[(0,AV.sl 1 (ag aq)),(1,AV.sl 1 (ag aO)),(2,ai ↑N),(3,ai ↑M),(10,AV.ref 89),(11,ai ((i:Int)+1))],[(89,⟨2,true,false,af du ((List.range i).map (jj aq aO N))⟩)]⟩:AS)) (fun i=>(i≤M)) (fun i=>(M-i)) (0) ?_ (zW [.nil 10 89 2,.aa [0,1,2,3,10,11] [89]]) ?_)
 ·omega
 intro i hi
 refine zS<|zP 1 [{}] [.aa [44,0,1,2,3,10,11] [89]] [] (zD 44 ((↑i:Int)+1≤(↑M:Int)) (fun hc=>?_) (fun hc=>?_))
 ·skip
  refine a8<|zS<|zB 2<|zq<|zS<|zq<|zB 3 (zL (fun (j:Nat)=>(⟨[(0,AV.sl 1 (ag aq)),(1,AV.sl 1 (ag aO)),(2,ai ↑N),(3,ai ↑M),(10,AV.ref 89),(11,ai ((↑i:Int)+1)),(12,AV.ref 83),(13,ai j)],[(89,⟨2,true,false,af du (List.map (jj aq aO N) (List.range i))⟩),(83,⟨1,true,false,ag ((List.range j).map (gq aq aO N (u8 (i+1))))⟩)]⟩:AS)) (fun j=>(j≤aq.length)) (fun j=>(aq.length-j)) (0) ?_ (zW [.nil 12 83 1,.aa [0,1,2,3,10,11,12,13] [89,83]]) ?_)
  ·omega
  intro j hj
  refine zS<|zP 1 [yH [(2,{k:=aq.length})]] [.aa [50,0,1,2,3,10,11,12,13] [89,83]] [yI (aA aq)] (zD 50 ((↑j:Int)<(↑aq.length:Int)) (fun h5=>?_) (fun h5=>?_))
  ·skip
   refine a8<|zS<|zB 4<|zP 1 [yH [(2,{k:=j}),(3,yV (ab (aq.getD j 0)))]] [.aa [15,14,50,0,1,2,3,10,11,12,13] [89,83]] [yR (↑j:Int),yB (j<(ag aq).length) (by simp only [aA];omega),yB ((ag aq)[j]?=some (ab (aq.getD j 0))) (nS ah)]<|zS<|zq<|zB 5 (zL (fun (d:Nat)=>(⟨[(0,AV.sl 1 (ag aq)),(1,AV.sl 1 (ag aO)),(2,ai ↑N),(3,ai ↑M),(10,AV.ref 89),(11,ai ((↑i:Int)+1)),(12,AV.ref 83),(13,ai ↑j),(14,ab (tK aO aq.length j (u8 (i+1)) (aq.getD j 0) d).1),(15,ab (tK aO aq.length j (u8 (i+1)) (aq.getD j 0) d).2),(16,ai ((d:Int)+1))],[(89,⟨2,true,false,af du (List.map (jj aq aO N) (List.range i))⟩),(83,⟨1,true,false,ag (List.map (gq aq aO N (u8 ((↑i:Int)+1))) (List.range j))⟩)]⟩:AS)) (fun d=>(d≤N-1)) (fun d=>(N-1-d)) (0) ?_ (zW [.aa [0,1,2,3,10,11,12,13,14,15,16] [89,83]]) ?_)
   ·omega
   intro d hd
   refine zS<|zP 1 [{}] [.aa [59,0,1,2,3,10,11,12,13,14,15,16] [89,83]] [] (zD 59 ((↑d:Int)+1<(↑N:Int)) (fun h6=>?_) (fun h6=>?_))
   ·have hN:d+1≤N-1:=ah
    have hk:((d:Int)+1-1)*aq.length=((d*aq.length:Nat):Int):=by
     rw [Int.natCast_mul,show (d:Int)+1-1=d by omega]
    have hb:=Nat.mul_le_mul_right aq.length hN
    rw [Nat.add_mul,Nat.one_mul] at hb
    have Tt:(((N-1)*aq.length:Nat):Int)=((N:Int)-1)*aq.length:=by rw [Int.natCast_mul,show ((N-1:Nat):Int)=(N:Int)-1 by omega]
    have FW:d+1-1=d:=ah
    have xp:((d:Int)+1-1)*aq.length+j=(((d+1-1)*aq.length+j:Nat):Int):=by rw [hk,FW];omega
    have cW:(d+1-1)*aq.length+j<aO.length:=by rw [FW];omega
    refine a8<|zS<|zB 6<|zP 1 [yH [(2,yV (ab (u8 ((↑i:Int)+1)))),(3,yV (ab (kx (tK aO aq.length j (u8 ((↑i:Int)+1)) (aq.getD j 0) d).snd (u8 ((↑i:Int)+1)))))]] [.aa [15,59,0,1,2,3,10,11,12,13,14,16] [89,83]] [yI (iO ((↑i:Int)+1)),yI (tG ((tK aO aq.length j (u8 ((↑i:Int)+1)) (aq.getD j 0) d).snd) (u8 ((↑i:Int)+1)))]<|zX (yH [(3,yV (ai ((↑d:Int)+1-1))),(5,{k:=aq.length}),(6,yV (ai (((↑d:Int)+1-1)*(↑aq.length:Int)))),(8,yV (ai (((↑d:Int)+1-1)*(↑aq.length:Int)+(↑j:Int)))),(9,{k:=(d+1-1)*aq.length+j}),(10,yV (ab (aO.getD ((d+1-1)*aq.length+j) 0))),(12,yV (ab (kx (aO.getD ((d+1-1)*aq.length+j) 0) (kx (tK aO aq.length j (u8 ((↑i:Int)+1)) (aq.getD j 0) d).snd (u8 ((↑i:Int)+1)))))),(13,yV (ab ((tK aO aq.length j (u8 ((↑i:Int)+1)) (aq.getD j 0) d).fst^^^kx (aO.getD ((d+1-1)*aq.length+j) 0) (kx (tK aO aq.length j (u8 ((↑i:Int)+1)) (aq.getD j 0) d).snd (u8 ((↑i:Int)+1))))))]) [yN ((↑d:Int)+1-1),yI (aA aq),yN (((↑d:Int)+1-1)*(↑aq.length:Int)),yN (((↑d:Int)+1-1)*(↑aq.length:Int)+(↑j:Int)),yI xp,yB ((d+1-1)*aq.length+j<(ag aO).length) (by simp only [aA];omega),yB ((ag aO)[(d+1-1)*aq.length+j]?=some (ab (aO.getD ((d+1-1)*aq.length+j) 0))) (nS ah),yI (tG (aO.getD ((d+1-1)*aq.length+j) 0) (kx (tK aO aq.length j (u8 ((↑i:Int)+1)) (aq.getD j 0) d).snd (u8 ((↑i:Int)+1)))),yI (Eh ((tK aO aq.length j (u8 ((↑i:Int)+1)) (aq.getD j 0) d).fst) (kx (aO.getD ((d+1-1)*aq.length+j) 0) (kx (tK aO aq.length j (u8 ((↑i:Int)+1)) (aq.getD j 0) d).snd (u8 ((↑i:Int)+1)))))]<|aM<|ak<|zX (yH [(1,yV (ai ((↑d:Int)+1+1)))]) [yN ((↑d:Int)+1+1)] (aI (d+1) hN ah (zW [.aa [0,1,2,3,10,11,12,13,14,15,16] [89,83]]))
   ·have e6:d=N-1:=ah
    subst e6
    refine zE 5<|aY<|aN<|bm<|ak<|zX (yH [(2,yV (AV.arr (ag [(tK aO aq.length j (u8 ((↑i:Int)+1)) (aq.getD j 0) (N-1)).fst]))),(3,yV (AV.arr (ag (List.map (gq aq aO N (u8 ((↑i:Int)+1))) (List.range j)++ [(tK aO aq.length j (u8 ((↑i:Int)+1)) (aq.getD j 0) (N-1)).fst]))))]) [yR [ab ((tK aO aq.length j (u8 ((↑i:Int)+1)) (aq.getD j 0) (N-1)).fst)],yB (ag (List.map (gq aq aO N (u8 ((↑i:Int)+1))) (List.range j))++ag [(tK aO aq.length j (u8 ((↑i:Int)+1)) (aq.getD j 0) (N-1)).fst]=ag (List.map (gq aq aO N (u8 ((↑i:Int)+1))) (List.range j)++ [(tK aO aq.length j (u8 ((↑i:Int)+1)) (aq.getD j 0) (N-1)).fst])) (cQ _ _),yB (((ag (List.map (gq aq aO N (u8 ((↑i:Int)+1))) (List.range j))).length+1)*1≤140737488355328) (by simp only [aA,List.length_map,List.length_range];omega)]<|aM<|ak<|zX (yH [(1,yV (ai ((↑j:Int)+1)))]) [yN ((↑j:Int)+1)] (aI (j+1) ah ah (e_ [.aa [0,1,2,3,10,11,12,13] [89,83]] [] [83] [yB (ag (List.map (gq aq aO N (u8 ((↑i:Int)+1))) (List.range j)++ [(tK aO aq.length j (u8 ((↑i:Int)+1)) (aq.getD j 0) (N-1)).fst])=ag (List.map (gq aq aO N (u8 ((↑i:Int)+1))) (List.range (j+1)))) (congrArg ag (tJ (gq aq aO N (u8 (i+1))) j))]))
  ·have e6:j=aq.length:=ah
   subst e6
   refine zE 3<|aY<|aN<|bm<|ak<|zX {} [yB (((af du (List.map (jj aq aO N) (List.range i))).length+2)*32≤281474976710656) (by simp only [List.length_map,List.length_range,aG (f:=du) (e:=2) (fun _=>rfl)];omega)]<|aM<|ak<|zX (yH [(1,yV (ai ((↑i:Int)+1+1)))]) [yN ((↑i:Int)+1+1)] (aI (i+1) ah ah (e_ [.aa [0,1,2,3,10,11] [89]] [] [89] [yB (af du (List.map (jj aq aO N) (List.range i))++ [ai ((↑i:Int)+1),AV.sl 1 (ag (List.map (gq aq aO N (u8 ((↑i:Int)+1))) (List.range aq.length)))]=af du (List.map (jj aq aO N) (List.range (i+1)))) (Fx (f:=du) (jj aq aO N) i)]))
 ·have e8:i=M:=ah
  subst e8
  refine zE 1<|aY<|aN<|bm<|ak<|zq<|zR (zV [yB (af du (List.map (jj aq aO N) (List.range i))=af du (fC aq aO (↑N:Int) (↑i:Int))) (by simp [fC,e0]),yJ 0 (c_ aq aO (↑N:Int) (↑i:Int)) (by rw [e0])])
theorem wW (aq aO:List UInt8) (need n:Int):bK Tryz.prog 119 [.sl 1 (ag aq),.sl 1 (ag aO),ai need,ai n] (.br [.own 2 (af du (iC aq aO need n)),ai (c_ aq aO need n)]):=by
 rw [←Br];exact wX aq aO need n
def ff (E:Nat->Int):Nat->Int
 | 0=>0
 | n+1=>if ff E n≠0 then ff E n else E n
theorem mn {E:Nat->Int} {m:Nat} {e:Int} (he:e≠0) (h:ff E m=e):∀n,m≤n->ff E n=e
 | 0,hn=>by
  have:m=0:=ah
  subst this;exact h
 | n+1,hn=>by
  by_cases hm:m=n+1
  ·subst hm;exact h
  ·have:=mn he h n ah
   unfold ff
   rw [this,if_pos he]
def dG (x:List UInt8):Int:=if x.length<1∨32<x.length then 9 else if Lib.validD x=false then 6 else 0
def Hn (a b:List UInt8):Bool:=Op.bytesLess (⟨a.toArray⟩:ByteArray).toList (⟨b.toArray⟩:ByteArray).toList || (⟨a.toArray⟩:ByteArray).toList == (⟨b.toArray⟩:ByteArray).toList
def mj (l:List (List UInt8)) (i:Nat):Int:=if dG (l.getD i default)≠0 then dG (l.getD i default) else if 0<i∧Hn (l.getD i default) (l.getD (i-1) default)=true then 7 else 0
theorem pz {x:List UInt8} (h:x.length<1∨32<x.length):dG x=9:=by unfold dG;rw [if_pos h]
theorem xc {x:List UInt8} (h:¬(x.length<1∨32<x.length)) (hv:Lib.validD x=false):dG x=6:=by unfold dG;rw [if_neg h,if_pos hv]
theorem Dy {x:List UInt8} (h:¬(x.length<1∨32<x.length)) (hv:Lib.validD x=true):dG x=0:=by unfold dG;rw [if_neg h,if_neg (by simp [hv])]
theorem HV {l:List (List UInt8)} {i:Nat} {e:Int} (h:dG (l.getD i default)=e) (he:e≠0):mj l i=e:=by unfold mj;rw [if_pos ah,h]
theorem HU {l:List (List UInt8)} {i k:Nat} (h:dG (l.getD i default)=0) (hk:k+1=i):mj l i=if Hn (l.getD i default) (l.getD k default)=true then 7 else 0:=by
 unfold mj
 subst hk
 rw [if_neg ah,Nat.add_sub_cancel]
 by_cases hc:Hn (l.getD (k+1) default) (l.getD k default)=true
 ·rw [if_pos ⟨ah,hc⟩,if_pos hc]
 ·rw [if_neg (fun h=>hc h.2),if_neg hc]
theorem DT {l:List (List UInt8)} (h:dG (l.getD 0 default)=0):mj l 0=0:=by unfold mj;rw [if_neg ah,if_neg (fun h=>ah)]
def nv (n:Nat) (need:Int):Prop:=n<1∨8<n∨need<1∨(n:Int)<need
instance (n:Nat) (need:Int):Decidable (nv n need):=inferInstanceAs (Decidable (_∨_∨_∨_))
def qB (l:List (List UInt8)) (need:Int):Int:=if nv l.length need then 9 else ff (mj l) l.length
def JS (seed:UInt64) (aT:Int):UInt64:=derive seed [100,101,112,111,115,105,116] aT
def Gv (seed:UInt64) (aT:Int) (n:Nat) (need:Int):List Sh:=iC (words [JS seed aT]) (stream (derive seed [115,104,97,114,101,115] aT) 0 (8*(need-1))) need n
def sd (seed:UInt64) (aT:Int) (l:List (List UInt8)) (need:Int):List (List UInt8):=if qB l need=0 then (List.range l.length).map (fun i=>((Gv seed aT l.length need).getD i default).2) else []
def fq (seed:UInt64) (aT:Int) (l:List (List UInt8)) (need:Int):nC :=
 if qB l need=0 then ⟨zr (JS seed aT),0,[],l,(List.range l.length).map (fun i=>n_ (l.getD i default) ((Gv seed aT l.length need).getD i default).2),need,0⟩ else default
def PS (d:nC):List AV:=[aw d.cm,aw d.peer,.own 1 (ag d.box),.own 1 (af ay d.ae),.own 1 (aj d.au),ai d.need,aw d.target]
def part {T:Type} (f:Nat->T) (z:T) (n i:Nat):List T:=(List.range n).map fun k=>if k<i then f k else z
def mM (m:UInt64) (k:Nat):Nat:=m.toNat/2^(60-4*k)%16
def bc (m:UInt64):Nat->Nat
 | 0=>0
 | k+1=>bc m k+(15-mM m k)
def cP (m:UInt64):List Int:=(List.range 16).map (fun k=>(mM m k:Int))++ [((bc m 16/16:Nat):Int),((bc m 16%16:Nat):Int)]
theorem BK (m:UInt64) (k:Nat):mM m k<16:=Nat.mod_lt _ (by decide)
theorem qH (m:UInt64) (k:Nat):bc m k≤15*k:=by
 induction k with
 | zero=>simp [bc]
 | succ k ih=>simp only [bc];omega
theorem pX (m:UInt64):(cP m).length=18:=by simp [cP]
def h_ (m:UInt64) (k:Nat):List Int:=(List.range k).map fun j=>(mM m j:Int)
theorem AM (m:UInt64) (k:Nat):h_ m (k+1)=h_ m k++ [(mM m k:Int)]:=by simp [h_,List.range_succ]
theorem CF (m:UInt64) (k:Nat):(h_ m k).length=k:=by simp [h_]
theorem K0 (m:UInt64):cP m=h_ m 16++ [((bc m 16/16:Nat):Int),((bc m 16%16:Nat):Int)]:=rfl
def Ox (leaf chain:Int) (p:Int) (x:UInt64):UInt64:=hash 1 (words [u64 leaf,u64 chain,u64 p,x])
def jw (leaf chain:Int) (p:Int) (x:UInt64):Nat->UInt64
 | 0=>x
 | n+1=>Ox leaf chain (p+n) (jw leaf chain p x n)
theorem vP (leaf chain:Int) (p:Int) (x:UInt64) (n:Nat):jw leaf chain p x (n+1)=hash 1 (words [u64 leaf,u64 chain,u64 (p+n),jw leaf chain p x n]):=rfl
def run (leaf chain src dst:Int) (x:UInt64):UInt64:=jw leaf chain (max src 0) x (min dst 15-max src 0).toNat
theorem GC (leaf chain p:Int) (x:UInt64) (a b:Nat):jw leaf chain p x (a+b)=jw leaf chain (p+a) (jw leaf chain p x a) b:=by
 induction b with
 | zero=>rfl
 | succ b ih =>
  show jw leaf chain p x (a+b+1)=_
  rw [vP,vP,ih,show p+((a+b:Nat):Int)=p+a+b by omega]
theorem EC (leaf chain p q r:Int) (x:UInt64) (h0:0≤p) (h1:p≤q) (h2:q≤r) (hp:p≤15):run leaf chain p r x=run leaf chain q r (run leaf chain p q x):=by
 unfold run
 rw [show max p 0=p by omega,show max q 0=q by omega]
 by_cases hq:q≤15
 ·have e:(min r 15-p).toNat=(q-p).toNat+(min r 15-q).toNat:=ah
  rw [e,GC,show min q 15=q by omega,show p+((q-p).toNat:Int)=q by omega]
 ·rw [show (min r 15-q).toNat=0 by omega,show min r 15=15 by omega,show min q 15=15 by omega];rfl
def aq (seed:UInt64) (leaf c:Int):UInt64:=yi seed 1 (words [u64 leaf,u64 c])
def combine (leaf:Int) (l:List UInt64):UInt64:=hash 2 (words (u64 leaf::l))
def bA (seed:UInt64) (leaf:Int) (n:Nat):List UInt64:=(List.range n).map fun (i:Nat)=>run leaf i 0 15 (aq seed leaf i)
def bP (seed:UInt64) (leaf:Int) (m:UInt64) (n:Nat):List UInt64:=(List.range n).map fun (i:Nat)=>run leaf i 0 ((cP m).getD i 0) (aq seed leaf i)
def fp (leaf:Int) (m:UInt64) (s:List UInt64) (n:Nat):List UInt64:=(List.range n).map fun (i:Nat)=>run leaf i ((cP m).getD i 0) 15 (s.getD i 0)
theorem rH (seed:UInt64) (leaf:Int) (n:Nat):(bA seed leaf n).length=n:=by simp [bA]
theorem qs (seed:UInt64) (leaf:Int) (m:UInt64) (n:Nat):(bP seed leaf m n).length=n:=by simp [bP]
theorem GO (leaf:Int) (m:UInt64) (s:List UInt64) (n:Nat):(fp leaf m s n).length=n:=by simp [fp]
theorem xa (seed:UInt64) (leaf:Int) (n:Nat):bA seed leaf (n+1)=bA seed leaf n++ [run leaf n 0 15 (aq seed leaf n)]:=by simp [bA,List.range_succ]
theorem Bm (seed:UInt64) (leaf:Int) (m:UInt64) (n:Nat):bP seed leaf m (n+1)=bP seed leaf m n++ [run leaf n 0 ((cP m).getD n 0) (aq seed leaf n)]:=by simp [bP,List.range_succ]
theorem K1 (m:UInt64) (i:Nat):0≤(cP m).getD i 0∧(cP m).getD i 0≤15:=by
 have hs:=qH m 16
 by_cases h:i<16
 ·have:=BK m i
  have e:(cP m).getD i 0=(mM m i:Int):=by simp [cP,List.getElem?_append,h]
  omega
 ·by_cases Sk:i=16
  ·subst Sk
   have e:(cP m).getD 16 0=((bc m 16/16:Nat):Int):=by simp [cP]
   omega
  ·by_cases Vt:i=17
   ·subst Vt
    have e:(cP m).getD 17 0=((bc m 16%16:Nat):Int):=by simp [cP]
    omega
   ·have e:(cP m).getD i 0=0:=by
     rw [List.getD_eq_getElem?_getD,List.getElem?_eq_none (by rw [pX];omega)];rfl
    omega
theorem GN (seed:UInt64) (leaf:Int) (m:UInt64):fp leaf m (bP seed leaf m 18) 18=bA seed leaf 18:=by
 unfold fp bA
 apply List.map_congr_left
 intro i hi
 have i6:=List.mem_range.1 hi
 have hb:=K1 m i
 have e:(bP seed leaf m 18).getD i 0=run leaf i 0 ((cP m).getD i 0) (aq seed leaf i):=by simp [bP,i6]
 rw [e,←EC leaf i 0 _ 15 _ ah hb.1 hb.2 ah]
def iT (m:UInt64) (k:Nat):List Int:=(List.range 18).map fun j=>if j<k then (mM m j:Int) else 0
theorem IK (m:UInt64) (k:Nat):(iT m k).length=18:=by simp [iT]
theorem K2 (m:UInt64) (k j:Nat) (hj:j<18):(iT m k).getD j 0=if j<k then (mM m j:Int) else 0:=by
 rw [List.getD_eq_getElem?_getD];simp [iT,hj]
theorem IJ (m:UInt64) (k:Nat):(iT m k).set k (mM m k:Int)=iT m (k+1):=by
 apply List.ext_getElem (by simp [iT])
 intro j h1 h2
 rw [List.getElem_set]
 simp only [iT,List.getElem_map,List.getElem_range]
 by_cases hk:k=j
 ·subst hk;rw [if_pos rfl,if_pos ah]
 ·rw [if_neg hk]
  by_cases h:j<k
  ·rw [if_pos h,if_pos ah]
  ·rw [if_neg h,if_neg ah]
theorem IL (m:UInt64):((iT m 16).set 16 ((bc m 16/16:Nat):Int)).set 17 ((bc m 16%16:Nat):Int)=cP m:=by
 simp [iT,cP,List.range_succ]
def cH (n:Nat) (l:List UInt64) (k:Nat):List UInt64:=l.take k++List.replicate (n-k) 0
theorem ki {n k:Nat} {l:List UInt64} (hl:l.length=n) (hk:k≤n):(cH n l k).length=n:=by simp [cH];omega
theorem kG {n:Nat} {l:List UInt64} (hl:l.length=n):cH n l n=l:=by simp [cH,←hl]
theorem lP {n k:Nat} {l:List UInt64} (hl:l.length=n) (hk:k<n):(cH n l k).set k (l.getD k 0)=cH n l (k+1):=by
 apply List.ext_getElem (by simp [cH];omega)
 intro j h1 h2
 have hj:j<n:=by rw [List.length_set,ki hl ah] at h1;exact h1
 rw [List.getElem_set]
 by_cases h:k=j
 ·subst h
  simp [cH,hl,hk,List.getElem_append]
  omega
 ·rw [if_neg h]
  simp only [cH,List.getElem_append,List.length_take,hl]
  by_cases vn:j<k
  ·simp [show j<min k n by omega,show j<min (k+1) n by omega]
  ·simp [show ¬j<min k n by omega,show ¬j<min (k+1) n by omega]
theorem Gr (seed:UInt64) (leaf:Int) (m:UInt64) (i:Nat) (h:i<18):(bP seed leaf m 18).getD i 0=run leaf i 0 ((cP m).getD i 0) (aq seed leaf i):=by simp [bP,h]
theorem J2 (leaf:Int) (m:UInt64) (s:List UInt64) (i:Nat) (h:i<18):(fp leaf m s 18).getD i 0=run leaf i ((cP m).getD i 0) 15 (s.getD i 0):=by simp [fp,h]
theorem BE (seed:UInt64) (leaf:Int) (i:Nat) (h:i<18):(bA seed leaf 18).getD i 0=run leaf i 0 15 (aq seed leaf i):=by simp [bA,h]
theorem Dz (m:UInt64) (k:Nat) (hk:k≤15):wv ((m>>>UInt64.ofNat (60-4*k))&&&15)=(mM m k:Int):=by
 unfold wv mM
 rw [UInt64.toNat_and,UInt64.toNat_shiftRight,UInt64.toNat_ofNat_of_lt' (by show _<2^64;omega),Nat.mod_eq_of_lt ah,Nat.shiftRight_eq_div_pow]
 rw [show (15:UInt64).toNat=2^4-1 from rfl,Nat.and_two_pow_sub_one_eq_mod]
end Go.Proofs.YtjgbhhnghedgdaaGreatDoor
