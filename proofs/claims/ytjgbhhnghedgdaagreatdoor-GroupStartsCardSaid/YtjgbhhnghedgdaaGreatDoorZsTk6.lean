import Derived.Test.YtjgbhhnghedgdaaGreatDoorZsV8
import Derived.Test.YtjgbhhnghedgdaaGreatDoorZsTk4
import Derived.Test.YtjgbhhnghedgdaaGreatDoorZsTk3
set_option linter.all false
namespace Go.Proofs.YtjgbhhnghedgdaaGreatDoor
open Go.RowKit
set_option maxRecDepth 100000
set_option maxHeartbeats 4000000
set_option linter.unusedVariables false
theorem sign_bad (seed:UInt64) (h leaf:Int) (m:UInt64) (hbad:badL h leaf):Ret Tryz.prog 51 [aw seed,ai h,ai leaf,aw m] (.tup [.agg [ai 0,.sl 1 (wordsA []),.own 1 (wordsA [])],ai 9]):=by
 unfold badL at hbad
 by_cases hb:badH h
 ·refine zO Tryz.func51 48 ?_
  refine zQ 1 [{}] [] ?_
  refine zS ?_
  refine zP 1 [yH [(1,yV (ao (decide (badH h))))]] [.keep [19,9,8,6,5,0,1,2,3] [8,6,5]] [yI (high_ret h),yT (badH h),yT (badH h),yT (badH h),yT (badH h)] ?_
  refine zT 19 ?_
  refine zP 1 [{}] [.keep [9,19,8,6,5,0,1,2,3] [8,6,5]] [yL 3 3] ?_
  refine zR ?_
  refine then_r ?_
  refine zV [yR (Value.int .i64 0),yR (wordsA []),yR (wordsA []),yR (Value.int .i64 9)]
 have hb2:0≤h∧h≤4:=by unfold badH at hb;omega
 obtain ⟨k,rfl⟩:=Int.eq_ofNat_of_zero_le hb2.1
 rw [Int.toNat_natCast] at hbad
 have ho:leaf<0∨((2^k:Nat):Int)≤leaf:=hbad.resolve_left hb
 have hk:k≤4:=by omega
 refine zO Tryz.func51 48 ?_
 refine zQ 1 [{}] [] ?_
 refine zS ?_
 refine zP 1 [yH [(1,yV (ao (decide (badH (↑k:Int))))),(3,{g:=false}),(4,{g:=false}),(5,{av:=some (ao (decide (leaf<0∨(↑((2:Nat)^k):Int)≤leaf))),g:=false}),(6,{b:=false})]] [.keep [19,9,8,6,5,0,1,2,3] [8,6,5]] [yI (high_ret ((↑k:Int))),yF (badH (↑k:Int)),yF (badH (↑k:Int)),yF (badH (↑k:Int)),yI (outside_ret leaf k (by assumption)),yF (badH (↑k:Int))] ?_
 refine zTd 19 (leaf<0∨(↑((2:Nat)^k):Int)≤leaf) ?_
 refine zP 1 [{}] [.keep [9,19,8,6,5,0,1,2,3] [8,6,5]] [yL 3 3] ?_
 refine zR ?_
 refine then_r ?_
 refine zV [yR (Value.int .i64 0),yR (wordsA []),yR (wordsA []),yR (Value.int .i64 9)]
def sigI (seed:UInt64) (h leaf:Nat) (x:AV) (i:Nat):List (Nat×Row) :=
 [(1000000000005,⟨1,false,true,[ai (h:Int)]⟩),(1000000000006,⟨1,false,true,[ai (leaf:Int)]⟩),(1000000000008,⟨1,false,true,[ai 0,.nil,.nil]⟩),(1000000000010,⟨1,false,true,[ai (leaf:Int),x,.ref 49]⟩),(49,⟨1,true,false,wordsA (pathW seed leaf (min i h))⟩)]
def sigF (seed:UInt64) (h:Nat) (m:UInt64):List (Nat×AV) :=
 [(29,.clo 142 [.ptr [ai (h:Int)] 0,.ptr [aw seed] 0]),(10,.addr 1000000000010 0),(9,ai 0),(8,.addr 1000000000008 0),(6,.addr 1000000000006 0),(5,.addr 1000000000005 0),(0,aw seed),(3,aw m)]
theorem sig_clos (seed:UInt64) (h leaf:Nat) (m:UInt64) (L:List AV) (i:Nat) (v:Value):Clos [(v,.sl 1 L)] ⟨sigF seed h m,sigI seed h leaf (.val v) i⟩ ⟨sigF seed h m,sigI seed h leaf (.sl 1 L) i⟩:=by
 intro Z w0 n a w φ hs hr
 have h1:=hs.close_ 1000000000010 1 (r:=⟨1,false,true,[ai (leaf:Int),.val v,.ref 49]⟩) (x:=.sl 1 L) (v:=v) rfl rfl rfl (hr (v,.sl 1 L) (by simp))
 refine h1.congr fun i'=>?_
 show look (sigI seed h leaf (.sl 1 L) i) i'=look ((1000000000010,⟨1,false,true,[ai (leaf:Int),.sl 1 L,.ref 49]⟩):: [(1000000000005,⟨1,false,true,[ai (h:Int)]⟩),(1000000000006,⟨1,false,true,[ai (leaf:Int)]⟩),(1000000000008,⟨1,false,true,[ai 0,.nil,.nil]⟩),(49,⟨1,true,false,wordsA (pathW seed leaf (min i h))⟩)]) i'
 unfold sigI
 simp only [look_cons]
 by_cases e:1000000000010=i'
 ·subst e;rfl
 ·simp only [e,if_false]
theorem sig_open (seed:UInt64) (h leaf:Nat) (m:UInt64) (L:List AV) (Z:Zone) (w0:World) (n:Nat) (a:Act) (w:World) (φ:Nat->Option Nat) (hs:SimO Z w0 n [] (AS.mk (sigF seed h m) [(1000000000005,⟨1,false,true,[ai (h:Int)]⟩),(1000000000006,⟨1,false,true,[ai (leaf:Int)]⟩),(1000000000008,⟨1,false,true,[ai 0,.nil,.nil]⟩),(1000000000010,⟨1,false,true,[ai (leaf:Int),.sl 1 L,.nil]⟩)]) a w φ) :
  ∃(φ2:Nat->Option Nat) (vs:List Value),vs.length= [AV.sl 1 L].length∧SimO Z w0 n [] ⟨sigF seed h m,sigI seed h leaf (.val (vs.headD default)) 0⟩ a w φ2∧ ∀p∈vs.zip [AV.sl 1 L],Rep (Free Z w φ2 []) w p.1 p.2:=by
 obtain ⟨φ2,h2⟩:=(Weaks.cnil 1000000000010 2 49 1 (r:=⟨1,false,true,[ai (leaf:Int),.sl 1 L,.nil]⟩) rfl rfl rfl rfl) Z w0 n a w ⟨φ,hs⟩
 obtain ⟨v,h3,hr⟩:=h2.open_ 1000000000010 1 (r:=⟨1,false,true,[ai (leaf:Int),.sl 1 L,.ref 49]⟩) (x:=.sl 1 L) rfl rfl rfl rfl
 refine ⟨φ2,[v],rfl,h3.congr fun i'=>?_,fun p hp=>?_⟩
 ·show look (sigI seed h leaf (.val v) 0) i'=look [(1000000000010,⟨1,false,true,[ai (leaf:Int),.val v,.ref 49]⟩),(49,⟨1,true,false,[]⟩),(1000000000005,⟨1,false,true,[ai (h:Int)]⟩),(1000000000006,⟨1,false,true,[ai (leaf:Int)]⟩),(1000000000008,⟨1,false,true,[ai 0,.nil,.nil]⟩)] i'
  have e0:wordsA (pathW seed leaf (min 0 h))= []:=by simp [pathW,wordsA]
  unfold sigI
  rw [e0]
  simp only [look_cons]
  by_cases e:1000000000010=i'
  ·subst e;rfl
  ·simp only [e,if_false]
   by_cases e:49=i'
   ·subst e;rfl
   ·simp only [e,if_false]
 ·obtain rfl:p=(v,.sl 1 L):=by simpa using hp
  exact hr
theorem shr_leafI (leaf k:Nat) (hk:k≤4):((leaf:Int)).fdiv (2^min ((k:Int)).toNat IntKind.i64.bits)=((leaf/2^k:Nat):Int):=by
 have e:(2:Int)^min ((k:Int)).toNat IntKind.i64.bits=((2^k:Nat):Int):=by
  rcases (show k=0∨k=1∨k=2∨k=3∨k=4 by omega) with rfl|rfl|rfl|rfl|rfl<;>decide +kernel
 rw [e,Int.fdiv_eq_ediv_of_nonneg _ (Int.natCast_nonneg _)];rfl
theorem xor_even (q m:Nat) (hm:m≤8) (hq:q<2*m):q^^^1<2*m:=by
 have key:∀m:Fin 9,∀q:Fin 16,q.val<2*m.val->q.val^^^1<2*m.val:=by decide +kernel
 exact key ⟨m,by omega⟩ ⟨q,by omega⟩ hq
theorem sign_ok (seed:UInt64) (h leaf:Nat) (m:UInt64) (hh:h≤4) (hl:leaf<2^h):Ret Tryz.prog 51 [aw seed,ai h,ai leaf,aw m] (.tup [.agg [ai leaf,.sl 1 (wordsA (signL seed leaf m 18)),.own 1 (wordsA (pathW seed leaf h))],ai 0]):=by
 have hb:¬badH (h:Int):=by unfold badH;omega
 have hp:2^h≤16:=Nat.pow_le_pow_right (by decide) hh
 have ho:¬((leaf:Int)<0∨((2^h:Nat):Int)≤leaf):=by omega
 refine zO Tryz.func51 48 ?_
 refine zQ 1 [{}] [] ?_
 refine zS ?_
 refine zP 1 [yH [(1,yV (ao (decide (badH (↑h:Int))))),(3,{g:=false}),(4,{g:=false}),(5,{av:=some (ao (decide ((↑leaf:Int)<0∨(↑((2:Nat)^h):Int)≤(↑leaf:Int)))),g:=false}),(6,{b:=false})]] [.keep [19,9,8,6,5,0,1,2,3] [8,6,5]] [yI (high_ret ((↑h:Int))),yF (badH (↑h:Int)),yF (badH (↑h:Int)),yF (badH (↑h:Int)),yI (outside_ret ((↑leaf:Int)) h (by assumption)),yF (badH (↑h:Int))] ?_
 refine zFd 19 ((↑leaf:Int)<0∨(↑((2:Nat)^h):Int)≤(↑leaf:Int)) ?_
 refine zK ?_
 refine then_n ?_
 refine zS ?_
 refine AWP.regWX 7 [6] [(4,{av:=some (AV.own 1 (wordsA (signL seed (↑leaf:Int) m (18:Nat))))})] (C:=[Ret Tryz.prog (96:Nat) [aw seed,ai (↑leaf:Int),aw m] (AV.own 1 (wordsA (signL seed (↑leaf:Int) m (18:Nat)))),valR (wordsA (signL seed (↑leaf:Int) m (18:Nat))),ai (↑leaf:Int)=ai (↑leaf:Int),aw seed=aw seed,ai (↑leaf:Int)=ai (↑leaf:Int),aw m=aw m,AV.sl 1 (wordsA (signL seed (↑leaf:Int) m (18:Nat)))=AV.sl 1 (wordsA (signL seed (↑leaf:Int) m (18:Nat))),Ret Tryz.prog (96:Nat) [aw seed,ai (↑leaf:Int),aw m] (AV.own 1 (wordsA (signL seed (↑leaf:Int) m (18:Nat)))),valR (wordsA (signL seed (↑leaf:Int) m (18:Nat))),AV.agg [ai (↑leaf:Int),AV.sl 1 (wordsA (signL seed (↑leaf:Int) m (18:Nat))),AV.nil]=AV.agg [ai (↑leaf:Int),AV.sl 1 (wordsA (signL seed (↑leaf:Int) m (18:Nat))),AV.nil],(3:Nat)≤(3:Nat)]) (by kernel_rfl) ⟨(sign1_ret (seed) ((↑leaf:Int)) (m)),(valR_words _),rfl,rfl,rfl,rfl,rfl,(sign1_ret (seed) ((↑leaf:Int)) (m)),(valR_words _),rfl,(by omega),trivial⟩ ?_
 refine then_n ?_
 refine AWP.wkX [.keep [10,19,9,8,6,5,0,1,2,3] [10,8,6,5]] (by kernel_rfl) ?_
 refine zS ?_
 refine zP 1 [yH [(2,{av:=some (AV.clo (142:Nat) [AV.ptr [ai (↑h:Int)] (0:Nat),AV.ptr [aw seed] (0:Nat)]),b:=false})]] [.keep [29,10,19,9,8,6,5,0,1,2,3] [10,8,6,5]] [yI (levels_ret seed ((↑h:Int)))] ?_
 refine zB 0 ?_
 refine AWP.rangeO (by kernel_rfl) _ _ (levels_iter seed h hh) (by kernel_rfl) (by kernel_rfl) (by kernel_rfl) [(5,1000000000005),(6,1000000000006),(8,1000000000008),(10,1000000000010)] (by kernel_rfl) [.sl 1 (wordsA (signL seed leaf m 18))]
  (sigF seed h m) (fun vs i=>sigI seed h leaf (.val (vs.headD default)) i) ⟨sigF seed h m,sigI seed h leaf (.sl 1 (wordsA (signL seed leaf m 18))) (h+1)⟩
  (fun Z w0 a w φ hs=>?_) (fun vs _=>by kernel_rfl) (fun _=>by kernel_rfl) (by kernel_rfl) (fun vs i _ _=>⟨closed_cons (closed_of rfl) (closed_cons (closed_of rfl) (closed_cons (closed_of rfl) (closed_cons (closed_of rfl) (closed_cons (closed_words _) closed_nil)))),by kernel_rfl⟩) (fun vs i hv hi=>?_) (fun vs hv=>?_) ?_
 ·obtain ⟨φ1,h1⟩:=(zW [.keep [29,10,9,8,6,5,0,3] [1000000000005,1000000000006,1000000000008,1000000000010]]) Z w0 48 a w ⟨φ,hs⟩
  exact sig_open seed h leaf m _ Z w0 48 a w φ1 h1
 ·obtain ⟨v,rfl⟩:=List.length_eq_one_iff.1 hv
  refine AWP.eqS (AS.mk ([(31,.sl 1 (wordsA (levW seed h i))),(30,ai (i:Int))]++sigF seed h m) [(1000000000005,⟨1,false,true,[ai (h:Int)]⟩),(1000000000006,⟨1,false,true,[ai (leaf:Int)]⟩),(1000000000008,⟨1,false,true,[ai 0,.nil,.nil]⟩),(1000000000010,⟨1,false,true,[ai (leaf:Int),.val v,.ref 49]⟩),(49,⟨1,true,false,wordsA (pathW seed leaf (min i h))⟩)]) (by kernel_rfl) ?_
  rw [show min i h=i by omega]
  refine AWP.eqS (AS.mk [(31,.sl 1 (wordsA (levW seed h i))),(30,ai (i:Int)),(29,.clo 142 [.ptr [ai (h:Int)] 0,.ptr [aw seed] 0]),(10,.addr 1000000000010 0),(9,ai 0),(8,.addr 1000000000008 0),(6,.addr 1000000000006 0),(5,.addr 1000000000005 0),(0,aw seed),(3,aw m)] [(1000000000005,⟨1,false,true,[ai (h:Int)]⟩),(1000000000006,⟨1,false,true,[ai (leaf:Int)]⟩),(1000000000008,⟨1,false,true,[ai 0,.nil,.nil]⟩),(1000000000010,⟨1,false,true,[ai (leaf:Int),.val v,.ref 49]⟩),(49,⟨1,true,false,wordsA (pathW seed leaf i)⟩)]) (by kernel_rfl) ?_
  refine zQ 1 [{}] [] ?_
  refine zX {} [] ?_
  refine then_n ?_
  refine zB 1 ?_
  refine zS ?_
  refine zP 1 [{}] [.keep [34,12,11,31,30,29,10,9,8,6,5,0,3] [1000000000005,1000000000006,1000000000008,1000000000010,49]] [] ?_
  refine AWP.condE (x:=.tmp 34) (u:=(↑i:Int)) (v:=(↑h:Int)) (by kernel_rfl) (by kernel_rfl) (fun g=>?_) (fun g=>?_)
  ·have e:i=h:=by omega
   subst e
   refine zE 0 ?_
   refine then_e ?_
   refine inb_o (by kernel_rfl) ?_
   refine ⟨sigI seed i leaf (.val v) (i+1),⟨sigF seed i m,sigI seed i leaf (.sl 1 (wordsA (signL seed leaf m 18))) (i+1)⟩,closed_cons (closed_of rfl) (closed_cons (closed_of rfl) (closed_cons (closed_of rfl) (closed_cons (closed_of rfl) (closed_cons (closed_words _) closed_nil)))),by kernel_rfl,
    Weaks.of [.keep [] [1000000000005,1000000000006,1000000000008,1000000000010,49]] (s1:=AS.mk [] [(1000000000005,⟨1,false,true,[ai (i:Int)]⟩),(1000000000006,⟨1,false,true,[ai (leaf:Int)]⟩),(1000000000008,⟨1,false,true,[ai 0,.nil,.nil]⟩),(1000000000010,⟨1,false,true,[ai (leaf:Int),.val v,.ref 49]⟩),(49,⟨1,true,false,wordsA (pathW seed leaf i)⟩)]) (by kernel_rfl) (by unfold sigI;rw [show min (i+1) i=i by omega]),sig_clos seed i leaf m _ (i+1) v,inb_e (then_n ?_)⟩
   refine AWP.eqS (AS.mk [(29,.clo 142 [.ptr [ai (i:Int)] 0,.ptr [aw seed] 0]),(10,.addr 10 0),(9,ai 0),(8,.addr 8 0),(6,.addr 6 0),(5,.addr 5 0),(0,aw seed),(3,aw m)] [(5,⟨1,false,true,[ai (i:Int)]⟩),(6,⟨1,false,true,[ai (leaf:Int)]⟩),(8,⟨1,false,true,[ai 0,.nil,.nil]⟩),(10,⟨1,false,true,[ai (leaf:Int),.sl 1 (wordsA (signL seed leaf m 18)),.ref 49]⟩),(49,⟨1,true,false,wordsA (pathW seed leaf (min (i+1) i))⟩)]) (by kernel_rfl) ?_
   rw [show min (i+1) i=i by omega]
   refine AWP.regsP 1 [{}] [.keep [9,29,10,8,6,5,0,3] [8,5,6,10,49]] (by kernel_rfl) (s':=AS.mk [(9,ai 0),(29,AV.clo (142:Nat) [AV.ptr [ai (↑i:Int)] (0:Nat),AV.ptr [aw seed] (0:Nat)]),(10,AV.addr 10 0),(8,AV.addr 8 0),(6,AV.addr 6 0),(5,AV.addr 5 0),(0,aw seed),(3,aw m)] [(8,Row.mk 1 false true [ai (↑leaf:Int),AV.sl 1 (wordsA (signL seed (↑leaf:Int) m (18:Nat))),AV.ref 49]),(5,Row.mk 1 false true [ai (↑i:Int)]),(6,Row.mk 1 false true [ai (↑leaf:Int)]),(10,Row.mk 1 false true [ai (↑leaf:Int),AV.sl 1 (wordsA (signL seed (↑leaf:Int) m (18:Nat))),AV.ref 49]),(49,Row.mk 1 true false (wordsA (pathW seed leaf i)))]) (C:=[(3:Nat)≤(3:Nat)]) (by kernel_rfl) ⟨(by omega),trivial⟩ ?_
   refine zR ?_
   refine zV [yR (Value.int .i64 (↑leaf:Int)),yR (wordsA (signL seed (↑leaf:Int) m (18:Nat))),yR (wordsA (pathW seed leaf i)),yR (Value.int .i64 0)]
  ·have hk4:i≤4:=by omega
   have hs:=shr_leafI leaf i hk4
   have hle:leaf/2^i≤leaf:=Nat.div_le_self ..
   have hq:leaf/2^i<16:=by omega
   have hx:=xor_one _ hq
   have em:2^(h-i)=2*2^(h-(i+1)):=by rw [show h-i=h-(i+1)+1 by omega,Nat.pow_succ,Nat.mul_comm]
   have hm8:2^(h-(i+1))≤8:=Nat.le_trans (Nat.pow_le_pow_right (by decide) (by omega:h-(i+1)≤3)) (by decide)
   have hdiv:leaf/2^i<2^(h-i):=by
    rw [Nat.div_lt_iff_lt_mul (Nat.two_pow_pos _),←Nat.pow_add,show h-i+i=h by omega];exact hl
   have hxl:leaf/2^i^^^1<2^(h-i):=by rw [em];exact xor_even _ _ hm8 (by omega)
   have hat:=levW_at seed h i _ hxl
   have hll:=levW_len seed h i
   have ep:=pathW_succ seed leaf i
   have hpl:=pathW_len seed leaf i
   have hmin:min (i+1) h=i+1:=by omega
   generalize leaf/2^i^^^1=x at *
   generalize leaf/2^i=q at *
   generalize levW seed h i=L at *
   generalize 2^(h-i)=c at *
   refine zK ?_
   refine then_n ?_
   refine zX ({hs:=[(5,yV (ai (↑q:Int))),(6,yV (ai (↑x:Int))),(7,{k:=x}),(8,yV (aw (L.getD x 0))),(9,yV (AV.arr (wordsA [L.getD x 0]))),(10,yV (AV.arr (wordsA (pathW seed leaf i++ [L.getD x 0]))))],T:=10}) [yB (ai ((↑leaf:Int).fdiv ((2:Int)^min (↑i:Int).toNat IntKind.i64.bits))=ai (↑q:Int)) (congrArg (fun n=>AV.val (.int .i64 n)) hs),yO ((0:Int)≤(↑i:Int)),yB (ai (IntKind.i64.wrap (↑(BitVec.ofInt IntKind.i64.bits (↑q:Int)^^^BitVec.ofInt IntKind.i64.bits (1:Int)).toNat:Int))=ai (↑x:Int)) (congrArg (fun n=>AV.val (.int .i64 n)) hx),yR (↑x:Int),yB (x<(wordsA L).length) (by simp only [wordsA_len];omega),yB ((wordsA L)[x]?=some (aw (L.getD x 0))) (wordsA_at (by omega)),yR [aw (L.getD x 0)],yB (wordsA (pathW seed leaf i)++wordsA [L.getD x 0]=wordsA (pathW seed leaf i++ [L.getD x 0])) (wordsA_app _ _),yB (((wordsA (pathW seed leaf i)).length+(wordsA [L.getD x 0]).length)*(8:Nat)≤(140737488355328:Nat)) (by simp only [wordsA_len,List.length_cons,List.length_nil];omega),yL 3 3] ?_
   refine inb_n ?_
   exact Weaks.of [.ren 45 49,.keep [] [1000000000005,1000000000006,1000000000008,1000000000010,49]] (s1:=AS.mk [] [(1000000000005,⟨1,false,true,[ai (h:Int)]⟩),(1000000000006,⟨1,false,true,[ai (leaf:Int)]⟩),(1000000000008,⟨1,false,true,[ai 0,.nil,.nil]⟩),(1000000000010,⟨1,false,true,[ai (leaf:Int),.val v,.ref 49]⟩),(49,⟨1,true,false,wordsA (pathW seed leaf i++ [L.getD x 0])⟩)]) (by kernel_rfl) (by unfold sigI;rw [hmin,ep,hat];rfl)
 ·obtain ⟨v,rfl⟩:=List.length_eq_one_iff.1 hv
  exact sig_clos seed h leaf m _ (h+1) v
 ·refine inb_n (then_n ?_)
  refine AWP.eqS (AS.mk [(29,.clo 142 [.ptr [ai (h:Int)] 0,.ptr [aw seed] 0]),(10,.addr 10 0),(9,ai 0),(8,.addr 8 0),(6,.addr 6 0),(5,.addr 5 0),(0,aw seed),(3,aw m)] [(5,⟨1,false,true,[ai (h:Int)]⟩),(6,⟨1,false,true,[ai (leaf:Int)]⟩),(8,⟨1,false,true,[ai 0,.nil,.nil]⟩),(10,⟨1,false,true,[ai (leaf:Int),.sl 1 (wordsA (signL seed leaf m 18)),.ref 49]⟩),(49,⟨1,true,false,wordsA (pathW seed leaf (min (h+1) h))⟩)]) (by kernel_rfl) ?_
  rw [show min (h+1) h=h by omega]
  refine zP 1 [{}] [.keep [9,29,10,8,6,5,0,3] [8,5,6,10,49]] [yL 3 3] ?_
  refine zR ?_
  refine zV [yR (Value.int .i64 (↑leaf:Int)),yR (wordsA (signL seed (↑leaf:Int) m (18:Nat))),yR (wordsA (pathW seed leaf h)),yR (Value.int .i64 0)]
theorem sign_ret (seed:UInt64) (h leaf:Int) (m:UInt64):Ret Tryz.prog 51 [aw seed,ai h,ai leaf,aw m] (.tup [.agg [ai (sgL h leaf),.sl 1 (wordsA (sgC seed h leaf m)),.own 1 (wordsA (sgP seed h leaf))],ai (sgE h leaf)]):=by
 by_cases hbad:badL h leaf
 ·have e1:sgE h leaf=9:=if_pos hbad
  have e2:sgL h leaf=0:=if_pos hbad
  have e3:sgC seed h leaf m= []:=if_pos hbad
  have e4:sgP seed h leaf= []:=if_pos hbad
  rw [e1,e2,e3,e4]
  exact sign_bad seed h leaf m hbad
 ·have e1:sgE h leaf=0:=if_neg hbad
  have e2:sgL h leaf=leaf:=if_neg hbad
  have e3:sgC seed h leaf m=signL seed leaf m 18:=if_neg hbad
  have e4:sgP seed h leaf=pathW seed leaf.toNat h.toNat:=if_neg hbad
  rw [e1,e2,e3,e4]
  unfold badL badH at hbad
  have hb2:0≤h∧h≤4∧0≤leaf:=by omega
  obtain ⟨k,rfl⟩:=Int.eq_ofNat_of_zero_le hb2.1
  obtain ⟨i,rfl⟩:=Int.eq_ofNat_of_zero_le hb2.2.2
  rw [Int.toNat_natCast,Int.toNat_natCast]
  rw [Int.toNat_natCast] at hbad
  exact sign_ok seed k i m (by omega) (by omega)
end Go.Proofs.YtjgbhhnghedgdaaGreatDoor
