import Derived.Test.YtjgbhhnghedgdaaGreatDoorZsV8
import Derived.Test.YtjgbhhnghedgdaaGreatDoorZsCb6
import Derived.Test.YtjgbhhnghedgdaaGreatDoorZsRF
set_option linter.all false
namespace Go.Proofs.YtjgbhhnghedgdaaGreatDoor
open Go.RowKit
set_option maxRecDepth 100000
set_option maxHeartbeats 4000000
set_option linter.unusedVariables false
theorem levels_ret (seed:UInt64) (h:Int):Ret Tryz.prog 97 [aw seed,ai h] (.clo 142 [.ptr [ai h] 0,.ptr [aw seed] 0]):=by
 refine zO Tryz.func97 6 ?_
 refine zP 2 [{},{}] [.keep [4,3,2,0,1] []] [] ?_
 refine zR ?_
 refine zV [yR [AV.ptr [ai h] (0:Nat),AV.ptr [aw seed] (0:Nat)]]
def levW (seed:UInt64) (h i:Nat):List UInt64:=(List.range (2^(h-i))).map (nodeW seed i)
theorem levW_len (seed:UInt64) (h i:Nat):(levW seed h i).length=2^(h-i):=by simp [levW]
theorem levW_at (seed:UInt64) (h i k:Nat) (hk:k<2^(h-i)):(levW seed h i).getD k 0=nodeW seed i k:=by simp [levW,hk]
def levS (yv:Value) (seed:UInt64) (h:Nat) (lev:Nat) (l:List UInt64):AS :=
 ⟨[(0,.val yv),(1,.ptr [ai (h:Int)] 0),(2,.ptr [aw seed] 0),(4,.ref 11),(6,ai (lev:Int))],[(11,⟨1,true,false,wordsA l⟩)]⟩
theorem lev_pre (yv:Value) (seed:UInt64) (h:Nat) (hh:h≤4):AWP Tryz.prog 63 (Code.seq (fstC (bodyOf Tryz.f142)) (Code.seq (fstC (sndC (bodyOf Tryz.f142))) (Code.seq (fstC (sndC (sndC (bodyOf Tryz.f142)))) .skip))) (fun e s'=>e= .normal∧Weaks s' (levS yv seed h 0 (levW seed h 0))) ⟨argsF 0 [.val yv,.ptr [ai (h:Int)] 0,.ptr [aw seed] 0],[]⟩:=by
 have hl:=levW_len seed h 0
 have hat:∀k:Nat,k<2^h->(levW seed h 0).getD k 0=combine k (pubEnds seed k 18):=fun k hk=>levW_at seed h 0 k hk
 rw [Nat.sub_zero] at hl
 have hp:2^h≤16:=Nat.pow_le_pow_right (by decide) hh
 have hsh:IntKind.i64.wrap (1*2^min ((h:Nat):Int).toNat IntKind.i64.bits)=((2^h:Nat):Int):=by
  rcases (show h=0∨h=1∨h=2∨h=3∨h=4 by omega) with rfl|rfl|rfl|rfl|rfl<;>decide +kernel
 generalize levW seed h 0=L at *
 generalize 2^h=m at *
 refine zP 1 [yH [(1,yV (ai (↑m:Int))),(2,{av:=some (AV.arr (wordsA (List.replicate m 0))),k:=m,m:=m})]] [.keep [4,0,1,2] [11]] [yB (ai (IntKind.i64.wrap ((1:Int)*(2:Int)^min (↑h:Int).toNat IntKind.i64.bits))=ai (↑m:Int)) (congrArg (fun n=>AV.val (.int .i64 n)) hsh),yO ((0:Int)≤(↑h:Int)),yB (List.replicate m (au0)=wordsA (List.replicate m 0)) (wordsA_rep _),yR (↑m:Int),yR (↑m:Int),yO (m≤m),yO ((8:Nat)*m≤(281474976710656:Nat)),yB (m≤maxLen) (by unfold maxLen;omega)] ?_
 refine zS ?_
 refine zQ 1 [yH [(1,{k:=m})]] [yB ((wordsA (List.replicate m 0)).length=m) (by simp only [wordsA_len,List.length_replicate])] ?_
 refine zB 0 ?_
 refine zL (fun (k:Nat)=>(⟨[(13,ai (↑m:Int)),(4,AV.ref 11),(0,AV.val yv),(1,AV.ptr [ai (↑h:Int)] (0:Nat)),(2,AV.ptr [aw seed] (0:Nat)),(14,ai k)],[(11,⟨1,true,false,wordsA (fillZ m L k)⟩)]⟩:AS)) (fun k=>(k≤m)) (fun k=>(m-k)) (0) ?_ (zW [.keep [13,4,0,1,2,14] [11]]) ?_
 ·omega
 intro k hk
 have hf:=fillZ_len hl hk
 refine zQ 1 [{}] [] ?_
 refine zS ?_
 refine zD 15 ((↑k:Int)<(↑m:Int)) (fun g=>?_) (fun g=>?_)
 ·have e1:=fillZ_set hl (show k<m by omega)
  have e2:=hat k (by omega)
  refine zK ?_
  refine then_n ?_
  refine zS ?_
  refine zB 1 ?_
  refine zQ 1 [{}] [] ?_
  refine zX (yH [(4,yV (aw (combine (↑k:Int) (pubEnds seed (↑k:Int) (18:Nat))))),(5,{k:=k}),(6,yV (AV.arr (wordsA ((fillZ m L k).set k (combine (↑k:Int) (pubEnds seed (↑k:Int) (18:Nat)))))))]) [yI (public1_ret seed ((↑k:Int))),yR (↑k:Int),yB (k<(wordsA (fillZ m L k)).length) (by simp only [wordsA_len];omega),yB ((wordsA (fillZ m L k)).set k (aw (combine (↑k:Int) (pubEnds seed (↑k:Int) (18:Nat))))=wordsA ((fillZ m L k).set k (combine (↑k:Int) (pubEnds seed (↑k:Int) (18:Nat))))) (wordsA_set _ _ _),yB (k+(1:Nat)≤(wordsA (fillZ m L k)).length) (by simp only [wordsA_len];omega)] ?_
  refine inb_n ?_
  refine then_n ?_
  refine zX (yH [(0,yV (ai ((↑k:Int)+1)))]) [yN ((↑k:Int)+1)] ?_
  refine round_n (k+1) (by omega) (by omega) (Weaks.of [.keep [13,4,0,1,2,14] [11]] (s1:=AS.mk [(13,ai (↑m:Int)),(4,AV.ref 11),(0,AV.val yv),(1,AV.ptr [ai (↑h:Int)] (0:Nat)),(2,AV.ptr [aw seed] (0:Nat)),(14,ai ((↑k:Int)+1))] [(11,Row.mk 1 true false (wordsA ((fillZ m L k).set k (combine (↑k:Int) (pubEnds seed (↑k:Int) (18:Nat))))))]) (by kernel_rfl) (as_eq (f_cons rfl (f_cons rfl (f_cons rfl (f_cons rfl (f_cons rfl (f_cons (congrArg (fun n=>AV.val (.int .i64 n)) (by omega)) rfl)))))) (h_cons (congrArg wordsA (by rw [←e2];exact e1)) rfl)))
 ·have e:k=m:=by omega
  subst e
  have e1:=fillZ_full hl
  rw [e1]
  refine zE 0 ?_
  refine then_e ?_
  refine round_e ?_
  refine inb_e ?_
  refine then_n ?_
  refine zQ 1 [{}] [] ?_
  refine zK ?_
  exact ⟨rfl,Weaks.of [.keep [0,1,2,4,6] [11]] (s1:=levS yv seed h 0 L) (by kernel_rfl) rfl⟩
theorem lev_next (yv:Value) (seed:UInt64) (h lev:Nat) (hh:h≤4) (hlev:lev<h):AWP Tryz.prog 63 (sndC (bodyC (bodyC (sndC (sndC (sndC (bodyOf Tryz.f142))))))) (fun e s'=>e= .normal∧Weaks s' (levS yv seed h (lev+1) (levW seed h (lev+1)))) (levS yv seed h lev (levW seed h lev)):=by
 have hl:=levW_len seed h lev
 have hl2:=levW_len seed h (lev+1)
 have em:2^(h-lev)=2*2^(h-(lev+1)):=by rw [show h-lev=h-(lev+1)+1 by omega,Nat.pow_succ,Nat.mul_comm]
 have hp:2^(h-(lev+1))≤16:=Nat.le_trans (Nat.pow_le_pow_right (by decide) (by omega:h-(lev+1)≤4)) (by decide)
 have hat:∀k:Nat,k<2^(h-(lev+1))->(levW seed h (lev+1)).getD k 0=parW ((lev+1:Nat):Int) ((levW seed h lev).getD (2*k) 0) ((levW seed h lev).getD (2*k+1) 0):=fun k hk=>by
  rw [levW_at seed h (lev+1) k hk,levW_at seed h lev (2*k) (by omega),levW_at seed h lev (2*k+1) (by omega)];rfl
 generalize levW seed h lev=L at *
 generalize levW seed h (lev+1)=L2 at *
 rw [em] at hl
 clear em
 generalize 2^(h-(lev+1))=m at *
 have hq:IntKind.i64.wrap ((L.length:Int).tdiv 2)=(m:Int):=by
  rw [hl,Int.tdiv_eq_ediv_of_nonneg (by omega),i64_small (by omega) (by omega)];omega
 show AWP _ _ _ _ (AS.mk [(0,.val yv),(1,.ptr [ai (h:Int)] 0),(2,.ptr [aw seed] 0),(4,.ref 11),(6,ai (lev:Int))] [(11,Row.mk 1 true false (wordsA L))])
 refine zS ?_
 refine zB 3 ?_
 refine zP 1 [yH [(1,{k:=L.length}),(2,yV (ai (↑m:Int))),(3,{av:=some (AV.arr (wordsA (List.replicate m 0))),k:=m,m:=m})]] [.keep [7,0,1,2,4,6] [38,11]] [yB ((wordsA L).length=L.length) (wordsA_len _),yB (ai (IntKind.i64.wrap ((↑L.length:Int).tdiv (2:Int)))=ai (↑m:Int)) (congrArg (fun n=>AV.val (.int .i64 n)) hq),yO ((2:Int)≠(0:Int)),yB (List.replicate m (au0)=wordsA (List.replicate m 0)) (wordsA_rep _),yR (↑m:Int),yR (↑m:Int),yO (m≤m),yO ((8:Nat)*m≤(281474976710656:Nat)),yB (m≤maxLen) (by unfold maxLen;omega)] ?_
 refine zS ?_
 refine zQ 1 [yH [(1,{k:=m})]] [yB ((wordsA (List.replicate m 0)).length=m) (by simp only [wordsA_len,List.length_replicate])] ?_
 refine zB 4 ?_
 refine zL (fun (k:Nat)=>(⟨[(40,ai (↑m:Int)),(7,AV.ref 38),(0,AV.val yv),(1,AV.ptr [ai (↑h:Int)] (0:Nat)),(2,AV.ptr [aw seed] (0:Nat)),(4,AV.ref 11),(6,ai (↑lev:Int)),(41,ai k)],[(11,⟨1,true,false,wordsA L⟩),(38,⟨1,true,false,wordsA (fillZ m L2 k)⟩)]⟩:AS)) (fun k=>(k≤m)) (fun k=>(m-k)) (0) ?_ (zW [.keep [40,7,0,1,2,4,6,41] [11,38]]) ?_
 ·omega
 intro k hk
 have hf:=fillZ_len hl2 hk
 refine zQ 1 [{}] [] ?_
 refine zS ?_
 refine zD 42 ((↑k:Int)<(↑m:Int)) (fun g=>?_) (fun g=>?_)
 ·have e1:=fillZ_set hl2 (show k<m by omega)
  have e2:=hat k (by omega)
  have w1:IntKind.i64.wrap ((lev:Int)+1)=((lev+1:Nat):Int):=by rw [i64_small (by omega) (by omega)];omega
  have w2:IntKind.i64.wrap (2*(k:Int))=((2*k:Nat):Int):=by rw [i64_small (by omega) (by omega)];omega
  have w3:IntKind.i64.wrap (((2*k:Nat):Int)+1)=((2*k+1:Nat):Int):=by rw [i64_small (by omega) (by omega)];omega
  refine zK ?_
  refine then_n ?_
  refine zS ?_
  refine zB 5 ?_
  refine zQ 1 [{}] [] ?_
  refine zX ({hs:=[(3,yV (ai (↑(lev+(1:Nat)):Int))),(6,yV (ai (↑((2:Nat)*k):Int))),(7,{k:=2*k}),(8,yV (aw (L.getD ((2:Nat)*k) 0))),(11,yV (ai (↑((2:Nat)*k):Int))),(12,yV (ai (↑((2:Nat)*k+(1:Nat)):Int))),(13,{k:=2*k+(1:Nat)}),(14,yV (aw (L.getD ((2:Nat)*k+(1:Nat)) 0))),(15,yV (aw (parW (↑(lev+(1:Nat)):Int) (L.getD ((2:Nat)*k) 0) (L.getD ((2:Nat)*k+(1:Nat)) 0)))),(16,{k:=k}),(17,yV (AV.arr (wordsA ((fillZ m L2 k).set k (parW (↑(lev+(1:Nat)):Int) (L.getD ((2:Nat)*k) 0) (L.getD ((2:Nat)*k+(1:Nat)) 0))))))],T:=16}) [yB (ai (IntKind.i64.wrap ((↑lev:Int)+1))=ai (↑(lev+(1:Nat)):Int)) (av_i64 (by omega) (by omega)),yB (ai (IntKind.i64.wrap ((2:Int)*(↑k:Int)))=ai (↑((2:Nat)*k):Int)) (av_i64 (by omega) (by omega)),yR (↑((2:Nat)*k):Int),yB ((2:Nat)*k<(wordsA L).length) (by simp only [wordsA_len];omega),yB ((wordsA L)[(2:Nat)*k]?=some (aw (L.getD ((2:Nat)*k) 0))) (wordsA_at (by omega)),yB (ai (IntKind.i64.wrap ((2:Int)*(↑k:Int)))=ai (↑((2:Nat)*k):Int)) (av_i64 (by omega) (by omega)),yB (ai (IntKind.i64.wrap ((↑((2:Nat)*k):Int)+1))=ai (↑((2:Nat)*k+(1:Nat)):Int)) (av_i64 (by omega) (by omega)),yR (↑((2:Nat)*k+(1:Nat)):Int),yB ((2:Nat)*k+(1:Nat)<(wordsA L).length) (by simp only [wordsA_len];omega),yB ((wordsA L)[(2:Nat)*k+(1:Nat)]?=some (aw (L.getD ((2:Nat)*k+(1:Nat)) 0))) (wordsA_at (by omega)),yI (parent_ret (↑(lev+(1:Nat)):Int) (L.getD ((2:Nat)*k) 0) (L.getD ((2:Nat)*k+(1:Nat)) 0)),yR (↑k:Int),yB (k<(wordsA (fillZ m L2 k)).length) (by simp only [wordsA_len];omega),yB ((wordsA (fillZ m L2 k)).set k (aw (parW (↑(lev+(1:Nat)):Int) (L.getD ((2:Nat)*k) 0) (L.getD ((2:Nat)*k+(1:Nat)) 0)))=wordsA ((fillZ m L2 k).set k (parW (↑(lev+(1:Nat)):Int) (L.getD ((2:Nat)*k) 0) (L.getD ((2:Nat)*k+(1:Nat)) 0)))) (wordsA_set _ _ _),yB (k+(1:Nat)≤(wordsA (fillZ m L2 k)).length) (by simp only [wordsA_len];omega)] ?_
  refine inb_n ?_
  refine then_n ?_
  refine zX (yH [(0,yV (ai ((↑k:Int)+1)))]) [yN ((↑k:Int)+1)] ?_
  refine round_n (k+1) (by omega) (by omega) (Weaks.of [.keep [40,7,0,1,2,4,6,41] [11,38]] (s1:=AS.mk [(40,ai (↑m:Int)),(7,AV.ref 38),(0,AV.val yv),(1,AV.ptr [ai (↑h:Int)] (0:Nat)),(2,AV.ptr [aw seed] (0:Nat)),(4,AV.ref 11),(6,ai (↑lev:Int)),(41,ai ((↑k:Int)+1))] [(11,Row.mk 1 true false (wordsA L)),(38,Row.mk 1 true false (wordsA ((fillZ m L2 k).set k (parW (↑(lev+(1:Nat)):Int) (L.getD ((2:Nat)*k) 0) (L.getD ((2:Nat)*k+(1:Nat)) 0)))))]) (by kernel_rfl) (as_eq (f_cons rfl (f_cons rfl (f_cons rfl (f_cons rfl (f_cons rfl (f_cons rfl (f_cons rfl (f_cons (congrArg (fun n=>AV.val (.int .i64 n)) (by omega)) rfl)))))))) (h_cons rfl (h_cons (congrArg wordsA (by rw [←e2];exact e1)) rfl))))
 ·have e:k=m:=by omega
  subst e
  have e1:=fillZ_full hl2
  rw [e1]
  refine zE 4 ?_
  refine then_e ?_
  refine round_e ?_
  refine inb_e ?_
  refine then_n ?_
  refine zX {} [] ?_
  refine inb_n ?_
  refine then_n ?_
  refine zX (yH [(1,yV (ai ((↑lev:Int)+1)))]) [yN ((↑lev:Int)+1)] ?_
  exact ⟨rfl,Weaks.of [.ren 38 11,.keep [0,1,2,4,6] [11]] (s1:=AS.mk [(0,.val yv),(1,.ptr [ai (h:Int)] 0),(2,.ptr [aw seed] 0),(4,.ref 11),(6,ai ((lev:Int)+1))] [(11,Row.mk 1 true false (wordsA L2))]) (by kernel_rfl) (by unfold levS;rw [show ((lev+1:Nat):Int)=(lev:Int)+1 by omega])⟩
theorem swp_graft {P:Program} {x y z B:Code} {Q Q':Exit->Act->World->Prop} {K:Act->World->Prop} {a:Act} {w:World} (h:swp P (.seq x (.seq y (.seq z .skip))) Q a w) (hQ:∀e a w,Q e a w->e= .normal∧K a w) (hB:∀a w,K a w->B.wp P Q' a w):(Code.seq x (.seq y (.seq z B))).wp P Q' a w:=by
 refine wp_seq (wp_mono (swp_wp x _ _ _ h) fun e a w he=>?_)
 cases e with
 | normal =>
  refine wp_seq (wp_mono (swp_wp y _ _ _ he) fun e a w he=>?_)
  cases e with
  | normal =>
   refine wp_seq (wp_mono (swp_wp z _ _ _ he) fun e a w he=>?_)
   cases e with
   | normal=>exact hB _ _ (hQ _ _ _ he).2
   | _=>cases (hQ _ _ _ he).1
  | _=>cases (hQ _ _ _ he).1
 | _=>cases (hQ _ _ _ he).1
def regOps:Code->List Oper
 | .region _ ops _=>ops.toList
 | _=>[]
theorem lev_ops (yv:Value) (seed:UInt64) (h lev:Nat) (l:List UInt64):evOps Tryz.prog 63 (regOps (fstC (fstC (bodyC (bodyC (sndC (sndC (sndC (bodyOf Tryz.f142))))))))) [] ((regOps (fstC (fstC (bodyC (bodyC (sndC (sndC (sndC (bodyOf Tryz.f142))))))))).take 3) 0 (levS yv seed h lev l) =
  some (AS.mk [(26,.ref 11),(25,ai (lev:Int)),(24,.val yv),(0,.val yv),(1,.ptr [ai (h:Int)] 0),(2,.ptr [aw seed] 0),(4,.ref 11),(6,ai (lev:Int))] [(11,Row.mk 1 true false (wordsA l))],[]):=by kernel_rfl
theorem lev_opsT (yv:Value) (seed:UInt64) (h lev:Nat) (l:List UInt64):evOps Tryz.prog 63 (regOps (fstC (fstC (bodyC (bodyC (sndC (sndC (sndC (bodyOf Tryz.f142))))))))) [] ((regOps (fstC (fstC (bodyC (bodyC (sndC (sndC (sndC (bodyOf Tryz.f142))))))))).drop 4) 4 (setF (AS.mk [(26,.ref 11),(25,ai (lev:Int)),(24,.val yv),(0,.val yv),(1,.ptr [ai (h:Int)] 0),(2,.ptr [aw seed] 0),(4,.ref 11),(6,ai (lev:Int))] [(11,Row.mk 1 true false (wordsA l))]) 27 (ao true)) =
  some (AS.mk [(32,ao (decide ((lev:Int)<(h:Int)))),(31,ao (decide ((lev:Int)<(h:Int)))),(30,ai (h:Int)),(29,ai (lev:Int)),(28,ao true),(27,ao true),(26,.ref 11),(25,ai (lev:Int)),(24,.val yv),(0,.val yv),(1,.ptr [ai (h:Int)] 0),(2,.ptr [aw seed] 0),(4,.ref 11),(6,ai (lev:Int))] [(11,Row.mk 1 true false (wordsA l))],[true=true,true=true,true=true,true=true]):=by kernel_rfl
theorem lev_opsF (yv:Value) (seed:UInt64) (h lev:Nat) (l:List UInt64):evOps Tryz.prog 63 (regOps (fstC (fstC (bodyC (bodyC (sndC (sndC (sndC (bodyOf Tryz.f142))))))))) [(5,{g:=false}),(6,{g:=false}),(7,{g:=false}),(8,{b:=false})] ((regOps (fstC (fstC (bodyC (bodyC (sndC (sndC (sndC (bodyOf Tryz.f142))))))))).drop 4) 4 (setF (AS.mk [(26,.ref 11),(25,ai (lev:Int)),(24,.val yv),(0,.val yv),(1,.ptr [ai (h:Int)] 0),(2,.ptr [aw seed] 0),(4,.ref 11),(6,ai (lev:Int))] [(11,Row.mk 1 true false (wordsA l))]) 27 (ao false)) =
  some (AS.mk [(32,ao false),(31,.val (.tuple #[])),(30,.val (.tuple #[])),(29,.val (.tuple #[])),(28,ao false),(27,ao false),(26,.ref 11),(25,ai (lev:Int)),(24,.val yv),(0,.val yv),(1,.ptr [ai (h:Int)] 0),(2,.ptr [aw seed] 0),(4,.ref 11),(6,ai (lev:Int))] [(11,Row.mk 1 true false (wordsA l))],[false=false,false=false,false=false,false=false]):=by kernel_rfl
theorem It.val {n:Nat} {J:(Nat->Prop)->(Nat->Prop)->World->Prop} {s:AS} {a:Act} {w:World} {x:Operand} {v:Value} (h:It n J s a w) (hx:opd s x= .val v):a.eval x=v:=by
 obtain ⟨wb,Z,φ,ms,h1,-⟩:=h
 exact den_val (hx ▸ h1.opd x)
theorem levels_iter (seed:UInt64) (h:Nat) (hh:h≤4):IterP Tryz.prog 142 [.ptr [ai (h:Int)] 0,.ptr [aw seed] 0] (fun i=>[ai (i:Int),.sl 1 (wordsA (levW seed h i))]) (h+1):=by
 refine IterP.of_body (n:=63) Tryz.func142 (c:=(bodyOf Tryz.f142)) (by kernel_rfl) (by kernel_rfl) (by kernel_rfl) (by simp) ?_
 intro l J X hJ hX hy a w hit
 have eb:(bodyOf Tryz.f142)= .seq (fstC (bodyOf Tryz.f142)) (.seq (fstC (sndC (bodyOf Tryz.f142))) (.seq (fstC (sndC (sndC (bodyOf Tryz.f142)))) (sndC (sndC (sndC (bodyOf Tryz.f142)))))):=by kernel_rfl
 have eB:sndC (sndC (sndC (bodyOf Tryz.f142)))= .block 2 (.loop (.seq (.seq (.region 7 (regOps (fstC (fstC (bodyC (bodyC (sndC (sndC (sndC (bodyOf Tryz.f142))))))))).toArray false) (.cond (.tmp 32) .skip (.exit 2))) (sndC (bodyC (bodyC (sndC (sndC (sndC (bodyOf Tryz.f142))))))))):=by kernel_rfl
 have hpre:=It.seg hit (hJ 0) (lev_pre (.func (.yield l) #[] #[]) seed h hh)
 rw [eb]
 refine swp_graft (K:=It 63 (J 0) (levS (.func (.yield l) #[] #[]) seed h 0 (levW seed h 0))) hpre (fun e a w ⟨s',⟨he,hw⟩,hi⟩=>⟨he,hi.weak (hJ 0) hw⟩) fun a w hi0=>?_
 rw [eB]
 refine wp_block (loop_by (fun k a w=>∃lev,lev≤h∧k=h-lev∧It 63 (J lev) (levS (.func (.yield l) #[] #[]) seed h lev (levW seed h lev)) a w) h ⟨0,by omega,by omega,hi0⟩ ?_)
 rintro k a w ⟨lev,hlev,rfl,hit⟩
 refine wp_seq (wp_seq ?_)
 refine wp_yield (d:=27) (l1:=(regOps (fstC (fstC (bodyC (bodyC (sndC (sndC (sndC (bodyOf Tryz.f142))))))))).take 3) (o:=((regOps (fstC (fstC (bodyC (bodyC (sndC (sndC (sndC (bodyOf Tryz.f142))))))))).drop 3).headD default) (l2:=(regOps (fstC (fstC (bodyC (bodyC (sndC (sndC (sndC (bodyOf Tryz.f142))))))))).drop 4) (y:=.tmp 24) (xs:= #[.tmp 25,.tmp 26]) (ts:= #[3,27]) (by kernel_rfl) (by kernel_rfl) (by kernel_rfl) (by kernel_rfl) (by rintro ⟨_,_,he,_⟩;rcases he with he|he<;>cases he) (by kernel_rfl) (by kernel_rfl) ?_
 refine hit.ops (hJ lev) (lev_ops _ seed h lev _) trivial fun a1 w1 hi1=>?_
 refine ⟨l,hi1.val (x:=.tmp 24) (by kernel_rfl),?_⟩
 refine It.yield (d:=27) (xs:=[.tmp 25,.tmp 26]) hJ hX (by decide) hy hi1 (by omega) (s1:=AS.mk [(26,.sl 1 (wordsA (levW seed h lev))),(25,ai (lev:Int)),(24,.val (.func (.yield l) #[] #[])),(0,.val (.func (.yield l) #[] #[])),(1,.ptr [ai (h:Int)] 0),(2,.ptr [aw seed] 0),(4,.sl 1 (wordsA (levW seed h lev))),(6,ai (lev:Int))] []) (by kernel_rfl) (by kernel_rfl) (by kernel_rfl) _ (fun w2 hi2=>?_) (fun w2 hi2=>?_)
 ·refine hi2.ops (hJ (lev+1)) (lev_opsT _ seed h lev _) ⟨rfl,rfl,rfl,rfl,trivial⟩ fun a3 w3 hi3=>?_
  have hv:=hi3.val (x:=.tmp 32) (v:=.bool (decide ((lev:Int)<(h:Int)))) (by kernel_rfl)
  refine wp_cond_split hv (fun ht=>?_) (fun hf=>?_)
  ·have hlt:lev<h:=by have:=of_decide_eq_true ht;omega
   refine wp_skip ?_
   have hi4:=hi3.weak (hJ (lev+1)) (s':=levS (.func (.yield l) #[] #[]) seed h lev (levW seed h lev)) (Weaks.of [.keep [0,1,2,4,6] [11]] (by kernel_rfl) rfl)
   refine wp_mono (swp_wp _ _ _ _ (It.seg hi4 (hJ (lev+1)) (lev_next _ seed h lev hh hlt))) fun e a5 w5 ⟨s',⟨he,hw⟩,hi5⟩=>?_
   subst he
   exact ⟨h-(lev+1),by omega,lev+1,by omega,rfl,hi5.weak (hJ (lev+1)) hw⟩
  ·have hge:lev=h:=by have:=of_decide_eq_false hf;omega
   subst hge
   refine wp_exit ?_
   exact ⟨.inl rfl,_,.inl hi3⟩
 ·refine hi2.ops hX (lev_opsF _ seed h lev _) ⟨rfl,rfl,rfl,rfl,trivial⟩ fun a3 w3 hi3=>?_
  have hv:=hi3.val (x:=.tmp 32) (v:=.bool false) (by kernel_rfl)
  refine wp_cond_false hv (wp_exit ?_)
  exact ⟨.inl rfl,_,.inr hi3⟩
end Go.Proofs.YtjgbhhnghedgdaaGreatDoor
