import Derived.Test.YtejpabdmiagnnaaGreatDoorZrV8
import Derived.Test.YtejpabdmiagnnaaGreatDoorZrSeal2
import Derived.Test.YtejpabdmiagnnaaGreatDoorZrOtP
import Derived.Test.YtejpabdmiagnnaaGreatDoorZrRJ
import Derived.Test.YtejpabdmiagnnaaGreatDoorZrSh6
set_option linter.all false
namespace Go.Proofs.YtejpabdmiagnnaaGreatDoor
open Go.RowKit
set_option maxRecDepth 100000
set_option maxHeartbeats 4000000
set_option linter.unusedVariables false
def badH (h:Int):Prop:=h<0∨4<h
instance (h:Int):Decidable (badH h):=inferInstanceAs (Decidable (_∨_))
theorem refheight_ret (h:Int):Ret Tryz.prog 144 [ai h] (ao (!decide (badH h))):=by
 by_cases h1:h<0
 ·have e:decide (badH h)=true:=decide_eq_true (.inl h1)
  refine zO Tryz.func144 9 ?_
  refine zP 2 [{},yH [(3,{g:=false}),(4,{g:=false}),(5,{b:=false})]] [.keep [2,0] []] [yF (h≥0),yF (h≥0),yF (h≥0)] ?_
  refine zR ?_
  refine zV [yB (Value.bool false=Value.bool !decide (badH h)) (by rw [e];rfl)]
 ·by_cases h2:h>4
  ·have e:decide (badH h)=true:=decide_eq_true (.inr h2)
   refine zO Tryz.func144 9 ?_
   refine zP 2 [{},{}] [.keep [2,0] []] [yT (h≥0),yT (h≥0),yT (h≥0)] ?_
   refine zR ?_
   refine zV [yB (Value.bool (decide (h≤4))=Value.bool !decide (badH h)) (by rw [e,decide_eq_false (by omega)];rfl)]
  ·have e:decide (badH h)=false:=decide_eq_false (by rintro (h|h)<;>omega)
   refine zO Tryz.func144 9 ?_
   refine zP 2 [{},{}] [.keep [2,0] []] [yT (h≥0),yT (h≥0),yT (h≥0)] ?_
   refine zR ?_
   refine zV [yB (Value.bool (decide (h≤4))=Value.bool !decide (badH h)) (by rw [e,decide_eq_true (by omega)];rfl)]
end Go.Proofs.YtejpabdmiagnnaaGreatDoor
namespace Go.Proofs.YtejpabdmiagnnaaGreatDoor
open Go.RowKit
set_option maxRecDepth 100000
set_option maxHeartbeats 4000000
set_option linter.unusedVariables false
def parW (lv:Int) (a b:UInt64):UInt64:=hash 3 (words [u64 lv,a,b])
theorem refparent_ret (lv:Int) (a b:UInt64):Ret Tryz.prog 164 [ai lv,aw a,aw b] (aw (parW lv a b)):=by
 refine zO Tryz.func164 14 ?_
 refine zP 2 [{},yH [(1,yV (aw (u64 lv))),(4,yV (AV.arr (wordsA [u64 lv,a,b]))),(5,yV (AV.own 1 (bytesA (words [u64 lv,a,b])))),(6,yV (aw (hash (3:Int) (words [u64 lv,a,b]))))]] [.keep [6,0,1,2] []] [yI (avw_conv lv),yR (wordsA [u64 lv,a,b]),yI (refwords_ret [u64 lv,a,b] (by simp only [List.length_cons,List.length_nil];omega)),yI (valR_bytes (words [u64 lv,a,b])),yI (refhash_ret ((3:Int)) (words [u64 lv,a,b]) (by simp only [List.length_cons,List.length_nil,words_len];omega))] ?_
 refine zR ?_
 refine zV [yR (Value.int .u64 (wv (parW lv a b)))]
def nodeW (seed:UInt64):Nat->Nat->UInt64
 | 0,i=>combine i (pubEnds seed i 18)
 | lv+1,i=>parW ((lv+1:Nat):Int) (nodeW seed lv (2*i)) (nodeW seed lv (2*i+1))
theorem refnode_ret (seed:UInt64) (lv:Nat):∀(i:Nat),lv≤4->i<2^(40-lv)->Ret Tryz.prog 153 [aw seed,ai lv,ai i] (aw (nodeW seed lv i)):=by
 induction lv with
 | zero =>
  intro i _ hi
  refine zO Tryz.func153 27 ?_
  refine zQ 1 [{}] [] ?_
  refine zS ?_
  refine zQ 1 [{}] [] ?_
  refine zTb 8 ((↑(0:Nat):Int) == (0:Int)) (decide_eq_true (by omega)) ?_
  refine zP 1 [yH [(2,yV (aw (combine (↑i:Int) (pubEnds seed (↑i:Int) (18:Nat)))))]] [.keep [6,8,0,1,2] []] [yI (refleaf_ret seed ((↑i:Int)))] ?_
  refine zR ?_
  refine then_r ?_
  refine zV [yR (Value.int .u64 (wv (nodeW seed (0:Nat) i)))]
 | succ lv ih =>
  intro i hl hi
  have e:2^(40-lv)=2*2^(40-(lv+1)):=by rw [show 40-lv=40-(lv+1)+1 by omega,Nat.pow_succ,Nat.mul_comm]
  have hp:2^(40-(lv+1))≤2^40:=Nat.pow_le_pow_right (by decide) (by omega)
  obtain ⟨j,hj⟩:∃j:Nat,2*i=j:=⟨_,rfl⟩
  obtain ⟨j2,hj2⟩:∃j2:Nat,2*i+1=j2:=⟨_,rfl⟩
  have h1:=ih j (by omega) (by omega)
  have h2:=ih j2 (by omega) (by omega)
  clear ih
  generalize 2^(40-lv)=p1 at *
  generalize 2^(40-(lv+1))=p2 at *
  have ew:nodeW seed (lv+1) i=parW ((lv+1:Nat):Int) (nodeW seed lv j) (nodeW seed lv j2):=by rw [←hj,←hj2];rfl
  rw [ew]
  generalize nodeW seed lv j=n1 at *
  generalize nodeW seed lv j2=n2 at *
  have e1:IntKind.i64.wrap (((lv+1:Nat):Int)-1)=(lv:Int):=by rw [IntKind.wrap_i64];omega
  have e2:IntKind.i64.wrap (2*(i:Int))=(j:Int):=by rw [IntKind.wrap_i64];omega
  have e3:IntKind.i64.wrap ((j:Int)+1)=(j2:Int):=by rw [IntKind.wrap_i64];omega
  refine zO Tryz.func153 27 ?_
  refine zQ 1 [{}] [] ?_
  refine zS ?_
  refine zQ 1 [{}] [] ?_
  refine zFb 8 ((↑(lv+(1:Nat)):Int) == (0:Int)) (decide_eq_false (by omega)) ?_
  refine zK ?_
  refine then_n ?_
  refine zP 1 [yH [(3,yV (ai (↑lv:Int))),(5,yV (ai (↑j:Int))),(6,yV (aw n1)),(9,yV (ai (↑lv:Int))),(11,yV (ai (↑j:Int))),(12,yV (ai (↑j2:Int))),(13,yV (aw n2)),(14,yV (aw (parW (↑(lv+(1:Nat)):Int) n1 n2)))]] [.keep [6,8,0,1,2] []] [yB (ai (IntKind.i64.wrap ((↑(lv+(1:Nat)):Int)-1))=ai (↑lv:Int)) (congrArg (fun n=>AV.val (.int .i64 n)) e1),yB (ai (IntKind.i64.wrap ((2:Int)*(↑i:Int)))=ai (↑j:Int)) (congrArg (fun n=>AV.val (.int .i64 n)) e2),yB (Ret Tryz.prog (153:Nat) [aw seed,ai (↑lv:Int),ai (↑j:Int)] (aw n1)) (h1),yB (ai (IntKind.i64.wrap ((↑(lv+(1:Nat)):Int)-1))=ai (↑lv:Int)) (congrArg (fun n=>AV.val (.int .i64 n)) e1),yB (ai (IntKind.i64.wrap ((2:Int)*(↑i:Int)))=ai (↑j:Int)) (congrArg (fun n=>AV.val (.int .i64 n)) e2),yB (ai (IntKind.i64.wrap ((↑j:Int)+1))=ai (↑j2:Int)) (congrArg (fun n=>AV.val (.int .i64 n)) e3),yB (Ret Tryz.prog (153:Nat) [aw seed,ai (↑lv:Int),ai (↑j2:Int)] (aw n2)) (h2),yI (refparent_ret (↑(lv+(1:Nat)):Int) n1 n2)] ?_
  refine zR ?_
  refine zV [yR (Value.int .u64 (wv (parW (↑(lv+(1:Nat)):Int) n1 n2)))]
end Go.Proofs.YtejpabdmiagnnaaGreatDoor
namespace Go.Proofs.YtejpabdmiagnnaaGreatDoor
open Go.RowKit
set_option maxRecDepth 100000
set_option maxHeartbeats 4000000
set_option linter.unusedVariables false
def pkE (h:Int):Int:=if badH h then 9 else 0
def pkH (h:Int):Int:=if badH h then 0 else h
def pkR (seed:UInt64) (h:Int):UInt64:=if badH h then 0 else nodeW seed h.toNat 0
theorem refpublic_ret (seed:UInt64) (h:Int):Ret Tryz.prog 111 [aw seed,ai h] (.tup [.agg [ai (pkH h),aw (pkR seed h)],ai (pkE h)]):=by
 by_cases hb:badH h
 ·have e1:pkE h=9:=if_pos hb
  have e2:pkH h=0:=if_pos hb
  have e3:pkR seed h=0:=if_pos hb
  refine zO Tryz.func111 15 ?_
  refine zQ 1 [{}] [] ?_
  refine zS ?_
  refine zP 1 [yH [(1,yV (ao (!decide (badH h))))]] [.keep [8,5,4,0,1] [4]] [yI (refheight_ret h)] ?_
  refine zTb 8 (!!decide (badH h)) (by simp_all) ?_
  refine AWP.regsP 1 [{}] [.keep [5,8,4,0,1] [4]] (by kernel_rfl) (s':=AS.mk [(5,ai 9),(8,ao (!!decide (badH h))),(4,AV.addr 4 0),(0,aw seed),(1,ai h)] [(4,Row.mk 1 false true [ai 0,au0])]) (C:=[(2:Nat)≤(2:Nat)]) (by kernel_rfl) ⟨(by omega),trivial⟩ ?_
  refine zR ?_
  refine then_r ?_
  refine zV [yJ 0 (pkH h) (by rw [e2]),yK 0 (wv (pkR seed h)) (by rw [e3];rfl),yJ 9 (pkE h) (by rw [e1])]
 ·have e1:pkE h=0:=if_neg hb
  have e2:pkH h=h:=if_neg hb
  have e3:pkR seed h=nodeW seed h.toNat 0:=if_neg hb
  have hb2:0≤h∧h≤4:=by unfold badH at hb;omega
  rw [e1,e2,e3]
  obtain ⟨k,rfl⟩:=Int.eq_ofNat_of_zero_le hb2.1
  have hn:=refnode_ret seed k 0 (by omega) (Nat.two_pow_pos _)
  rw [Int.toNat_natCast]
  generalize nodeW seed k 0=r at *
  refine zO Tryz.func111 15 ?_
  refine zQ 1 [{}] [] ?_
  refine zS ?_
  refine zP 1 [yH [(1,yV (ao (!decide (badH (↑k:Int)))))]] [.keep [8,5,4,0,1] [4]] [yI (refheight_ret ((↑k:Int)))] ?_
  refine zFb 8 (!!decide (badH (↑k:Int))) (by simp_all) ?_
  refine zK ?_
  refine then_n ?_
  refine zP 1 [yH [(3,yV (aw r))]] [.keep [5,8,4,0,1] [4]] [yB (Ret Tryz.prog (153:Nat) [aw seed,ai (↑k:Int),ai 0] (aw r)) (hn),yL 2 2] ?_
  refine zR ?_
  refine zV [yR (Value.int .i64 (↑k:Int)),yR (Value.int .u64 (wv r)),yR (Value.int .i64 0)]
end Go.Proofs.YtejpabdmiagnnaaGreatDoor
namespace Go.Proofs.YtejpabdmiagnnaaGreatDoor
open Go.RowKit
def sl1:AV->AV
 | .nil=>.sl 1 []
 | x=>x
theorem Rep.sl1 {S:Nat->Prop} {w:World} {v:Value} {x:AV} (h:Rep S w v x):Rep S w v (sl1 x):=by
 cases h with
 | nil=>exact .sl none 0 0 1 [] [] rfl rfl (Nat.le_refl _) (Nat.zero_le _) (fun h=>by simp at h) (fun j u x hu=>by simp at hu)
 | val v=>exact .val v
 | agg vs cs hl h=>exact .agg vs cs hl h
 | tup vs cs hl h=>exact .tup vs cs hl h
 | arr vs cs hl h=>exact .arr vs cs hl h
 | sl A n c e us row hl hn hc hm ha h=>exact .sl A n c e us row hl hn hc hm ha h
 | ptr ad us row off hl hs ha h=>exact .ptr ad us row off hl hs ha h
 | clo f vs cs hl h=>exact .clo f vs cs hl h
theorem Weaks.slr {s:AS} (id:Nat) {r:Row} (hr:look s.H id=some r) (hp:r.pure=true):Weaks s ⟨s.F,(id,⟨r.e,true,r.full,r.cells.map sl1⟩)::drop_ s.H id⟩:=by
 intro S0 w0 n a w ⟨φ,hs⟩
 have hlk:∀i,look ((id,(⟨r.e,true,r.full,r.cells.map sl1⟩:Row))::drop_ s.H id) i=if id=i then some ⟨r.e,true,r.full,r.cells.map sl1⟩ else look s.H i:=by
  intro i
  rw [look_cons,look_drop]
  by_cases e:id=i<;>simp [e]
 have hI:infoOf ((id,(⟨r.e,true,r.full,r.cells.map sl1⟩:Row))::drop_ s.H id) φ=infoOf s.H φ:=by
  funext i
  unfold infoOf
  rw [hlk]
  by_cases e:id=i
  ·subst e;rw [if_pos rfl,hr];simp
  ·rw [if_neg e]
 refine ⟨φ,hs.tsz,hs.dfr,hs.bel,fun i av hi=>?_,fun i q hq=>?_,fun i hi=>?_,hs.inj,hs.rng,hs.apart,hs.new⟩
 ·simp only [hI];exact hs.slots i av hi
 ·simp only [hI]
  simp only [hlk] at hq
  by_cases e:id=i
  ·subst e
   rw [if_pos rfl] at hq;injection hq with hq;subst hq
   have hrow:=hs.rows id r hr
   unfold RowDen at hrow ⊢
   cases hg:φ id with
   | none=>rw [hg] at hrow;simpa using hrow
   | some g =>
    rw [hg] at hrow
    obtain ⟨cur,te,fr,u1,u2,u3,u4,u5⟩:=hrow
    refine ⟨cur,te,fr,u1,u2,by simpa using u3,fun h=>by simpa using u4 h,fun k u x hu hx=>?_⟩
    rw [List.getElem?_map] at hx
    cases hk:r.cells[k]? with
    | none=>rw [hk] at hx;cases hx
    | some y =>
     rw [hk] at hx
     have hx:=(Option.some.inj hx).symm
     subst hx
     have:=u5 k u y hu hk
     unfold CellDen at this ⊢
     rw [hp] at this
     exact this.sl1
  ·rw [if_neg e] at hq;exact hs.rows i q hq
 ·simp only [hlk] at hi
  by_cases e:id=i
  ·subst e;rw [if_pos rfl] at hi;cases hi
  ·rw [if_neg e] at hi;exact hs.only i hi
end Go.Proofs.YtejpabdmiagnnaaGreatDoor
