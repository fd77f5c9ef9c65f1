import Derived.Test.YtjgbhhnghedgdaaGreatDoorZsDR
set_option linter.all false
namespace Go.Proofs.YtjgbhhnghedgdaaGreatDoor
open Go.RowKit
theorem Own.none_new (w:World) (e:TypeId):Own (w.alloc (.cells #[] e)) w.heap.size (.slice (some ⟨w.heap.size,0,none⟩) 0 0) [] :=
 .inr ⟨w.heap.size,0,#[],e,(0,0),rfl,Nat.le_refl _,heap_alloc_new w _,by simp,by simp,rfl,rfl,by simp⟩
theorem run_nil_eq {P:Program} {w:World} {t e:TypeId} (ht:P.underlying t=some (.slice e)) (A:Option Addr) (n c:Nat):(binOp .eql t (.slice A n c) (.slice none 0 0)).run P w= .ok (.bool A.isNone) w:=by
 have key:∀d,(Op.equalIn (d+1) t (.slice A n c) (.slice none 0 0)).run P w= .ok A.isNone w:=by
  intro d
  unfold Op.equalIn
  cases A<;>simp [run_underlying ht]
 show (Op.equalIn (9999+1) t (.slice A n c) (.slice none 0 0) >>= fun b=>pure (Value.bool b)).run P w=_
 rw [Sem.run_bind,key 9999]
 rfl
theorem clone_any (v:Value) (l:List UInt8) (w:World) (h:SliceAt w v (bvs l)) (hl:l.length≤70368744177664) :
  Calls Tryz.prog 100 #[v] w fun e w'=>NewBytes w e w' l:=by
 have h':=h
 obtain ⟨A,c,rfl,hc,hm,hr⟩:=h
 rcases A with _|ad
 ·have hl0:l= []:=by
   rcases Nat.eq_zero_or_pos l.length with h0|h0
   ·exact List.length_eq_zero_iff.1 h0
   ·obtain ⟨ad,h,_⟩:=hr.2 (by rw [bvs_len];exact h0)
    cases h
  subst hl0
  have hq:= @run_nil_eq Tryz.prog w 25 5 Tryz.underlying25 none (bvs []).length c
  go_enter Tryz.func100,Tryz.ntmps100
  go_wp2
  go_ret
  exact ⟨_,rfl,.inl ⟨rfl,rfl⟩,Below.refl _ _⟩
 ·have HSL:=Lib.hid h'
  clear h' hr
  have hq:= @run_nil_eq Tryz.prog w 25 5 Tryz.underlying25 (some ad) (bvs l).length c
  go_enter Tryz.func100,Tryz.ntmps100
  go_wp2_with (at_builtin;refine wpList_app _ rfl _ _ 25 rfl E8 w.heap.size _ _ rfl (Own.none_new w _) _ (bvs l) rfl (HSL.out.below ((Below.refl _ _).alloc (Nat.le_refl _) _)) (bvs_one _) (by rw [bvs_len];simp;omega) (by simp) ?_;intro v2 w2 ho2 hg2 _)
  go_ret
  exact ⟨_,rfl,by simpa using ho2,((Below.refl w.heap.size w).alloc (Nat.le_refl _) _).thenApp (Own.none_new w _) hg2⟩
theorem clone_ret (l:List UInt8) (hl:l.length≤70368744177664):Ret Tryz.prog 100 [.sl 1 (bytesA l)] (.own 1 (bytesA l)):=by
 refine Ret.of_bytes fun w vs h1 hr=>?_
 obtain ⟨a,rfl⟩:=args1 h1 rfl
 exact clone_any a l w (rep_bytes (hr 0 a _ rfl rfl) fun _ h=>h) hl
end Go.Proofs.YtjgbhhnghedgdaaGreatDoor
namespace Go.Proofs.YtjgbhhnghedgdaaGreatDoor
open Go.RowKit
theorem clip_any (A:Option Addr) (n c:Nat) (w:World) (hc:n≤c) (hm:c≤maxLen):Calls Tryz.prog 151 #[.slice A n c] w fun e w'=>e= .returned (.slice A n n)∧w'=w:=by
 go_enter Tryz.func151,Tryz.ntmps151
 go_wp2
 go_ret
 exact ⟨rfl,rfl⟩
theorem clip_ret (row:List AV):Ret Tryz.prog 151 [.sl 4 row] (.ful 4 row):=by
 intro w S vs _ hS hl hr
 obtain ⟨a,rfl⟩:=args1 hl rfl
 cases hr 0 a _ rfl rfl with
 | sl A n c e us _ hl hn hc hm ha h =>
  refine (clip_any A n c w hc hm).mono fun e w' ⟨he,hw⟩=>?_
  subst hw
  refine ⟨_,[],he,Below.refl _ _,List.nodup_nil,by simp,.inl (.inl (.rep (.ful A n 4 us row hl hn (by omega) (fun h0=>?_) fun j u x hu hx=>(h j u x hu hx).mono fun b hb=>⟨.inl hb,rfl⟩)))⟩
  obtain ⟨ad,e1,e2,e3⟩:=ha h0
  exact ⟨ad,e1,.inl e2,e3⟩
end Go.Proofs.YtjgbhhnghedgdaaGreatDoor
