import Derived.Test.YtejpabdmiagnnaaDoorZaRC
import Derived.Test.YtejpabdmiagnnaaDoorProg
import Derived.Shelf.Unicode.ValidAny
set_option linter.all false
namespace Go.Proofs.YtejpabdmiagnnaaDoor
open Go.RowKit Go.Shelf Go.Lib
theorem rv8 {S : Nat -> Prop} {w : World} {v u : Value} (h : Rep S w v (.val u)) : v = u := by cases h; rfl
def v8ren : Ren := ⟨fun | 196 => 31 | 259 => 60 | n => n, fun | 9 => 9 | 4 => 4 | 3 => 3 | 5 => 5 | 12 => 12 | 119 => 97 | 0 => 0 | 46 => 27 | 139 => 100 | 138 => 99 | 53 => 22 | n => n, fun | 3 => 0 | 4 => 1 | n => n⟩
theorem v8lays : Lays.n196 Tryd.prog v8ren := {
 mixed := by kernel_rfl
 f196 := Tryd.func31.trans (congrArg some (by kernel_rfl))
 f259 := Tryd.func60.trans (congrArg some (by kernel_rfl))
 t0 := Tryd.underlying0
 a0 := Tryd.isAgg0
 z0 := Tryd.sizeOf0
 v0 := Tryd.zeroValue0
 t3 := Tryd.underlying3
 a3 := Tryd.isAgg3
 z3 := Tryd.sizeOf3
 v3 := Tryd.zeroValue3
 t4 := Tryd.underlying4
 a4 := Tryd.isAgg4
 z4 := Tryd.sizeOf4
 v4 := Tryd.zeroValue4
 t5 := Tryd.underlying5
 a5 := Tryd.isAgg5
 z5 := Tryd.sizeOf5
 v5 := Tryd.zeroValue5
 t9 := Tryd.underlying9
 a9 := Tryd.isAgg9
 z9 := Tryd.sizeOf9
 v9 := Tryd.zeroValue9
 t12 := Tryd.underlying12
 a12 := Tryd.isAgg12
 z12 := Tryd.sizeOf12
 v12 := Tryd.zeroValue12
 t46 := Tryd.underlying27
 a46 := Tryd.isAgg27
 z46 := Tryd.sizeOf27
 v46 := Tryd.zeroValue27
 t53 := Tryd.underlying22
 a53 := Tryd.isAgg22
 z53 := Tryd.sizeOf22
 v53 := Tryd.zeroValue22
 t119 := Tryd.underlying97
 a119 := Tryd.isAgg97
 z119 := Tryd.sizeOf97
 t138 := Tryd.underlying99
 a138 := Tryd.isAgg99
 z138 := Tryd.sizeOf99
 v138 := Tryd.zeroValue99
 t139 := Tryd.underlying100
 a139 := Tryd.isAgg100
 z139 := Tryd.sizeOf100
 v139 := Tryd.zeroValue100
 g3 := by kernel_rfl
 g4 := by kernel_rfl }
theorem valid_ret (s : List UInt8) (hs : s.length ≤ 9223372036854775807) : Ret Tryd.prog 31 [as_ s] (ao (Lib.validD s)) := by
 intro w S vs hgood hS hl hr
 obtain ⟨v, rfl⟩ := List.length_eq_one_iff.1 hl
 have e := rv8 (hr 0 v _ rfl rfl)
 subst e
 refine (Any.utf8_ValidString v8lays ⟨s.toArray⟩ w (by simpa [ByteArray.size] using hs) hgood).mono fun e w' ⟨he, hb⟩ => ?_
 exact ⟨_, [], he, hb, List.nodup_nil, by simp, .inl (.inl (.rep (.val _)))⟩
end Go.Proofs.YtejpabdmiagnnaaDoor
namespace Go.Proofs.YtejpabdmiagnnaaDoor
open Go.RowKit
theorem avw_div (x y : UInt64) : AV.val (.int .u64 (IntKind.u64.wrap ((wv x).tdiv (wv y)))) = aw (x / y) := by
 have e : (wv x).tdiv (wv y) = wv (x / y) := by
  unfold wv; rw [UInt64.toNat_div, Int.tdiv_eq_ediv_of_nonneg (by omega)]; rfl
 rw [e]; exact avw_self _
theorem avw_mod (x y : UInt64) : AV.val (.int .u64 ((wv x).tmod (wv y))) = aw (x % y) := by
 have e : (wv x).tmod (wv y) = wv (x % y) := by
  unfold wv; rw [UInt64.toNat_mod, Int.tmod_eq_emod_of_nonneg (by omega)]; rfl
 rw [e]
def sar (a : Int) (k : Nat) : Int := a.fdiv (2 ^ k)
theorem avi_sar (a : Int) (k : Nat) (hk : k ≤ 64) : AV.val (.int .i64 (a.fdiv (2 ^ min (k : Int).toNat IntKind.i64.bits))) = ai (sar a k) := by
 have e : min (k : Int).toNat IntKind.i64.bits = k := by show min (k : Int).toNat 64 = k; omega
 rw [e]; rfl
abbrev au0 : AV := .val (.int .u64 0)
def evRegsP (P : Program) (n : Nat) (l : List Said) (wl : List Wk) (c : Code) (s : AS) : Option (AS × List Prop) :=
 match evRegs P n l c s with
 | some (s1, C) => (match wk wl s1 with | some s2 => some (s2, C) | none => none)
 | none => none
theorem AWP.regsP {P : Program} {n : Nat} {c : Code} {Q : Exit -> AS -> Prop} {s s' : AS} {C : List Prop} (k : Nat) (l : List Said) (wl : List Wk) (hk : Nat.beq l.length k = true) (he : evRegsP P n l wl c s = some (s', C)) (hC : AllP C) (h : AWP P n (dropC k c) Q s') : AWP P n c Q s := by
 unfold evRegsP at he
 split at he
 ·rename_i s1 C1 h1
  split at he
  ·rename_i s2 h2
   cases he
   exact AWP.regsK k l hk h1 hC (AWP.wk wl h2 h)
  ·cases he
 ·cases he
def resS (r : Option (AS × List Prop)) : AS := match r with | some (s', _) => s' | none => ⟨[], []⟩
def resC (r : Option (AS × List Prop)) : Option (List Prop) := match r with | some (_, C) => some C | none => none
theorem res_some {r : Option (AS × List Prop)} {C : List Prop} (h : resC r = some C) : r = some (resS r, C) := by
 unfold resC at h
 split at h
 ·cases h; rfl
 ·cases h
def wkS (l : List Wk) (s : AS) : AS := match wk l s with | some s' => s' | none => ⟨[], []⟩
def wkB (l : List Wk) (s : AS) : Bool := (wk l s).isSome
theorem wk_some {l : List Wk} {s : AS} (h : wkB l s = true) : wk l s = some (wkS l s) := by
 unfold wkB at h
 unfold wkS
 cases hw : wk l s with
 | some _ => rfl
 | none => rw [hw] at h; cases h
section
variable {P : Program} {n : Nat} {c : Code} {Q : Exit -> AS -> Prop} {s : AS} {C : List Prop}
theorem AWP.wkX (l : List Wk) (he : wkB l s = true) (h : AWP P n c Q (wkS l s)) : AWP P n c Q s := AWP.wk l (wk_some he) h
theorem AWP.regsKX (k : Nat) (l : List Said) (hk : Nat.beq l.length k = true) (he : resC (evRegs P n l c s) = some C) (hC : AllP C) (h : AWP P n (dropC k c) Q (resS (evRegs P n l c s))) : AWP P n c Q s := AWP.regsK k l hk (res_some he) hC h
theorem AWP.regsPX (k : Nat) (l : List Said) (wl : List Wk) (hk : Nat.beq l.length k = true) (he : resC (evRegsP P n l wl c s) = some C) (hC : AllP C) (h : AWP P n (dropC k c) Q (resS (evRegsP P n l wl c s))) : AWP P n c Q s := AWP.regsP k l wl hk (res_some he) hC h
theorem AWP.regX (x : Said) (he : resC (evReg P n c x s) = some C) (hC : AllP C) (h : Q .normal (resS (evReg P n c x s))) : AWP P n c Q s := AWP.reg x (res_some he) hC h
end
theorem Weaks.ofX {s s2 : AS} (l : List Wk) (he : wk l s = some s2) : Weaks s s2 := Weaks.of l he rfl
end Go.Proofs.YtejpabdmiagnnaaDoor
