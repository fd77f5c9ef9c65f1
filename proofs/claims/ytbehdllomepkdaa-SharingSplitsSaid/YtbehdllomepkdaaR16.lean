/-
  The rules for a function's text on plain states. Over any program. No condition.
-/
import Derived.Test.YtbehdllomepkdaaR15
import Derived.Tactics
namespace Go.Proofs.Ytbehdllomepkdaa
open Go.RowKit

/-- What follows from a plain state. -/
def Weaks (s s' : AS) : Prop := ∀ S0 w0 n a w, Sim S0 w0 n s a w → Sim S0 w0 n s' a w
/-- From the plain state s the text c comes to Q. -/
def AWP (P : Program) (n : Nat) (c : Code) (Q : Exit → AS → Prop) (s : AS) : Prop :=
  ∀ S0 w0 a w, Sim S0 w0 n s a w → c.wp P (fun e a' w' => ∃ s', Q e s' ∧ Sim S0 w0 n s' a' w') a w
def Then (K : AS → Prop) (Q : Exit → AS → Prop) : Exit → AS → Prop
  | .normal, s => K s
  | e, s => Q e s
def InB (id : Nat) (Q : Exit → AS → Prop) : Exit → AS → Prop
  | .exit id', s => if id' = id then Q .normal s else Q (.exit id') s
  | e, s => Q e s
def fstC : Code → Code
  | .seq a _ => a
  | c => c
def sndC : Code → Code
  | .seq _ b => b
  | c => c
def thenC : Code → Code
  | .cond _ a _ => a
  | c => c
def elseC : Code → Code
  | .cond _ _ b => b
  | c => c
def bodyC : Code → Code
  | .block _ b => b
  | .loop b => b
  | .scope b => b
  | c => c
def isSeq : Code → Bool
  | .seq _ _ => true
  | _ => false
def condC : Code → Option Operand
  | .cond x _ _ => some x
  | _ => none
def blockC : Code → Option Nat
  | .block id _ => some id
  | _ => none
def isLoop : Code → Bool
  | .loop _ => true
  | _ => false
def exitC : Code → Option Nat
  | .exit id => some id
  | _ => none
def isRet : Code → Bool
  | .ret => true
  | _ => false
def isSkip : Code → Bool
  | .skip => true
  | _ => false

/-- A loop by a number that every round lowers. -/
theorem loop_by {P : Program} {c : Code} {Q : Exit → Act → World → Prop} {a : Act} {w : World} (J : Nat → Act → World → Prop) (k0 : Nat) (h0 : J k0 a w)
    (round : ∀ k a w, J k a w → c.wp P (Exit.then (fun a' w' => ∃ k', k' < k ∧ J k' a' w') Q) a w) : (Code.loop c).wp P Q a w := by
  intro b k cs
  have key : ∀ n a w, J n a w → ∃ e a' w', Q e a' w' ∧ Arrives P (lone (b.at a (.code c :: .inLoop c :: k)) cs w) b k cs e a' w' := by
    intro n
    induction n using Nat.strongRecOn with
    | _ n ih =>
      intro a w hJ
      obtain ⟨e, a₁, w₁, hq, harr⟩ := round n a w hJ b (.inLoop c :: k) cs
      cases e with
      | normal =>
        obtain ⟨k', hlt, hJ'⟩ := hq
        obtain ⟨e₂, a₂, w₂, hq₂, harr₂⟩ := ih k' hlt a₁ w₁ hJ'
        exact ⟨e₂, a₂, w₂, hq₂, .of_steps (Steps.trans harr (.one step_inLoop)) harr₂⟩
      | exit id => exact ⟨_, a₁, w₁, hq, .pass (x := .inLoop c) rfl (fun _ _ => .inl (by simp)) harr⟩
      | goto l => exact ⟨_, a₁, w₁, hq, .pass (x := .inLoop c) rfl (fun _ _ => .inl (by simp)) harr⟩
      | ret => exact ⟨_, a₁, w₁, hq, .pass (x := .inLoop c) rfl (fun _ _ => .inl (by simp)) harr⟩
      | panic ch => exact ⟨_, a₁, w₁, hq, .pass (x := .inLoop c) rfl (fun _ _ => .inl (by simp)) harr⟩
      | outgrown => exact ⟨_, a₁, w₁, hq, .pass (x := .inLoop c) rfl (fun _ _ => .inl (by simp)) harr⟩
  obtain ⟨e, a', w', hq, harr⟩ := key k0 a w h0
  exact ⟨e, a', w', hq, .of_steps (.one step_loop) harr⟩
section
variable {P : Program} {n : Nat} {c : Code} {Q : Exit → AS → Prop} {s : AS}
theorem AWP.seq (hc : isSeq c = true) (h : AWP P n (fstC c) (Then (AWP P n (sndC c) Q) Q) s) : AWP P n c Q s := by
  cases c with
  | seq x y =>
    intro S0 w0 a w hs
    refine wp_seq (wp_mono (h S0 w0 a w hs) fun e a' w' ⟨s', hq, hs'⟩ => ?_)
    cases e with
    | normal => exact hq S0 w0 a' w' hs'
    | _ => exact ⟨s', hq, hs'⟩
  | _ => cases hc
theorem AWP.cond {x : Operand} {b : Bool} (hc : condC c = some x) (hx : opd s x = .val (.bool b)) (ht : b = true → AWP P n (thenC c) Q s) (hf : b = false → AWP P n (elseC c) Q s) : AWP P n c Q s := by
  cases c with
  | cond y p q =>
    cases hc
    intro S0 w0 a w hs
    have hv : a.eval x = .bool b := by
      obtain ⟨φ, hs'⟩ := hs
      exact den_val (hx ▸ hs'.opd x)
    exact wp_cond_split hv (fun e => ht e S0 w0 a w hs) (fun e => hf e S0 w0 a w hs)
  | _ => cases hc
theorem AWP.block {id : Nat} (hc : blockC c = some id) (h : AWP P n (bodyC c) (InB id Q) s) : AWP P n c Q s := by
  cases c with
  | block id' b =>
    cases hc
    intro S0 w0 a w hs
    refine wp_block (wp_mono (h S0 w0 a w hs) fun e a' w' ⟨s', hq, hs'⟩ => ?_)
    cases e with
    | exit i =>
      simp only [InB] at hq
      simp only [Exit.inBlock]
      split
      · rename_i hi; rw [if_pos hi] at hq; exact ⟨s', hq, hs'⟩
      · rename_i hi; rw [if_neg hi] at hq; exact ⟨s', hq, hs'⟩
    | _ => exact ⟨s', hq, hs'⟩
  | _ => cases hc
theorem AWP.exit {id : Nat} (hc : exitC c = some id) (h : Q (.exit id) s) : AWP P n c Q s := by
  cases c with
  | exit i => cases hc; intro S0 w0 a w hs; exact wp_exit ⟨s, h, hs⟩
  | _ => cases hc
theorem AWP.ret (hc : isRet c = true) (h : Q .ret s) : AWP P n c Q s := by
  cases c with
  | ret => intro S0 w0 a w hs; exact wp_ret ⟨s, h, hs⟩
  | _ => cases hc
theorem AWP.skip (hc : isSkip c = true) (h : Q .normal s) : AWP P n c Q s := by
  cases c with
  | skip => intro S0 w0 a w hs; exact wp_skip ⟨s, h, hs⟩
  | _ => cases hc
theorem AWP.weak {s' : AS} (hw : Weaks s s') (h : AWP P n c Q s') : AWP P n c Q s := fun S0 w0 a w hs => h S0 w0 a w (hw S0 w0 n a w hs)
theorem AWP.mono {Q' : Exit → AS → Prop} (h : AWP P n c Q s) (hq : ∀ e s, Q e s → Q' e s) : AWP P n c Q' s := fun S0 w0 a w hs => wp_mono (h S0 w0 a w hs) fun e _ _ ⟨s', h1, h2⟩ => ⟨s', hq e s' h1, h2⟩
/-- The round of a loop: from I x it comes to some I y with a smaller measure, or leaves the loop. -/
def Round {ι : Type} (I : ι → AS) (Inv : ι → Prop) (m : ι → Nat) (Q : Exit → AS → Prop) (x : ι) : Exit → AS → Prop := Then (fun s' => ∃ y, Inv y ∧ m y < m x ∧ Weaks s' (I y)) Q
theorem AWP.loop {ι : Type} (I : ι → AS) (Inv : ι → Prop) (m : ι → Nat) (hc : isLoop c = true) (x0 : ι) (h0 : Inv x0) (hw : Weaks s (I x0)) (h : ∀ x, Inv x → AWP P n (bodyC c) (Round I Inv m Q x) (I x)) : AWP P n c Q s := by
  cases c with
  | loop b =>
    intro S0 w0 a w hs
    -- the measure of a frame is the least measure of the states that it reads as
    refine loop_by (P := P) (c := b) (fun k a w => ∃ x, Inv x ∧ m x = k ∧ Sim S0 w0 n (I x) a w) (m x0) ⟨x0, h0, rfl, hw S0 w0 n a w hs⟩ ?_
    rintro k a w ⟨x, hx, rfl, hs⟩
    refine wp_mono (h x hx S0 w0 a w hs) fun e a' w' ⟨s', hq, hs'⟩ => ?_
    cases e with
    | normal =>
      obtain ⟨y, hy, hlt, hwk⟩ := hq
      exact ⟨m y, hlt, y, hy, rfl, hwk S0 w0 n a' w' hs'⟩
    | _ => exact ⟨s', hq, hs'⟩
  | _ => cases hc
end
end Go.Proofs.Ytbehdllomepkdaa
