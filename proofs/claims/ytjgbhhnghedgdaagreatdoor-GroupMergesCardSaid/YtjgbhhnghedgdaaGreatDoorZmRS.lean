import Derived.Test.YtjgbhhnghedgdaaGreatDoorZmRC
set_option linter.all false
namespace Go.Proofs.YtjgbhhnghedgdaaGreatDoor
open Go.RowKit
def eN (P:Program) (n:Nat) (ops l:List Oper) (s s':AS):Prop :=
 ∀S0 w0 a w (Q:Exit->Act->World->Prop) (m:List Oper),ix S0 w0 n s a w->(∀a' w',ix S0 w0 n s' a' w'->wpList P ops.toArray Q m a' w')->wpList P ops.toArray Q (l++m) a w
section
variable {P:Program} {n:Nat} {ops:List Oper}
theorem eN.run {hs:List (Nat×Hint)}:∀(l:List Oper) (i:Nat) {s s':AS} {C:List Prop},j8 P n ops hs l i s=some (s',C)->bz C->eN P n ops l s s'
 | [],i,s,s',C,he,hC=>by
  cases he
  exact fun S0 w0 a w Q m hs hQ=>hQ a w hs
 | o::l,i,s,s',C,he,hC=>by
  simp only [j8] at he
  split at he
  ·rename_i s1 C1 h1
   split at he
   ·rename_i s2 D h2
    cases he
    obtain ⟨iJ,hD⟩:=bT.1 hC
    intro S0 w0 a w Q m b7 hQ
    have:=JA (S0:=S0) (w0:=w0) (Q:=Q) h1 iJ b7 (wpList P ops.toArray Q (l++m)) (fun a' w' h'=>eN.run l (i+1) h2 hD S0 w0 a' w' Q m h' hQ)
    show wpList P ops.toArray Q (o::(l++m)) a w
    unfold wpList
    exact this
   ·cases he
  ·cases he
theorem eN.step {l:List Oper} {s s2:AS} (k:Nat) (s1:AS) (h1:eN P n ops (l.take k) s s1) (h2:eN P n ops (l.drop k) s1 s2):eN P n ops l s s2:=by
 intro S0 w0 a w Q m hs hQ
 have:=h1 S0 w0 a w Q (l.drop k++m) hs fun a' w' h'=>h2 S0 w0 a' w' Q m h' hQ
 rwa [←List.append_assoc,List.take_append_drop] at this
def N_ (P:Program) (n:Nat) (ops:List Oper) (hs:List (Nat×Hint)) (ws:List Wk) (l:List Oper) (s:AS):Option (AS×List Prop) :=
 match j8 P n ops hs l 0 s with
 | some (s1,C)=>(match wk ws s1 with|some s2=>some (s2,C)|none=>none)
 | none=>none
theorem eN.part {l:List Oper} {s s':AS} {C:List Prop} (hs:List (Nat×Hint)) (ws:List Wk) (he:N_ P n ops hs ws l s=some (s',C)) (hC:bz C):eN P n ops l s s':=by
 unfold N_ at he
 split at he
 ·rename_i s1 C1 h1
  split at he
  ·rename_i s2 h2
   cases he
   intro S0 w0 a w Q m b7 hQ
   exact eN.run l 0 h1 hC S0 w0 a w Q m b7 fun a' w' h'=>hQ a' w' (wB ws h2 S0 w0 n a' w' h')
  ·cases he
 ·cases he
def opsOf (c:Code):List Oper:=match c with| .region _ ⟨l⟩ false=>l|_=>[]
def ordered (c:Code):Bool:=match c with| .region _ _ false=>true|_=>false
theorem bf.Mi {c:Code} {Q:Exit->AS->Prop} {s:AS} (s':AS) (ho:ordered c=true) (h:eN P n (opsOf c) (opsOf c) s s') (hQ:Q .normal s'):bf P n c Q s:=by
 intro S0 w0 a w hs
 unfold ordered at ho
 split at ho
 ·rename_i id arr
  obtain ⟨l⟩:=arr
  have:=h S0 w0 a w (fun e a' w'=>∃s',Q e s'∧ni S0 w0 n s' a' w') [] hs fun a' w' b7=>by
   unfold wpList
   exact ⟨s',hQ,b7.one⟩
  rw [List.append_nil] at this
  exact this
 ·cases ho
end
end Go.Proofs.YtjgbhhnghedgdaaGreatDoor
