import Derived.Test.YtejpabdmiagnnaaGreatDoorZrSeal2
import Derived.Test.YtejpabdmiagnnaaGreatDoorZrRC
set_option linter.all false
namespace Go.Proofs.YtejpabdmiagnnaaGreatDoor
open Go.RowKit
theorem Ret.nils {P:Program} {f:FuncId} {args args':List AV} {r:AV} (h:Ret P f args r) (hl:args'.length=args.length) (ha:∀(j:Nat) x y,args'[j]?=some x->args[j]?=some y->x=y∨(x= .nil∧y= .sl 1 [])):Ret P f args' r:=by
 intro w S vs hgood hS hv hr
 refine h w S vs hgood hS (hv.trans hl) fun j v y hvj hy=>?_
 have hj:j<args'.length:=by have:=(List.getElem?_eq_some_iff.1 hy).1;omega
 have hx:args'[j]?=some args'[j]:=List.getElem?_eq_getElem hj
 have hrep:=hr j v _ hvj hx
 rcases ha j _ y hx hy with e|⟨e1,e2⟩
 ·rw [←e];exact hrep
 ·rw [e1] at hrep;rw [e2];cases hrep;exact sl_empty none 0 0 1 (by simp) (Nat.le_refl _) (by simp)
theorem sealN_ret (key nonce:UInt64) (text:List UInt8):Ret Tryz.prog 118 [aw key,aw nonce,.nil,.sl 1 (bytesA text)] (.tup [.own 1 (bytesA (sealD key nonce [] text)),ai (sealE [] text)]) :=
 Ret.nils (seal_ret key nonce [] text) rfl (fun j x y hx hy=>by
  match j with
  | 0=>cases hx;cases hy;exact .inl rfl
  | 1=>cases hx;cases hy;exact .inl rfl
  | 2=>cases hx;cases hy;exact .inr ⟨rfl,rfl⟩
  | 3=>cases hx;cases hy;exact .inl rfl
  | j+4=>simp at hx)
theorem openN_ret (key:UInt64) (box:List UInt8):Ret Tryz.prog 117 [aw key,.nil,.sl 1 (bytesA box)] (.tup [.own 1 (bytesA (openD key [] box)),ai (openE key [] box)]) :=
 Ret.nils (open_ret key [] box) rfl (fun j x y hx hy=>by
  match j with
  | 0=>cases hx;cases hy;exact .inl rfl
  | 1=>cases hx;cases hy;exact .inr ⟨rfl,rfl⟩
  | 2=>cases hx;cases hy;exact .inl rfl
  | j+3=>simp at hx)
theorem refopenN_ret (key:UInt64) (box:List UInt8):Ret Tryz.prog 64 [aw key,.nil,.sl 1 (bytesA box)] (.tup [.own 1 (bytesA (openD key [] box)),ai (openE key [] box)]) :=
 Ret.nils (refopen_ret key [] box) rfl (fun j x y hx hy=>by
  match j with
  | 0=>cases hx;cases hy;exact .inl rfl
  | 1=>cases hx;cases hy;exact .inr ⟨rfl,rfl⟩
  | 2=>cases hx;cases hy;exact .inl rfl
  | j+3=>simp at hx)
theorem refsealN_ret (key nonce:UInt64) (text:List UInt8):Ret Tryz.prog 49 [aw key,aw nonce,.nil,.sl 1 (bytesA text)] (.tup [.own 1 (bytesA (sealD key nonce [] text)),ai (sealE [] text)]) :=
 Ret.nils (refseal_ret key nonce [] text) rfl (fun j x y hx hy=>by
  match j with
  | 0=>cases hx;cases hy;exact .inl rfl
  | 1=>cases hx;cases hy;exact .inl rfl
  | 2=>cases hx;cases hy;exact .inr ⟨rfl,rfl⟩
  | 3=>cases hx;cases hy;exact .inl rfl
  | j+4=>simp at hx)
end Go.Proofs.YtejpabdmiagnnaaGreatDoor
namespace Go.Proofs.YtejpabdmiagnnaaGreatDoor
theorem sq_pow (a k:Nat):(a*a)^k=a^(2*k):=by rw [Nat.pow_mul,Nat.pow_two]
theorem mul_powmod (Q b a k:Nat):b*(a%Q)^k%Q=b*a^k%Q:=by
 rw [Nat.mul_mod,←Nat.pow_mod,←Nat.mul_mod]
end Go.Proofs.YtejpabdmiagnnaaGreatDoor
