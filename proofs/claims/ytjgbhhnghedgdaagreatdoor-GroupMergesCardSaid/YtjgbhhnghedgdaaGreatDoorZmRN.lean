import Derived.Test.YtjgbhhnghedgdaaGreatDoorZmRF
import Derived.MapKept
set_option linter.all false
namespace Go.Proofs.YtjgbhhnghedgdaaGreatDoor
open Go.RowKit
section
variable {P:Program} {n:Nat} {c:Code}
def RJ:Code->Option (TypeId×Nat×Nat)
 | .region _ ⟨[⟨some d,.makeMap t none,_,_,_,none⟩,⟨some e,.assign (.tmp d'),_,_,_,none⟩]⟩ false=>if d'=d then some (t,d,e) else none
 | _=>none
def Ba:Code->Option (TypeId×Nat×Nat×Nat×Nat×Nat)
 | .region _ ⟨[⟨some d1,.move (.tmp m),_,_,_,none⟩,⟨some d2,.move (.tmp k),_,_,_,none⟩,⟨some d3,.lookup t (.tmp e1) (.tmp e2) false,_,_,_,none⟩]⟩ false=>if e1=d1∧e2=d2∧d1≠d2∧d1≠k then some (t,m,k,d1,d2,d3) else none
 | _=>none
end
end Go.Proofs.YtjgbhhnghedgdaaGreatDoor
