import Derived.Test.YtejpabdmiagnnaaGreatDoorZrCl
import Derived.Test.YtejpabdmiagnnaaGreatDoorZrSh6r
set_option linter.all false
namespace Go.Proofs.YtejpabdmiagnnaaGreatDoor
open Go.RowKit
theorem refsplit_ret (secret rnd:List UInt8) (need n:Int):Ret Tryz.prog 103 [.sl 1 (bytesA secret),.sl 1 (bytesA rnd),ai need,ai n] (.tup [.own 2 (encA shareC (splitL secret rnd need n)),ai (splitE secret rnd need n)]):=by
 rw [←rsplitL_eq];exact refsplit_raw secret rnd need n
end Go.Proofs.YtejpabdmiagnnaaGreatDoor
