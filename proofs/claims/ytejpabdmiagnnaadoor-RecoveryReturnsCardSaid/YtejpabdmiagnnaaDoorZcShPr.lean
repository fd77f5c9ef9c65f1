import Derived.Test.YtejpabdmiagnnaaDoorZcCl
import Derived.Test.YtejpabdmiagnnaaDoorZcSh6r
set_option linter.all false
namespace Go.Proofs.YtejpabdmiagnnaaDoor
open Go.RowKit
theorem refsplit_ret (secret rnd:List UInt8) (need n:Int):Ret Tryd.prog 42 [.sl 1 (bytesA secret),.sl 1 (bytesA rnd),ai need,ai n] (.tup [.own 2 (encA shareC (splitL secret rnd need n)),ai (splitE secret rnd need n)]):=by
 rw [←rsplitL_eq];exact refsplit_raw secret rnd need n
end Go.Proofs.YtejpabdmiagnnaaDoor
