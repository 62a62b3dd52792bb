import Derived.Test.YtnpkeganpkobjaaGreatDoorYD
import Derived.JoinedOf
import Derived.KernelRfl
set_option linter.all false
namespace Go.Proofs.YtnpkeganpkobjaaGreatDoor.topLimit
open Go
set_option maxRecDepth 100000
theorem k9 : ((c.inPlace == P.inPlace f)) = true := by kernel_rfl
end Go.Proofs.YtnpkeganpkobjaaGreatDoor.topLimit
