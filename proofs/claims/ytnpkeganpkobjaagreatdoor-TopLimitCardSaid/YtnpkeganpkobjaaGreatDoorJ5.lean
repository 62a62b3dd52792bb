import Derived.Test.YtnpkeganpkobjaaGreatDoorYD
import Derived.JoinedOf
import Derived.KernelRfl
set_option linter.all false
namespace Go.Proofs.YtnpkeganpkobjaaGreatDoor.topLimit
open Go
set_option maxRecDepth 100000
theorem k11 : ((c.recurses == P.recurses f)) = true := by kernel_rfl
end Go.Proofs.YtnpkeganpkobjaaGreatDoor.topLimit
