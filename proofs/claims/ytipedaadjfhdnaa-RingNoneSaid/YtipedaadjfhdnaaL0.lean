/- What the functions that RingNone reaches answer, for every argument. No condition but those in each statement. -/
import Derived.Test.YtipedaadjfhdnaaN
import Derived.Test.YtipedaadjfhdnaaE4
set_option maxRecDepth 100000
namespace Go.Proofs.Ytipedaadjfhdnaa.G06
open Go Go.Proofs.Ytipedaadjfhdnaa.Eng
theorem known : (knows 12).Ok prog := knows_ok (n := 20) (by kernel_rfl)
end Go.Proofs.Ytipedaadjfhdnaa.G06

