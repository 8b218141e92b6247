-- By a program of this work (wip/tools/myprint.py over the kit's printer), with contracts of its own beside.
import Derived.Test.YtflmioakfboanaaDoorPNumTimesx0
import Derived.Test.YtflmioakfboanaaDoorPNumTimesx1
import Derived.Test.YtflmioakfboanaaDoorPNumTimesx2
import Derived.Test.YtflmioakfboanaaDoorPNumTimesx3
import Derived.Test.YtflmioakfboanaaDoorPNumTimesx4
import Derived.Test.YtflmioakfboanaaDoorPNumTimesx5
import Derived.Test.YtflmioakfboanaaDoorPNumTimesx6
namespace Go.Proofs.YtflmioakfboanaaDoor.PNumTimes
open Go.RowKit Go.Proofs.YtflmioakfboanaaDoorW.PrintWords Go.Proofs.YtflmioakfboanaaDoorW.PrintLast Go.Proofs.YtflmioakfboanaaDoorW.PrintMore
attribute [local go_sem] max2_int min2_int max_two min_two max_three min_three max_four min_four   -- for this text's walks alone
set_option linter.unusedVariables false
set_option linter.unusedSimpArgs false

end Go.Proofs.YtflmioakfboanaaDoor.PNumTimes
