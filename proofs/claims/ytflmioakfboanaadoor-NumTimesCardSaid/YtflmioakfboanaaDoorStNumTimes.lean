import Derived.Test.YtflmioakfboanaaDoorPNumTimesx6
namespace Go.Proofs.YtflmioakfboanaaDoor.PNumTimes
open Go.RowKit Go.Proofs.YtflmioakfboanaaDoorW.PrintWords Go.Proofs.YtflmioakfboanaaDoorW.PrintLast
/-- The plain statement of the law: numbers and lists alone. -/
def marginalialaw01_NumTimes.Pure : Prop := ∀ (a0_0 : Bool) (l0_1 : List Int) (a1_0 : Bool) (l1_1 : List Int), l0_1.length ≤ maxLen → (∀ x ∈ l0_1, (Lit.int .u32 x).wf = true) → l1_1.length ≤ maxLen → (∀ x ∈ l1_1, (Lit.int .u32 x).wf = true) → ∃ k, marginalialaw01_NumTimes.f k a0_0 l0_1 a1_0 l1_1 = some true
end Go.Proofs.YtflmioakfboanaaDoor.PNumTimes
