/-
 Part of a claim: definitions and lemmas that its theorem leans on, packed by wip/tools/pack.py.
-/
import Derived.Test.YtenkkekooimpjaaGreatDoorZT3
set_option linter.unusedVariables false
set_option linter.unusedSimpArgs false
section
namespace Go.Proofs.YtenkkekooimpjaaGreatDoor.readSame
open Go
theorem cj_inpl : (Rows.readSameUptoRow.inPlace == Tryz.pinned.checked.prog.inPlace 7) = true := by kernel_rfl
theorem cj_unf : (Rows.readSameUptoRow.unfollowed == Tryz.pinned.checked.prog.unfollowed 7) = true := by kernel_rfl
end Go.Proofs.YtenkkekooimpjaaGreatDoor.readSame
end
