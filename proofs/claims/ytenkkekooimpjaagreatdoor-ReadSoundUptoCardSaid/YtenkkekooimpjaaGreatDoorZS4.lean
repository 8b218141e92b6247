/-
 Part of a claim: definitions and lemmas that its theorem leans on, packed by wip/tools/pack.py.
-/
import Derived.Test.YtenkkekooimpjaaGreatDoorZS3
set_option linter.unusedVariables false
set_option linter.unusedSimpArgs false
section
namespace Go.Proofs.YtenkkekooimpjaaGreatDoor.readSound
open Go
theorem cj_inpl : (Rows.readSoundUptoRow.inPlace == Tryz.pinned.checked.prog.inPlace 9) = true := by kernel_rfl
theorem cj_unf : (Rows.readSoundUptoRow.unfollowed == Tryz.pinned.checked.prog.unfollowed 9) = true := by kernel_rfl
end Go.Proofs.YtenkkekooimpjaaGreatDoor.readSound
end
