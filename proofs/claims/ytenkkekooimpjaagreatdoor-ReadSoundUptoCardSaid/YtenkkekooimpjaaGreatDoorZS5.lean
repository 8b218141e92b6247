/-
 Part of a claim: definitions and lemmas that its theorem leans on, packed by wip/tools/pack.py.
-/
import Derived.Test.YtenkkekooimpjaaGreatDoorZS4
set_option linter.unusedVariables false
set_option linter.unusedSimpArgs false
section
namespace Go.Proofs.YtenkkekooimpjaaGreatDoor.readSound
open Go
theorem cj_rec : (Rows.readSoundUptoRow.recurses == Tryz.pinned.checked.prog.recurses 9) = true := by kernel_rfl
theorem cj_vn : (Rows.readSoundUptoRow.named == Tryz.pinned.checked.prog.varsNamed 9) = true := by kernel_rfl
end Go.Proofs.YtenkkekooimpjaaGreatDoor.readSound
end
