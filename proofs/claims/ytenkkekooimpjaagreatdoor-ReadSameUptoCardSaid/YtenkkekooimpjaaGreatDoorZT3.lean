/-
 Part of a claim: definitions and lemmas that its theorem leans on, packed by wip/tools/pack.py.
-/
import Derived.Test.YtenkkekooimpjaaGreatDoorZT2
set_option linter.unusedVariables false
set_option linter.unusedSimpArgs false
section
namespace Go.Proofs.YtenkkekooimpjaaGreatDoor.readSame
open Go
theorem cj_laid : laidOutB Tryz.pinned.checked.prog = true := by kernel_rfl
theorem cj_maps : mapsRowed Tryz.pinned.checked.prog = true := by kernel_rfl
theorem cj_pk : (Rows.readSameUptoRow.plainKeys == Tryz.pinned.checked.prog.plainKeys) = true := by kernel_rfl
theorem cj_sh : Tryz.pinned.checked.prog.stopsHeard = true := by kernel_rfl
end Go.Proofs.YtenkkekooimpjaaGreatDoor.readSame
end
