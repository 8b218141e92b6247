/-
 Part of a claim: definitions and lemmas that its theorem leans on, packed by wip/tools/pack.py.
-/
import Derived.Test.YtenkkekooimpjaaGreatDoorZT11
set_option linter.unusedVariables false
set_option linter.unusedSimpArgs false
section
set_option linter.unusedVariables false
namespace Go.Proofs.YtenkkekooimpjaaGreatDoor.readSame
open Go.ChangeShapes Go.WideShapes Go.ChangeAt Go.RowKit Go.Joins
theorem proved : Rows.ReadSameUptoCardSaid :=
 Claim7.holds_tied_plain_at .later [] [.data, .data, .data, .data, .sentinel, .sentinel, .data, .data, .pinned] true (true, "599665cc979de442e69c142b75cdfbabafec359deacebc3d3842f03d6df96406") true
  over (fun _ h => by cases h) (by kernel_rfl) (fun _ h => by cases h) readSameUpto_row_tie rfl ⟨rfl, rfl⟩ (by kernel_rfl) rfl
  (fun f fn hf hfn => by
   obtain rfl : f = 7 := Option.some.inj ((show Tryz.prog.funcNamed "marginalia/marginalialaw04.ReadSame" = some 7 by kernel_rfl).symm.trans hf) |>.symm
   obtain rfl : fn = Tryz.f7 := (Option.some.inj (Tryz.func7.symm.trans hfn)).symm
   exact ⟨by kernel_rfl, fun j t ht => by
    rw [Tryz.params7] at ht
    have hm : t ∈ [33, 33, 3] := by simpa using Array.mem_of_getElem? ht
    have hall : ([33, 33, 3].all fun u => !Tryz.prog.wantsStandIn u) = true := by kernel_rfl
    exact (show Tryz.prog.wantsStandIn t = false by simpa using List.all_eq_true.1 hall t hm)⟩)
  (by kernel_rfl)
end Go.Proofs.YtenkkekooimpjaaGreatDoor.readSame
namespace Go.Proofs.YtenkkekooimpjaaGreatDoor
theorem readSameUpto_holds : Rows.ReadSameUptoCardSaid := readSame.proved
end Go.Proofs.YtenkkekooimpjaaGreatDoor
end
