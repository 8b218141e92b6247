/-
  The statement of the law NumTimes: for every input that can be read as data the call returns true, and each argument reads behind the call as it read before.  The tied card: the listed variables stand as the program's text lays them.
-/
import Derived.Test.YtflmioakfboanaaDoorRows
import Derived.Test.YtflmioakfboanaaDoorStNumTimes
import Derived.Test.YtflmioakfboanaaDoorPureNumTimes
import Derived.Test.YtflmioakfboanaaDoorOpn
import Derived.Test.YtflmioakfboanaaDoorTie
import Derived.Test.YtflmioakfboanaaDoorCards
import Derived.WalkKit
import Derived.ProofKit
import Derived.OpenShut
import Derived.ShutString
import Derived.ChangeOld
import Derived.Below
import Derived.SizedLaws
import Derived.LaidMore
import Derived.LaidLaws
import Derived.Lib.SmallJoins
import Derived.Stop.Joined
import Derived.SevenTiedAt
import Derived.Lib.LaidTab
import Derived.Test.YtflmioakfboanaaDoorWSized
set_option linter.unusedVariables false
namespace Go.Proofs.YtflmioakfboanaaDoor.numTimes
open Go.ChangeShapes Go.WideShapes Go.ChangeAt Go.RowKit Go.Joins
open Go.ChangeMaps (open_string shut_string)
open Go.Proofs.YtflmioakfboanaaDoorW
theorem own : ownKnob Tryd.prog.godebug = none := by kernel_rfl
theorem laidOut : laidOutB Tryd.prog = true := by kernel_rfl
set_option maxRecDepth 100000 in
theorem door_met (os : Os) (args : Array Value) : laidMetH Tryd.prog Rows.numTimesRow.laid ((World.doorLaid Tryd.prog 400 os).forCall (fun _ _ => 0) ⟨#[], args, []⟩).memory :=
  laidMetH_of_parts3 (fuel := 8) (laidMet_of_run' 8 (by kernel_rfl) (by kernel_rfl)) (by kernel_rfl) (by kernel_rfl)
set_option maxRecDepth 100000 in
theorem lifted (os : Os) (started : os.Started) (H : Type) (enc : TypeId × Value → H) :
    ReturnsInHanded {} Tryd.checked os 3 .any (fun w args => (Rows.numTimesSpec.pre enc Tryd.prog Tryd.f3 Rows.numTimesRow.domain false w args ∧ laidMetH Tryd.prog Rows.numTimesRow.laid w) ∧ sizedMet enc Tryd.prog Tryd.f3 (OpenSpec.ofChange Rows.numTimesSpec) false w args)
      (Rows.numTimesSpec.post enc Tryd.prog Tryd.f3 false true false false) := by
  refine returnsInHanded_of_change_and (C := Tryd.checked) (X := fun w _ => laidMetH Tryd.prog Rows.numTimesRow.laid w) (fun _ _ _ hh h => h.of_heap hh) own started (by kernel_rfl) Tryd.func3
    (ChangeSpec.witness_shaped (enc := enc) (C := Tryd.checked) (os := os) (X := fun w _ => laidMetH Tryd.prog Rows.numTimesRow.laid w) false (World.doorLaid Tryd.prog 400 os) #[.agg #[.bool false, .slice none 0 0], .agg #[.bool false, .slice none 0 0]] 8 rfl (World.shaped_of_RefB (by kernel_rfl) (by kernel_rfl)) (by kernel_rfl) (by kernel_rfl) (by kernel_rfl) (door_met os _)) ?_
  intro W base args ds gs before hval0 hW hcnd hsz0 hL _
  have hsz : (DataW.weightsEach Tryd.prog (Tryd.f3.params.toList ++ Rows.numTimesSpec.plain.varTypes Tryd.prog) (ds ++ gs)).all (· ≤ reachBytes) = true := hsz0
  have hval : ∀ (j : Nat) t v, Tryd.f3.params[j]? = some t → args[j]? = some v → Value.okWide Tryd.prog W .any base t v := hval0
  have hW' := hW
  obtain ⟨p, q, hA0, hV, rfl, hfz, hnd⟩ := hW
  have hA : DataW.TrodAll enc Tryd.prog W 0 (fun _ => true) true Tryd.f3.params.toList args.toList ds p := hA0
  rw [Tryd.params3] at hA hval hsz
  obtain ⟨v0, vs0, d0, ds0, p0, q0, hargs, rfl, rfl, h0, r0⟩ := trodAll_cons hA
  obtain ⟨v1, vs1, d1, ds1, p1, q1, rfl, rfl, rfl, h1, r1⟩ := trodAll_cons r0
  obtain ⟨rfl, rfl, rfl⟩ := trodAll_nil r1
  obtain rfl : args = #[v0, v1] := by cases args; simp_all
  obtain ⟨rfl, rfl⟩ := trodVars_none hV
  have k0 := h0
  have lt0 : ∀ x ∈ p0, x.block < W.heap.size := by obtain ⟨m, hm⟩ := k0; exact DataW.trod_lt m _ _ _ hm
  obtain ⟨v0_0, v0_1, y0_0, y0_1, m0, rfl, rfl, rfl, t0_0, t0_1⟩ := open_agg2 Tryd.underlying24 (by kernel_rfl) (by kernel_rfl) (hval 0 24 v0 rfl rfl) h0
  obtain ⟨a0_0, e0_0, _⟩ := DataW.trod_bool Tryd.underlying4 t0_0
  obtain rfl : v0_0 = .bool a0_0 := by simpa using e0_0
  obtain ⟨A0_1, l0_1, c0_1, rfl, hr0_1, hc0_1, hm0_1, hw0_1⟩ := Opn.ints Tryd.underlying22 Tryd.underlying48 (by kernel_rfl) t0_1
  have k1 := h1
  have lt1 : ∀ x ∈ p1, x.block < W.heap.size := by obtain ⟨m, hm⟩ := k1; exact DataW.trod_lt m _ _ _ hm
  obtain ⟨v1_0, v1_1, y1_0, y1_1, m1, rfl, rfl, rfl, t1_0, t1_1⟩ := open_agg2 Tryd.underlying24 (by kernel_rfl) (by kernel_rfl) (hval 1 24 v1 rfl rfl) h1
  obtain ⟨a1_0, e1_0, _⟩ := DataW.trod_bool Tryd.underlying4 t1_0
  obtain rfl : v1_0 = .bool a1_0 := by simpa using e1_0
  obtain ⟨A1_1, l1_1, c1_1, rfl, hr1_1, hc1_1, hm1_1, hw1_1⟩ := Opn.ints Tryd.underlying22 Tryd.underlying48 (by kernel_rfl) t1_1
  clear hA0 hval0 hsz0 hsz
  obtain ⟨k, hk⟩ := Pure.NumTimes a0_0 l0_1 a1_0 l1_1 hm0_1 hw0_1 hm1_1 hw1_1
  refine (PNumTimes.marginalialaw01_NumTimes.calls k a0_0 _ _ l0_1 a1_0 _ _ l1_1 true W hr0_1 hc0_1 hr1_1 hc1_1 hk).mono fun e W' ⟨he, bel0⟩ => ?_
  have bel : Below W.heap.size W W' := bel0
  subst he
  exact ⟨_, rfl, _, _, _, [], _, [], hW', trodAll_mk1 (shut_bool Tryd.underlying4 _), (trodAll_cons_mk (Below.trod laidOut (by kernel_rfl) (of_decide_eq_true (by kernel_rfl)) k0 bel lt0) (trodAll_cons_mk (Below.trod laidOut (by kernel_rfl) (of_decide_eq_true (by kernel_rfl)) k1 bel lt1) trodAll_mk0)), rfl, bel.frame _, fun h => by cases h⟩
theorem over : Rows.numTimesRow.holds Tryd.pinned (OpenSpec.ofChange Rows.numTimesSpec) :=
  OpenClaim.holds_of_wide 3 Tryd.f3 rfl rfl rfl rfl rfl rfl rfl ⟨rfl, rfl, rfl, rfl, rfl⟩ rfl rfl rfl rfl rfl (by kernel_rfl) Tryd.func3 (by kernel_rfl)
    (of_decide_eq_true (by kernel_rfl)) (by unfold Func.isWrapper; first | (rw [if_pos (by decide +kernel)]; kernel_rfl) | (rw [if_neg (by decide +kernel)]; exact ⟨rfl, rfl⟩))
    (fun os started H enc _ => lifted os started H enc)
theorem proved : Rows.NumTimesCardSaid :=
  Claim7.holds_tied_plain_at .later [] [.data, .data, .data] true (true, "c882deb6c08a6e4fc319056acccbaaa87bfe25e16c1c8d476e088865a2e3e750") true
    over (fun _ h => by cases h) (by kernel_rfl) (fun _ h => by cases h) numTimes_row_tie rfl ⟨rfl, rfl⟩ (by kernel_rfl) rfl
    (fun f fn hf hfn => by
      obtain rfl : f = 3 := Option.some.inj ((show Tryd.prog.funcNamed "marginalia/marginalialaw01.NumTimes" = some 3 by kernel_rfl).symm.trans hf) |>.symm
      obtain rfl : fn = Tryd.f3 := (Option.some.inj (Tryd.func3.symm.trans hfn)).symm
      exact ⟨by kernel_rfl, fun j t ht => by
        rw [Tryd.params3] at ht
        have hm : t ∈ [24, 24] := by simpa using Array.mem_of_getElem? ht
        have hall : ([24, 24].all fun u => !Tryd.prog.wantsStandIn u) = true := by kernel_rfl
        exact (show Tryd.prog.wantsStandIn t = false by simpa using List.all_eq_true.1 hall t hm)⟩)
    (by kernel_rfl)
#print axioms proved
end Go.Proofs.YtflmioakfboanaaDoor.numTimes
namespace Go.Proofs.YtflmioakfboanaaDoor
theorem numTimes_holds : Rows.NumTimesCardSaid := numTimes.proved
end Go.Proofs.YtflmioakfboanaaDoor
