/-
  Part of a claim: definitions and lemmas that its theorem leans on, packed by wip/tools/pack.py.
-/
import Derived.Test.YtflmioakfboanaaDoorZDv3
import Derived.Test.YtflmioakfboanaaDoorRows
import Derived.Test.YtflmioakfboanaaDoorTie
import Derived.Test.YtflmioakfboanaaDoorCards
import Derived.ProofKit
import Derived.ShutString
import Derived.LaidMore
import Derived.LaidLaws
import Derived.Stop.Joined
import Derived.SevenTiedAt
set_option linter.unusedVariables false
set_option linter.unusedSimpArgs false
section
set_option linter.unusedVariables false
set_option maxRecDepth 100000
namespace Go.Proofs.YtflmioakfboanaaDoor.Ev
open Go
def law01_NumDivides_lv : List Nat → Keep := lvOf []
def law01_NumDivides_H (R : TV → List Ob → Prop) (a0 : Bool) (a1 : List (List FV)) (b0 : Bool) (b1 : List (List FV)) : Prop :=
  (∃ b19 : Bool, ((Fn Tryd.prog 12 [] [] (TV.one (AV.fz (FV.bool b19))) []) ∧ ((((Bool.not b19) = true) → (∃ b20 : Bool, ((Fn Tryd.prog 12 [] [] (TV.one (AV.fz (FV.bool b20))) []) ∧ (R (TV.one (AV.fz (FV.bool b20))) [])))) ∧ (((Bool.not b19) = false) → (∃ b21 : Bool, ((Fn Tryd.prog 13 [(TV.agg [(AV.fz (FV.bool a0)), (AV.fz (FV.sl 1 a1))])] [] (TV.one (AV.fz (FV.bool b21))) []) ∧ ((((Bool.not b21) = true) → (∃ b22 : Bool, ((Fn Tryd.prog 12 [] [] (TV.one (AV.fz (FV.bool b22))) []) ∧ (R (TV.one (AV.fz (FV.bool b22))) [])))) ∧ (((Bool.not b21) = false) → (∃ b23 : Bool, ((Fn Tryd.prog 13 [(TV.agg [(AV.fz (FV.bool b0)), (AV.fz (FV.sl 1 b1))])] [] (TV.one (AV.fz (FV.bool b23))) []) ∧ ((((Bool.not b23) = true) → (∃ b24 : Bool, ((Fn Tryd.prog 12 [] [] (TV.one (AV.fz (FV.bool b24))) []) ∧ (R (TV.one (AV.fz (FV.bool b24))) [])))) ∧ (((Bool.not b23) = false) → (∃ b25 : Bool, (∃ es10 : List (List FV), ((Fn Tryd.prog 15 [(TV.agg [(AV.fz (FV.bool a0)), (AV.fz (FV.sl 1 a1))])] [] (TV.agg [(AV.fz (FV.bool b25)), (AV.fz (FV.sl 1 es10))]) []) ∧ (∃ b26 : Bool, (∃ es11 : List (List FV), ((Fn Tryd.prog 15 [(TV.agg [(AV.fz (FV.bool b0)), (AV.fz (FV.sl 1 b1))])] [] (TV.agg [(AV.fz (FV.bool b26)), (AV.fz (FV.sl 1 es11))]) []) ∧ (∃ b27 : Bool, (∃ es12 : List (List FV), (∃ b28 : Bool, (∃ es13 : List (List FV), (∃ n4 : Int, ((Fn Tryd.prog 25 [(TV.agg [(AV.fz (FV.bool b25)), (AV.fz (FV.sl 1 es10))]), (TV.agg [(AV.fz (FV.bool b26)), (AV.fz (FV.sl 1 es11))])] [] (TV.tup [(true, [(AV.fz (FV.bool b27)), (AV.fz (FV.sl 1 es12))]), (true, [(AV.fz (FV.bool b28)), (AV.fz (FV.sl 1 es13))]), (false, [(AV.fz (FV.int .i64 n4))])]) []) ∧ (∃ b29 : Bool, (∃ es14 : List (List FV), (∃ b30 : Bool, (∃ es15 : List (List FV), (∃ n5 : Int, ((Fn Tryd.prog 26 [(TV.agg [(AV.fz (FV.bool a0)), (AV.fz (FV.sl 1 a1))]), (TV.agg [(AV.fz (FV.bool b0)), (AV.fz (FV.sl 1 b1))])] [] (TV.tup [(true, [(AV.fz (FV.bool b29)), (AV.fz (FV.sl 1 es14))]), (true, [(AV.fz (FV.bool b30)), (AV.fz (FV.sl 1 es15))]), (false, [(AV.fz (FV.int .i64 n5))])]) []) ∧ (∃ b31 : Bool, (∃ es16 : List (List FV), ((Fn Tryd.prog 15 [(TV.agg [(AV.fz (FV.bool a0)), (AV.fz (FV.sl 1 a1))])] [] (TV.agg [(AV.fz (FV.bool b31)), (AV.fz (FV.sl 1 es16))]) []) ∧ (∃ b32 : Bool, (∃ es17 : List (List FV), ((Fn Tryd.prog 15 [(TV.agg [(AV.fz (FV.bool b0)), (AV.fz (FV.sl 1 b1))])] [] (TV.agg [(AV.fz (FV.bool b32)), (AV.fz (FV.sl 1 es17))]) []) ∧ (∃ b33 : Bool, (∃ es18 : List (List FV), (∃ n6 : Int, ((Fn Tryd.prog 27 [(TV.agg [(AV.fz (FV.bool b31)), (AV.fz (FV.sl 1 es16))]), (TV.agg [(AV.fz (FV.bool b32)), (AV.fz (FV.sl 1 es17))])] [] (TV.tup [(true, [(AV.fz (FV.bool b33)), (AV.fz (FV.sl 1 es18))]), (false, [(AV.fz (FV.int .i64 n6))])]) []) ∧ (∃ b34 : Bool, (∃ es19 : List (List FV), (∃ n7 : Int, ((Fn Tryd.prog 28 [(TV.agg [(AV.fz (FV.bool a0)), (AV.fz (FV.sl 1 a1))]), (TV.agg [(AV.fz (FV.bool b0)), (AV.fz (FV.sl 1 b1))])] [] (TV.tup [(true, [(AV.fz (FV.bool b34)), (AV.fz (FV.sl 1 es19))]), (false, [(AV.fz (FV.int .i64 n7))])]) []) ∧ (∃ b35 : Bool, ((Fn Tryd.prog 17 [(TV.agg [(AV.fz (FV.bool b27)), (AV.fz (FV.sl 1 es12))]), (TV.agg [(AV.fz (FV.bool b29)), (AV.fz (FV.sl 1 es14))])] [] (TV.one (AV.fz (FV.bool b35))) []) ∧ (((b35 = true) → (∃ b36 : Bool, ((Fn Tryd.prog 17 [(TV.agg [(AV.fz (FV.bool b28)), (AV.fz (FV.sl 1 es13))]), (TV.agg [(AV.fz (FV.bool b30)), (AV.fz (FV.sl 1 es15))])] [] (TV.one (AV.fz (FV.bool b36))) []) ∧ (((b36 = true) → ((((n4 == n5) = true) → (∃ b37 : Bool, ((Fn Tryd.prog 17 [(TV.agg [(AV.fz (FV.bool b33)), (AV.fz (FV.sl 1 es18))]), (TV.agg [(AV.fz (FV.bool b34)), (AV.fz (FV.sl 1 es19))])] [] (TV.one (AV.fz (FV.bool b37))) []) ∧ (((b37 = true) → (R (TV.one (AV.fz (FV.bool (n6 == n7)))) [])) ∧ ((b37 = false) → (R (TV.one (AV.fz (FV.bool false))) [])))))) ∧ (((n4 == n5) = false) → (R (TV.one (AV.fz (FV.bool false))) [])))) ∧ ((b36 = false) → (R (TV.one (AV.fz (FV.bool false))) [])))))) ∧ ((b35 = false) → (R (TV.one (AV.fz (FV.bool false))) [])))))))))))))))))))))))))))))))))))))))))))))))))
theorem law01_NumDivides_fn (a0 : Bool) (a1 : List (List FV)) (b0 : Bool) (b1 : List (List FV)) {r : TV} {h : List Ob} (H : law01_NumDivides_H (fun r' h' => r' = r ∧ h' = h) a0 a1 b0 b1) : Fn Tryd.prog 6 [(TV.agg [(AV.fz (FV.bool a0)), (AV.fz (FV.sl 1 a1))]), (TV.agg [(AV.fz (FV.bool b0)), (AV.fz (FV.sl 1 b1))])] [] r h :=
  Fn.by_tr (M := (modeOf [] [])) (lv := law01_NumDivides_lv) (own := none) (F := Tryd.f6) (by kernel_rfl) (by kernel_rfl) (by first | decide | simp) (by kernel_rfl) H
end Go.Proofs.YtflmioakfboanaaDoor.Ev
end
section
set_option linter.unusedVariables false
namespace Go.Proofs.YtflmioakfboanaaDoor.Ev
open Go
theorem law_NumDivides (xs : List TV) (h : TyAll Tryd.prog [24, 24] xs) : Fn Tryd.prog 6 xs [] (.one (.fz (.bool true))) [] := by
  cases h with
  | cons h1 h =>
  cases h with
  | cons h2 h =>
  cases h
  obtain ⟨a, la, rfl, ha, la1⟩ := tyV_Int h1
  obtain ⟨b, lb, rfl, hb, lb1⟩ := tyV_Int h2
  refine law01_NumDivides_fn _ _ _ _ ?_
  unfold law01_NumDivides_H
  refine ⟨_, answers_ok, by simp, fun _ => ⟨_, light_ok a la, ?_⟩⟩
  rw [not_t, not_f]
  refine ⟨fun _ => ⟨_, answers_ok, rfl, rfl⟩, fun hl => ⟨_, light_ok b lb, ?_⟩⟩
  rw [not_t, not_f]
  refine ⟨fun _ => ⟨_, answers_ok, rfl, rfl⟩, fun hm => ?_⟩
  have l1 : la.length ≤ 100000 := by simp at hl; omega
  have l2 : lb.length ≤ 100000 := by simp at hm; omega
  have e1 := dvQ_len (a := a) (b := b) ha hb
  have e2 := dvR_len (a := a) (b := b) ha hb
  have e3 := mdZ_len (a := a) (b := b) ha hb
  refine ⟨_, _, own_ok a la la1, _, _, own_ok b lb lb1, _, _, _, _, _, divide_ok a b la lb ha hb l1 l2, _, _, _, _, _, rdivide_ok a b la lb ha hb l1 l2, _, _, own_ok a la la1, _, _, own_ok b lb lb1,
    _, _, _, modulo_ok a b la lb ha hb l1 l2, _, _, _, rmodulo_ok a b la lb ha hb l1 l2, _, same_ok _ _ _ _ (by omega), fun _ => ⟨_, same_ok _ _ _ _ (by omega), fun _ => ⟨fun _ => ⟨_, same_ok _ _ _ _ (by omega), fun _ => ?_, fun h => ?_⟩, fun h => ?_⟩, fun h => ?_⟩, fun h => ?_⟩
  · simp
  · simp at h
  · simp at h
  · simp at h
  · simp at h
end Go.Proofs.YtflmioakfboanaaDoor.Ev
end
section
set_option linter.unusedVariables false
namespace Go.Proofs.YtflmioakfboanaaDoor.numDivides
open Go.ChangeShapes Go.WideShapes Go.ChangeAt Go.RowKit Go.Joins
open Go.Proofs.YtflmioakfboanaaDoor.Ev (Ty TyAll TabAt Glob tabs closedB openedAll trodAll_below tabAt_ints_of tabAt_ifc_of law_NumDivides)
theorem own : ownKnob Tryd.prog.godebug = none := by kernel_rfl
theorem laidOut : laidOutB Tryd.prog = true := by kernel_rfl
set_option maxRecDepth 100000 in
theorem door_met (os : Os) (args : Array Value) : laidMetH Tryd.prog Rows.numDividesRow.laid ((World.doorLaid Tryd.prog 400 os).forCall (fun _ _ => 0) ⟨#[], args, []⟩).memory :=
  laidMetH_of_parts3 (fuel := 8) (laidMet_of_run' 8 (by kernel_rfl) (by kernel_rfl)) (by kernel_rfl) (by kernel_rfl)
set_option maxRecDepth 100000 in
theorem glob {W : World} (hL : laidMetH Tryd.prog Rows.numDividesRow.laid W) : Glob W := by
  have hM : laidMet Tryd.prog Rows.numDividesRow.laid W := Eq.mp (by kernel_rfl) hL
  intro x hx
  simp only [tabs, List.mem_cons, List.mem_nil_iff, or_false] at hx
  rcases hx with rfl
  · have h := tabAt_ints_of (n := "internal/strconv.uint64pow10") (k := .u64) (zs := (List.range 20).map fun i => ((10 ^ i : Nat) : Int)) hM (List.mem_of_getElem? (i := 2) (by kernel_rfl)) (g := 2) (t := 138) (by kernel_rfl) (by kernel_rfl) Tryd.underlying138 Tryd.underlying49 (by kernel_rfl) (by kernel_rfl)
    rw [List.map_map] at h
    exact h
set_option maxRecDepth 100000 in
theorem lifted (os : Os) (started : os.Started) (H : Type) (enc : TypeId × Value → H) :
    ReturnsInHanded {} Tryd.checked os 6 .any (fun w args => (Rows.numDividesSpec.pre enc Tryd.prog Tryd.f6 Rows.numDividesRow.domain false w args ∧ laidMetH Tryd.prog Rows.numDividesRow.laid w) ∧ sizedMet enc Tryd.prog Tryd.f6 (OpenSpec.ofChange Rows.numDividesSpec) false w args)
      (Rows.numDividesSpec.post enc Tryd.prog Tryd.f6 false true false false) := by
  refine returnsInHanded_of_change_and (C := Tryd.checked) (X := fun w _ => laidMetH Tryd.prog Rows.numDividesRow.laid w) (fun _ _ _ hh h => h.of_heap hh) own started (by kernel_rfl) Tryd.func6
    (ChangeSpec.witness_shaped (enc := enc) (C := Tryd.checked) (os := os) (X := fun w _ => laidMetH Tryd.prog Rows.numDividesRow.laid w) false (World.doorLaid Tryd.prog 400 os) #[.agg #[.bool false, .slice none 0 0], .agg #[.bool false, .slice none 0 0]] 8 rfl (World.shaped_of_RefB (by kernel_rfl) (by kernel_rfl)) (by kernel_rfl) (by kernel_rfl) (by kernel_rfl) (door_met os _)) ?_
  intro W base args ds gs before hval0 hW hcnd hsz0 hL _
  have hsz : (DataW.weightsEach Tryd.prog (Tryd.f6.params.toList ++ Rows.numDividesSpec.plain.varTypes Tryd.prog) (ds ++ gs)).all (· ≤ reachBytes) = true := hsz0
  have hval : ∀ (j : Nat) t v, Tryd.f6.params[j]? = some t → args[j]? = some v → Value.okWide Tryd.prog W .any base t v := hval0
  have hW' := hW
  obtain ⟨p, q, hA0, hV, rfl, hfz, hnd⟩ := hW
  have hA : DataW.TrodAll enc Tryd.prog W 0 (fun _ => true) true Tryd.f6.params.toList args.toList ds p := hA0
  rw [Tryd.params6] at hA hval hsz
  obtain ⟨rfl, rfl⟩ := trodVars_none hV
  have hA2 := hA
  obtain ⟨v0, vs0, d0, ds0, p0, q0, hargs, rfl, rfl, h0_, r0⟩ := trodAll_cons hA2
  obtain ⟨v1, vs1, d1, ds1, p1, q1, rfl, rfl, rfl, h1_, r1⟩ := trodAll_cons r0
  obtain ⟨rfl, rfl, rfl⟩ := trodAll_nil r1
  obtain ⟨xs, h1, h2, h3⟩ := openedAll (S := [24, 4, 22, 48]) (ts := [24, 24]) (by kernel_rfl) (by decide) (fun j t v ht hv => hval j t v (by simpa using ht) (by simpa using hv)) hA (fun m hm => by simpa using List.all_eq_true.1 hsz m hm)
  refine ((law_NumDivides xs h1).door (glob hL) (by simpa using h2) (fun i x hx => by obtain ⟨v, hv, hr⟩ := h3 i x hx; exact ⟨v, by simpa using hv, hr⟩)).mono fun e W' ⟨he, bel⟩ => ?_
  subst he
  exact ⟨_, rfl, _, _, _, [], _, [], hW', trodAll_mk1 (shut_bool Tryd.underlying4 _), trodAll_below laidOut bel (ts := [24, 24]) (by decide +kernel) hA, rfl, bel.frame _, fun h => by cases h⟩
theorem over : Rows.numDividesRow.holds Tryd.pinned (OpenSpec.ofChange Rows.numDividesSpec) :=
  OpenClaim.holds_of_wide 6 Tryd.f6 rfl rfl rfl rfl rfl rfl rfl ⟨rfl, rfl, rfl, rfl, rfl⟩ rfl rfl rfl rfl rfl (by kernel_rfl) Tryd.func6 (by kernel_rfl)
    (of_decide_eq_true (by kernel_rfl)) (by unfold Func.isWrapper; first | (rw [if_pos (by decide +kernel)]; kernel_rfl) | (rw [if_neg (by decide +kernel)]; exact ⟨rfl, rfl⟩))
    (fun os started H enc _ => lifted os started H enc)
theorem proved : Rows.NumDividesCardSaid :=
  Claim7.holds_tied_plain_at .later [] [.data, .data, .data] true (true, "c882deb6c08a6e4fc319056acccbaaa87bfe25e16c1c8d476e088865a2e3e750") true
    over (fun _ h => by cases h) (by kernel_rfl) (fun _ h => by cases h) numDivides_row_tie rfl ⟨rfl, rfl⟩ (by kernel_rfl) rfl
    (fun f fn hf hfn => by
      obtain rfl : f = 6 := Option.some.inj ((show Tryd.prog.funcNamed "marginalia/marginalialaw01.NumDivides" = some 6 by kernel_rfl).symm.trans hf) |>.symm
      obtain rfl : fn = Tryd.f6 := (Option.some.inj (Tryd.func6.symm.trans hfn)).symm
      exact ⟨by kernel_rfl, fun j t ht => by
        rw [Tryd.params6] at ht
        have hm : t ∈ [24, 24] := by simpa using Array.mem_of_getElem? ht
        have hall : ([24, 24].all fun u => !Tryd.prog.wantsStandIn u) = true := by kernel_rfl
        exact (show Tryd.prog.wantsStandIn t = false by simpa using List.all_eq_true.1 hall t hm)⟩)
    (by kernel_rfl)
end Go.Proofs.YtflmioakfboanaaDoor.numDivides
namespace Go.Proofs.YtflmioakfboanaaDoor
theorem numDivides_holds : Rows.NumDividesCardSaid := numDivides.proved
end Go.Proofs.YtflmioakfboanaaDoor
end
