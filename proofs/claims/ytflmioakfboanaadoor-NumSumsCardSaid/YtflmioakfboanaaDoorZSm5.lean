/-
  Part of a claim: definitions and lemmas that its theorem leans on, packed by wip/tools/pack.py.
-/
import Derived.Test.YtflmioakfboanaaDoorZSm4
set_option linter.unusedVariables false
set_option linter.unusedSimpArgs false
section
namespace Go.Proofs.YtflmioakfboanaaDoor.PNumSums
open Go.Proofs.YtflmioakfboanaaDoor.Sq
open Go.RowKit Go.Proofs.YtflmioakfboanaaDoorW.PrintWords Go.Proofs.YtflmioakfboanaaDoorW.PrintLast Go.Proofs.YtflmioakfboanaaDoorW.PrintMore
set_option linter.unusedVariables false
set_option linter.unusedSimpArgs false
def marginalialaw01_NumSums.j0 : Nat → Bool → Bool → List Int → Bool → List Int → Option (Bool)
  | 0, _, _, _, _, _ => none
  | k + 1, x24, x377000, x377001, x378000, x378001 => if x24 = true then ((marginalialaw01_answers.f).bind fun t381 => (some t381)) else ((marginalialaw01_own.f x377000 x377001).bind fun bt382 => ((marginalialaw01_own.f x378000 x378001).bind fun bt386 => ((num_Add.f k bt382.1 bt382.2 bt386.1 bt386.2).bind fun bt390 => ((marginaliaref01_Add.f k x377000 x377001 x378000 x378001).bind fun bt396 => ((marginalialaw01_own.f x377000 x377001).bind fun bt402 => ((marginalialaw01_own.f x378000 x378001).bind fun bt406 => ((num_Sub.f k bt402.1 bt402.2 bt406.1 bt406.2).bind fun bt410 => ((marginaliaref01_Sub.f k x377000 x377001 x378000 x378001).bind fun bt416 => ((marginalialaw01_own.f x377000 x377001).bind fun bt422 => ((marginalialaw01_own.f x378000 x378001).bind fun bt426 => ((num_Cmp.f k bt422.1 bt422.2 bt426.1 bt426.2).bind fun t430 => ((marginaliaref01_Cmp.f k x377000 x377001 x378000 x378001).bind fun t431 => (if t430 = t431 then ((marginaliaref01_Same.f k bt390.1 bt390.2.1 bt396.1 bt396.2.1).bind fun t432 => (if t432 = true then (if bt390.2.2 = bt396.2.2 then ((marginaliaref01_Same.f k bt410.1 bt410.2.1 bt416.1 bt416.2.1).bind fun t433 => (if t433 = true then (some (bt410.2.2 == bt416.2.2)) else (none))) else (none)) else (none))) else (none))))))))))))))
def marginalialaw01_NumSums.f (k : Nat) (a0_0 : Bool) (l0_1 : List Int) (a1_0 : Bool) (l1_1 : List Int) : Option (Bool) := (marginalialaw01_answers.f).bind fun t378 => (if t378 = true then ((marginalialaw01_light.f a0_0 l0_1).bind fun t379 => (if t379 = true then ((marginalialaw01_light.f a1_0 l1_1).bind fun t380 => (marginalialaw01_NumSums.j0 k (!t380) a0_0 l0_1 a1_0 l1_1)) else (marginalialaw01_NumSums.j0 k true a0_0 l0_1 a1_0 l1_1))) else (marginalialaw01_NumSums.j0 k true a0_0 l0_1 a1_0 l1_1))
def marginalialaw01_NumSums.T3 : Bool × List (List Nat × List Nat) := (true, [([], []), ([0], [0]), ([], []), ([2, 1], [2]), ([1, 3, 3], [1, 3]), ([4], [4]), ([5], [5]), ([5], [5]), ([], []), ([8, 6, 4, 0, 1, 2, 3, 4, 5, 6, 8], [6, 8]), ([7, 9, 0, 1, 2, 3, 4, 5, 6, 7, 8, 9], [7])])
def marginalialaw01_NumSums.B3 : List Nat := [0, 1, 0, 7, 15, 31, 63, 63, 0, 383, 1023]
theorem marginalialaw01_NumSums.tab3 : rtab .any (opsOf Tryd.f4 3) = marginalialaw01_NumSums.T3 := by kernel_rfl
theorem marginalialaw01_NumSums.bits3 : waitsOk marginalialaw01_NumSums.T3.2 marginalialaw01_NumSums.B3 = true := by kernel_rfl
def marginalialaw01_NumSums.T5 : Bool × List (List Nat × List Nat) := (true, [([], []), ([0], [0]), ([], []), ([2, 1], [2]), ([1, 3, 3], [1, 3]), ([4], [4]), ([5], [5]), ([5], [5]), ([], []), ([8, 6, 4, 0, 1, 2, 3, 4, 5, 6, 8], [6, 8]), ([7, 9, 0, 1, 2, 3, 4, 5, 6, 7, 8, 9], [7])])
def marginalialaw01_NumSums.B5 : List Nat := [0, 1, 0, 7, 15, 31, 63, 63, 0, 383, 1023]
theorem marginalialaw01_NumSums.tab5 : rtab .any (opsOf Tryd.f4 5) = marginalialaw01_NumSums.T5 := by kernel_rfl
theorem marginalialaw01_NumSums.bits5 : waitsOk marginalialaw01_NumSums.T5.2 marginalialaw01_NumSums.B5 = true := by kernel_rfl
def marginalialaw01_NumSums.T7 : Bool × List (List Nat × List Nat) := (true, [([], []), ([0], [0]), ([], []), ([2, 1], [2]), ([1, 3, 3], [1, 3]), ([], []), ([], []), ([5, 6, 4], [5, 6]), ([4, 7], [4, 7]), ([8, 7], [8]), ([9], [9]), ([9], [9]), ([10, 11, 9, 9], [9, 10, 11]), ([9, 12], [9, 12]), ([13, 12], [13]), ([14], [14]), ([14], [14]), ([15, 16, 14], [14, 15, 16]), ([14, 17], [14, 17]), ([18, 14], [18]), ([19], [19]), ([19], [19]), ([20, 21, 19, 19], [19, 20, 21]), ([19, 22], [19, 22]), ([23, 22], [23]), ([24], [24]), ([24], [24]), ([25, 26, 24], [24, 25, 26]), ([24, 27], [24, 27]), ([28, 24, 0, 1, 2, 3, 4, 5, 6, 7, 8, 9, 10, 11, 12, 13, 14, 15, 16, 17, 18, 19, 20, 21, 22, 23, 24, 25, 26, 27, 28], [28])])
def marginalialaw01_NumSums.B7 : List Nat := [0, 1, 0, 7, 15, 0, 0, 127, 255, 511, 1023, 1023, 4095, 8191, 16383, 32767, 32767, 131071, 262143, 524287, 1048575, 1048575, 4194303, 8388607, 16777215, 33554431, 33554431, 134217727, 268435455, 536870911]
theorem marginalialaw01_NumSums.tab7 : rtab .any (opsOf Tryd.f4 7) = marginalialaw01_NumSums.T7 := by kernel_rfl
theorem marginalialaw01_NumSums.bits7 : waitsOk marginalialaw01_NumSums.T7.2 marginalialaw01_NumSums.B7 = true := by kernel_rfl
set_option maxHeartbeats 8000000 in
set_option maxRecDepth 100000 in
theorem marginalialaw01_NumSums.calls (k : Nat) (a0_0 : Bool) (A0_1 : Option Addr) (c0_1 : Nat) (l0_1 : List Int) (a1_0 : Bool) (A1_1 : Option Addr) (c1_1 : Nat) (l1_1 : List Int) (r : Bool) (w : World) (hr0_1 : Kd.C (Kd.int .u32) w A0_1 l0_1.length l0_1) (hc0_1 : l0_1.length ≤ c0_1) (hr1_1 : Kd.C (Kd.int .u32) w A1_1 l1_1.length l1_1) (hc1_1 : l1_1.length ≤ c1_1) (h : marginalialaw01_NumSums.f k a0_0 l0_1 a1_0 l1_1 = some r) :
    Calls Tryd.prog 4 #[.agg #[.bool a0_0, .slice A0_1 l0_1.length c0_1], .agg #[.bool a1_0, .slice A1_1 l1_1.length c1_1]] w fun e w' => e = .returned (.bool r) ∧ Below w.heap.size w w' := by
  have hu24 := Tryd.underlying24
  have HR0_1 := Aside0.mk hr0_1
  have HC0_1 := Aside0.mk hc0_1
  clear hr0_1 hc0_1
  have HR1_1 := Aside0.mk hr1_1
  have HC1_1 := Aside0.mk hc1_1
  clear hr1_1 hc1_1
  have HB := Aside0.mk (Below.refl w.heap.size w)
  have H : ((marginalialaw01_answers.f).bind fun t378 => (if t378 = true then ((marginalialaw01_light.f a0_0 l0_1).bind fun t379 => (if t379 = true then ((marginalialaw01_light.f a1_0 l1_1).bind fun t380 => (marginalialaw01_NumSums.j0 k (!t380) a0_0 l0_1 a1_0 l1_1)) else (marginalialaw01_NumSums.j0 k true a0_0 l0_1 a1_0 l1_1))) else (marginalialaw01_NumSums.j0 k true a0_0 l0_1 a1_0 l1_1))) = some r := h
  clear h
  have HC3 := Aside0.mk H
  clear H
  go_enter Tryd.func4, Tryd.ntmps4
  go_upto_region 1 with (first | ((with_reducible refine gate_dst (N := 2) rfl ?_); refine box_event ?hg (N := 2) ?hd (cs := #[.bool a0_0, .slice A0_1 l0_1.length c0_1]) (t := 24) ?hr ?_; (case hd => rfl); (case hg => rfl); (case hr => first | (go_simp; done) | (go_simp; rfl)); intro gb376 hg w4 hbox hb; have n0_ := Aside0.mk (below_step bw hb); have n1_ := Aside0.mk (hbox); have n2_ := Aside0.mk ((szL hg)); have n3_ := Aside0.mk ((szL hg)); clear HB; have HB := n0_; have BK376 := n1_; have GW376 := n2_; have GE376 := n3_; clear n0_ n1_ n2_ n3_; clear hb hbox hg) | ((with_reducible refine gate_dst (N := 3) rfl ?_); refine box_event ?hg (N := 3) ?hd (cs := #[.bool a1_0, .slice A1_1 l1_1.length c1_1]) (t := 24) ?hr ?_; (case hd => rfl); (case hg => rfl); (case hr => first | (go_simp; done) | (go_simp; rfl)); intro gb377 hg w5 hbox hb; have n0_ := Aside0.mk (blk_below (bk BK376) hb); have n1_ := Aside0.mk (below_step bw hb); have n2_ := Aside0.mk (hbox); have n3_ := Aside0.mk ((szL hg)); have n4_ := Aside0.mk ((szL hg)); have n5_ := Aside0.mk ((neL hg BK376)); have n6_ := Aside0.mk ((neG hg BK376)); clear BK376 HB; have BK376 := n0_; have HB := n1_; have BK377 := n2_; have GW377 := n3_; have GE377 := n4_; have NB376_377 := n5_; have NB377_376 := n6_; clear n0_ n1_ n2_ n3_ n4_ n5_ n6_; clear hb hbox hg))
  (try simp only [Act.put, List.setIfInBounds_toArray, List.set_cons_zero, List.set_cons_succ])
  go_cut [24] (fun v24 wc => ∃ (kq : Nat) (x24_2 : Bool), v24 = .bool x24_2 ∧ Aside0 (marginalialaw01_NumSums.j0 kq x24_2 a0_0 l0_1 a1_0 l1_1 = some r) ∧ Aside0 (kq ≤ k) ∧ Aside0 (wc.heap[gb376]? = some (.cells #[.bool a0_0, (.slice A0_1 l0_1.length c0_1)] 24 (0, 0))) ∧ Aside0 (wc.heap[gb377]? = some (.cells #[.bool a1_0, (.slice A1_1 l1_1.length c1_1)] 24 (0, 0))) ∧ Aside0 (Below w.heap.size w wc))
  case first =>
    have H := HC3.out
    clear HC3
    replace H := Option.bind_eq_some_iff.mp H
    obtain ⟨t378, A60, H⟩ := H
    replace H : (if t378 = true then ((marginalialaw01_light.f a0_0 l0_1).bind fun t379 => (if t379 = true then ((marginalialaw01_light.f a1_0 l1_1).bind fun t380 => (marginalialaw01_NumSums.j0 k (!t380) a0_0 l0_1 a1_0 l1_1)) else (marginalialaw01_NumSums.j0 k true a0_0 l0_1 a1_0 l1_1))) else (marginalialaw01_NumSums.j0 k true a0_0 l0_1 a1_0 l1_1)) = some r := H
    have A6 := Aside0.mk A60
    clear A60
    by_cases c7 : t378 = true
    · subst c7
      have H1 : ((marginalialaw01_light.f a0_0 l0_1).bind fun t379 => (if t379 = true then ((marginalialaw01_light.f a1_0 l1_1).bind fun t380 => (marginalialaw01_NumSums.j0 k (!t380) a0_0 l0_1 a1_0 l1_1)) else (marginalialaw01_NumSums.j0 k true a0_0 l0_1 a1_0 l1_1))) = some r := by rw [if_pos rfl] at H; exact H
      clear H
      have H := H1
      clear H1
      replace H := Option.bind_eq_some_iff.mp H
      obtain ⟨t379, A80, H⟩ := H
      replace H : (if t379 = true then ((marginalialaw01_light.f a1_0 l1_1).bind fun t380 => (marginalialaw01_NumSums.j0 k (!t380) a0_0 l0_1 a1_0 l1_1)) else (marginalialaw01_NumSums.j0 k true a0_0 l0_1 a1_0 l1_1)) = some r := H
      have A8 := Aside0.mk A80
      clear A80
      by_cases c9 : t379 = true
      · subst c9
        have H1 : ((marginalialaw01_light.f a1_0 l1_1).bind fun t380 => (marginalialaw01_NumSums.j0 k (!t380) a0_0 l0_1 a1_0 l1_1)) = some r := by rw [if_pos rfl] at H; exact H
        clear H
        have H := H1
        clear H1
        replace H := Option.bind_eq_some_iff.mp H
        obtain ⟨t380, A100, H⟩ := H
        replace H : (marginalialaw01_NumSums.j0 k (!t380) a0_0 l0_1 a1_0 l1_1) = some r := H
        have A10 := Aside0.mk A100
        clear A100
        have H' := Aside0.mk H
        clear H
        go_wp2_with (first | ((with_reducible refine gate_callee (f := 12) rfl ?_); refine goesL_ (some 13) rfl rfl Tryd.func12 (by kernel_rfl) rfl #[] rfl (by (try simp only [List.map_toArray, List.map_cons, List.map_nil]); first | done | rfl | (simp only [List.length_drop, List.length_take]; rfl)) ?_; (with_reducible refine (marginalialaw01_answers.calls  true _ A6.out).mono ?_); rintro e w11 ⟨rfl, hb⟩; refine ⟨_, rfl, ?_⟩; have n0_ := Aside0.mk (blk_below (bk BK376) hb); have n1_ := Aside0.mk (blk_below (bk BK377) hb); have n2_ := Aside0.mk (below_step bw hb); clear BK376 BK377 HB; have BK376 := n0_; have BK377 := n1_; have HB := n2_; clear n0_ n1_ n2_; (try clear hb); (try clear hb2); (try clear hk); (try clear hi); have hnb12 := NB376_377.out; have hnc12 := NB377_376.out; have hcz13_0 : w11.cell? ⟨gb376, 0, none⟩ = some (.bool a0_0) := (blk_cell BK376.out 0).trans rfl; have hcz13_1 : w11.cell? ⟨gb376, 1, none⟩ = some (.slice A0_1 l0_1.length c0_1) := (blk_cell BK376.out 1).trans rfl; have hfz13_0 := blk_frozen BK376.out 0; have hfz13_1 := blk_frozen BK376.out 1) | (go_at_call 13; (with_reducible refine (marginalialaw01_light.calls a0_0 _ _ l0_1 true _ ?side1 ?side2 A8.out).mono ?_); (case side1 => repeat (first | exact (Kd.C_below HR0_1.out HB.out) | (with_reducible refine Kd.C_alloc ?_ _) | (with_reducible refine Kd.C_drewN ?_ _) | (with_reducible refine Kd.C_drew ?_))); (case side2 => exact HC0_1.out); rintro e w14 ⟨rfl, hb⟩; have n0_ := Aside0.mk (blk_below (bk BK376) hb); have n1_ := Aside0.mk (blk_below (bk BK377) hb); have n2_ := Aside0.mk (below_step bw hb); clear BK376 BK377 HB; have BK376 := n0_; have BK377 := n1_; have HB := n2_; clear n0_ n1_ n2_; (try clear hb); (try clear hb2); (try clear hk); (try clear hi); have hcz15_0 : w14.cell? ⟨gb377, 0, none⟩ = some (.bool a1_0) := (blk_cell BK377.out 0).trans rfl; have hcz15_1 : w14.cell? ⟨gb377, 1, none⟩ = some (.slice A1_1 l1_1.length c1_1) := (blk_cell BK377.out 1).trans rfl; have hfz15_0 := blk_frozen BK377.out 0; have hfz15_1 := blk_frozen BK377.out 1) | (go_at_call 13; (with_reducible refine (marginalialaw01_light.calls a1_0 _ _ l1_1 t380 _ ?side1 ?side2 A10.out).mono ?_); (case side1 => repeat (first | exact (Kd.C_below HR1_1.out HB.out) | (with_reducible refine Kd.C_alloc ?_ _) | (with_reducible refine Kd.C_drewN ?_ _) | (with_reducible refine Kd.C_drew ?_))); (case side2 => exact HC1_1.out); rintro e w16 ⟨rfl, hb⟩; have n0_ := Aside0.mk (blk_below (bk BK376) hb); have n1_ := Aside0.mk (blk_below (bk BK377) hb); have n2_ := Aside0.mk (below_step bw hb); clear BK376 BK377 HB; have BK376 := n0_; have BK377 := n1_; have HB := n2_; clear n0_ n1_ n2_; (try clear hb); (try clear hb2); (try clear hk); (try clear hi)))
        go_meet
        case rel => exact ⟨_, (!t380), (by first | rfl | (simp; done) | (simp [*]; done)), H', ⟨by first | omega | exact Nat.le_refl _⟩, ⟨bk BK376⟩, ⟨bk BK377⟩, ⟨bw⟩⟩
      · replace c9 := Bool.eq_false_iff.mpr c9
        subst c9
        have H1 : (marginalialaw01_NumSums.j0 k true a0_0 l0_1 a1_0 l1_1) = some r := by rw [if_neg (show ¬ (false = true) by decide)] at H; exact H
        clear H
        have H := H1
        clear H1
        have H' := Aside0.mk H
        clear H
        go_wp2_with (first | ((with_reducible refine gate_callee (f := 12) rfl ?_); refine goesL_ (some 13) rfl rfl Tryd.func12 (by kernel_rfl) rfl #[] rfl (by (try simp only [List.map_toArray, List.map_cons, List.map_nil]); first | done | rfl | (simp only [List.length_drop, List.length_take]; rfl)) ?_; (with_reducible refine (marginalialaw01_answers.calls  true _ A6.out).mono ?_); rintro e w17 ⟨rfl, hb⟩; refine ⟨_, rfl, ?_⟩; have n0_ := Aside0.mk (blk_below (bk BK376) hb); have n1_ := Aside0.mk (blk_below (bk BK377) hb); have n2_ := Aside0.mk (below_step bw hb); clear BK376 BK377 HB; have BK376 := n0_; have BK377 := n1_; have HB := n2_; clear n0_ n1_ n2_; (try clear hb); (try clear hb2); (try clear hk); (try clear hi); have hnb18 := NB376_377.out; have hnc18 := NB377_376.out; have hcz19_0 : w17.cell? ⟨gb376, 0, none⟩ = some (.bool a0_0) := (blk_cell BK376.out 0).trans rfl; have hcz19_1 : w17.cell? ⟨gb376, 1, none⟩ = some (.slice A0_1 l0_1.length c0_1) := (blk_cell BK376.out 1).trans rfl; have hfz19_0 := blk_frozen BK376.out 0; have hfz19_1 := blk_frozen BK376.out 1) | (go_at_call 13; (with_reducible refine (marginalialaw01_light.calls a0_0 _ _ l0_1 false _ ?side1 ?side2 A8.out).mono ?_); (case side1 => repeat (first | exact (Kd.C_below HR0_1.out HB.out) | (with_reducible refine Kd.C_alloc ?_ _) | (with_reducible refine Kd.C_drewN ?_ _) | (with_reducible refine Kd.C_drew ?_))); (case side2 => exact HC0_1.out); rintro e w20 ⟨rfl, hb⟩; have n0_ := Aside0.mk (blk_below (bk BK376) hb); have n1_ := Aside0.mk (blk_below (bk BK377) hb); have n2_ := Aside0.mk (below_step bw hb); clear BK376 BK377 HB; have BK376 := n0_; have BK377 := n1_; have HB := n2_; clear n0_ n1_ n2_; (try clear hb); (try clear hb2); (try clear hk); (try clear hi)))
        go_meet
        case rel => exact ⟨_, (true), (by first | rfl | (simp; done) | (simp [*]; done)), H', ⟨by first | omega | exact Nat.le_refl _⟩, ⟨bk BK376⟩, ⟨bk BK377⟩, ⟨bw⟩⟩
    · replace c7 := Bool.eq_false_iff.mpr c7
      subst c7
      have H1 : (marginalialaw01_NumSums.j0 k true a0_0 l0_1 a1_0 l1_1) = some r := by rw [if_neg (show ¬ (false = true) by decide)] at H; exact H
      clear H
      have H := H1
      clear H1
      have H' := Aside0.mk H
      clear H
      go_wp2_with (first | ((with_reducible refine gate_callee (f := 12) rfl ?_); refine goesL_ (some 13) rfl rfl Tryd.func12 (by kernel_rfl) rfl #[] rfl (by (try simp only [List.map_toArray, List.map_cons, List.map_nil]); first | done | rfl | (simp only [List.length_drop, List.length_take]; rfl)) ?_; (with_reducible refine (marginalialaw01_answers.calls  false _ A6.out).mono ?_); rintro e w21 ⟨rfl, hb⟩; refine ⟨_, rfl, ?_⟩; have n0_ := Aside0.mk (blk_below (bk BK376) hb); have n1_ := Aside0.mk (blk_below (bk BK377) hb); have n2_ := Aside0.mk (below_step bw hb); clear BK376 BK377 HB; have BK376 := n0_; have BK377 := n1_; have HB := n2_; clear n0_ n1_ n2_; (try clear hb); (try clear hb2); (try clear hk); (try clear hi)))
      go_meet
      case rel => exact ⟨_, (true), (by first | rfl | (simp; done) | (simp [*]; done)), H', ⟨by first | omega | exact Nat.le_refl _⟩, ⟨bk BK376⟩, ⟨bk BK377⟩, ⟨bw⟩⟩
  case rest =>
    clear HC3
    try clear c1
    try clear p2
    try clear c4
    try clear c7
    try clear c9
    try clear c12
    try clear c18
    try clear hcz13_0
    try clear hcz13_1
    try clear hcz15_0
    try clear hcz15_1
    try clear hcz19_0
    try clear hcz19_1
    try clear hfz13_0
    try clear hfz13_1
    try clear hfz15_0
    try clear hfz15_1
    try clear hfz19_0
    try clear hfz19_1
    obtain ⟨kq, x24_2, rfl, HA, HJ2, BK376, BK377, HB⟩ := hcut
    cases kq with
    | zero => exact absurd HA.out (by simp [marginalialaw01_NumSums.j0])
    | succ kj2 =>
      have H := HA.out
      clear HA
      simp only [marginalialaw01_NumSums.j0] at H
      by_cases c22 : x24_2 = true
      · subst c22
        have H1 : ((marginalialaw01_answers.f).bind fun t381 => (some t381)) = some r := by rw [if_pos rfl] at H; exact H
        clear H
        have H := H1
        clear H1
        replace H := Option.bind_eq_some_iff.mp H
        obtain ⟨t381, A230, H⟩ := H
        replace H : (some t381) = some r := H
        have A23 := Aside0.mk A230
        clear A230
        obtain rfl := Option.some.inj H
        go_wp2_with (first | ((with_reducible refine gate_callee (f := 12) rfl ?_); refine goesL_ (some 25) rfl rfl Tryd.func12 (by kernel_rfl) rfl #[] rfl (by (try simp only [List.map_toArray, List.map_cons, List.map_nil]); first | done | rfl | (simp only [List.length_drop, List.length_take]; rfl)) ?_; (with_reducible refine (marginalialaw01_answers.calls  t381 _ A23.out).mono ?_); rintro e w24 ⟨rfl, hb⟩; refine ⟨_, rfl, ?_⟩; have n0_ := Aside0.mk (blk_below (bk BK376) hb); have n1_ := Aside0.mk (blk_below (bk BK377) hb); have n2_ := Aside0.mk (below_step bw hb); clear BK376 BK377 HB; have BK376 := n0_; have BK377 := n1_; have HB := n2_; clear n0_ n1_ n2_; (try clear hb); (try clear hb2); (try clear hk); (try clear hi)))
        go_ret
        exact ⟨by first | rfl | (simp [errW_none, errW_some] <;> rfl) | (simp [*, errW_none, errW_some] <;> rfl), bw⟩
      · replace c22 := Bool.eq_false_iff.mpr c22
        subst c22
        have H1 : ((marginalialaw01_own.f a0_0 l0_1).bind fun bt382 => ((marginalialaw01_own.f a1_0 l1_1).bind fun bt386 => ((num_Add.f kj2 bt382.1 bt382.2 bt386.1 bt386.2).bind fun bt390 => ((marginaliaref01_Add.f kj2 a0_0 l0_1 a1_0 l1_1).bind fun bt396 => ((marginalialaw01_own.f a0_0 l0_1).bind fun bt402 => ((marginalialaw01_own.f a1_0 l1_1).bind fun bt406 => ((num_Sub.f kj2 bt402.1 bt402.2 bt406.1 bt406.2).bind fun bt410 => ((marginaliaref01_Sub.f kj2 a0_0 l0_1 a1_0 l1_1).bind fun bt416 => ((marginalialaw01_own.f a0_0 l0_1).bind fun bt422 => ((marginalialaw01_own.f a1_0 l1_1).bind fun bt426 => ((num_Cmp.f kj2 bt422.1 bt422.2 bt426.1 bt426.2).bind fun t430 => ((marginaliaref01_Cmp.f kj2 a0_0 l0_1 a1_0 l1_1).bind fun t431 => (if t430 = t431 then ((marginaliaref01_Same.f kj2 bt390.1 bt390.2.1 bt396.1 bt396.2.1).bind fun t432 => (if t432 = true then (if bt390.2.2 = bt396.2.2 then ((marginaliaref01_Same.f kj2 bt410.1 bt410.2.1 bt416.1 bt416.2.1).bind fun t433 => (if t433 = true then (some (bt410.2.2 == bt416.2.2)) else (none))) else (none)) else (none))) else (none)))))))))))))) = some r := by rw [if_neg (show ¬ (false = true) by decide)] at H; exact H
        clear H
        have H := H1
        clear H1
        replace H := Option.bind_eq_some_iff.mp H
        obtain ⟨⟨t382, t383⟩, A250, H⟩ := H
        replace H : ((marginalialaw01_own.f a1_0 l1_1).bind fun bt386 => ((num_Add.f kj2 t382 t383 bt386.1 bt386.2).bind fun bt390 => ((marginaliaref01_Add.f kj2 a0_0 l0_1 a1_0 l1_1).bind fun bt396 => ((marginalialaw01_own.f a0_0 l0_1).bind fun bt402 => ((marginalialaw01_own.f a1_0 l1_1).bind fun bt406 => ((num_Sub.f kj2 bt402.1 bt402.2 bt406.1 bt406.2).bind fun bt410 => ((marginaliaref01_Sub.f kj2 a0_0 l0_1 a1_0 l1_1).bind fun bt416 => ((marginalialaw01_own.f a0_0 l0_1).bind fun bt422 => ((marginalialaw01_own.f a1_0 l1_1).bind fun bt426 => ((num_Cmp.f kj2 bt422.1 bt422.2 bt426.1 bt426.2).bind fun t430 => ((marginaliaref01_Cmp.f kj2 a0_0 l0_1 a1_0 l1_1).bind fun t431 => (if t430 = t431 then ((marginaliaref01_Same.f kj2 bt390.1 bt390.2.1 bt396.1 bt396.2.1).bind fun t432 => (if t432 = true then (if bt390.2.2 = bt396.2.2 then ((marginaliaref01_Same.f kj2 bt410.1 bt410.2.1 bt416.1 bt416.2.1).bind fun t433 => (if t433 = true then (some (bt410.2.2 == bt416.2.2)) else (none))) else (none)) else (none))) else (none))))))))))))) = some r := H
        have A25 := Aside0.mk A250
        clear A250
        replace H := Option.bind_eq_some_iff.mp H
        obtain ⟨⟨t386, t387⟩, A260, H⟩ := H
        replace H : ((num_Add.f kj2 t382 t383 t386 t387).bind fun bt390 => ((marginaliaref01_Add.f kj2 a0_0 l0_1 a1_0 l1_1).bind fun bt396 => ((marginalialaw01_own.f a0_0 l0_1).bind fun bt402 => ((marginalialaw01_own.f a1_0 l1_1).bind fun bt406 => ((num_Sub.f kj2 bt402.1 bt402.2 bt406.1 bt406.2).bind fun bt410 => ((marginaliaref01_Sub.f kj2 a0_0 l0_1 a1_0 l1_1).bind fun bt416 => ((marginalialaw01_own.f a0_0 l0_1).bind fun bt422 => ((marginalialaw01_own.f a1_0 l1_1).bind fun bt426 => ((num_Cmp.f kj2 bt422.1 bt422.2 bt426.1 bt426.2).bind fun t430 => ((marginaliaref01_Cmp.f kj2 a0_0 l0_1 a1_0 l1_1).bind fun t431 => (if t430 = t431 then ((marginaliaref01_Same.f kj2 bt390.1 bt390.2.1 bt396.1 bt396.2.1).bind fun t432 => (if t432 = true then (if bt390.2.2 = bt396.2.2 then ((marginaliaref01_Same.f kj2 bt410.1 bt410.2.1 bt416.1 bt416.2.1).bind fun t433 => (if t433 = true then (some (bt410.2.2 == bt416.2.2)) else (none))) else (none)) else (none))) else (none)))))))))))) = some r := H
        have A26 := Aside0.mk A260
        clear A260
        replace H := Option.bind_eq_some_iff.mp H
        obtain ⟨⟨t390, t391, t394⟩, A270, H⟩ := H
        replace H : ((marginaliaref01_Add.f kj2 a0_0 l0_1 a1_0 l1_1).bind fun bt396 => ((marginalialaw01_own.f a0_0 l0_1).bind fun bt402 => ((marginalialaw01_own.f a1_0 l1_1).bind fun bt406 => ((num_Sub.f kj2 bt402.1 bt402.2 bt406.1 bt406.2).bind fun bt410 => ((marginaliaref01_Sub.f kj2 a0_0 l0_1 a1_0 l1_1).bind fun bt416 => ((marginalialaw01_own.f a0_0 l0_1).bind fun bt422 => ((marginalialaw01_own.f a1_0 l1_1).bind fun bt426 => ((num_Cmp.f kj2 bt422.1 bt422.2 bt426.1 bt426.2).bind fun t430 => ((marginaliaref01_Cmp.f kj2 a0_0 l0_1 a1_0 l1_1).bind fun t431 => (if t430 = t431 then ((marginaliaref01_Same.f kj2 t390 t391 bt396.1 bt396.2.1).bind fun t432 => (if t432 = true then (if t394 = bt396.2.2 then ((marginaliaref01_Same.f kj2 bt410.1 bt410.2.1 bt416.1 bt416.2.1).bind fun t433 => (if t433 = true then (some (bt410.2.2 == bt416.2.2)) else (none))) else (none)) else (none))) else (none))))))))))) = some r := H
        have A27 := Aside0.mk A270
        clear A270
        replace H := Option.bind_eq_some_iff.mp H
        obtain ⟨⟨t396, t397, t400⟩, A280, H⟩ := H
        replace H : ((marginalialaw01_own.f a0_0 l0_1).bind fun bt402 => ((marginalialaw01_own.f a1_0 l1_1).bind fun bt406 => ((num_Sub.f kj2 bt402.1 bt402.2 bt406.1 bt406.2).bind fun bt410 => ((marginaliaref01_Sub.f kj2 a0_0 l0_1 a1_0 l1_1).bind fun bt416 => ((marginalialaw01_own.f a0_0 l0_1).bind fun bt422 => ((marginalialaw01_own.f a1_0 l1_1).bind fun bt426 => ((num_Cmp.f kj2 bt422.1 bt422.2 bt426.1 bt426.2).bind fun t430 => ((marginaliaref01_Cmp.f kj2 a0_0 l0_1 a1_0 l1_1).bind fun t431 => (if t430 = t431 then ((marginaliaref01_Same.f kj2 t390 t391 t396 t397).bind fun t432 => (if t432 = true then (if t394 = t400 then ((marginaliaref01_Same.f kj2 bt410.1 bt410.2.1 bt416.1 bt416.2.1).bind fun t433 => (if t433 = true then (some (bt410.2.2 == bt416.2.2)) else (none))) else (none)) else (none))) else (none)))))))))) = some r := H
        have A28 := Aside0.mk A280
        clear A280
        replace H := Option.bind_eq_some_iff.mp H
        obtain ⟨⟨t402, t403⟩, A290, H⟩ := H
        replace H : ((marginalialaw01_own.f a1_0 l1_1).bind fun bt406 => ((num_Sub.f kj2 t402 t403 bt406.1 bt406.2).bind fun bt410 => ((marginaliaref01_Sub.f kj2 a0_0 l0_1 a1_0 l1_1).bind fun bt416 => ((marginalialaw01_own.f a0_0 l0_1).bind fun bt422 => ((marginalialaw01_own.f a1_0 l1_1).bind fun bt426 => ((num_Cmp.f kj2 bt422.1 bt422.2 bt426.1 bt426.2).bind fun t430 => ((marginaliaref01_Cmp.f kj2 a0_0 l0_1 a1_0 l1_1).bind fun t431 => (if t430 = t431 then ((marginaliaref01_Same.f kj2 t390 t391 t396 t397).bind fun t432 => (if t432 = true then (if t394 = t400 then ((marginaliaref01_Same.f kj2 bt410.1 bt410.2.1 bt416.1 bt416.2.1).bind fun t433 => (if t433 = true then (some (bt410.2.2 == bt416.2.2)) else (none))) else (none)) else (none))) else (none))))))))) = some r := H
        have A29 := Aside0.mk A290
        clear A290
        replace H := Option.bind_eq_some_iff.mp H
        obtain ⟨⟨t406, t407⟩, A300, H⟩ := H
        replace H : ((num_Sub.f kj2 t402 t403 t406 t407).bind fun bt410 => ((marginaliaref01_Sub.f kj2 a0_0 l0_1 a1_0 l1_1).bind fun bt416 => ((marginalialaw01_own.f a0_0 l0_1).bind fun bt422 => ((marginalialaw01_own.f a1_0 l1_1).bind fun bt426 => ((num_Cmp.f kj2 bt422.1 bt422.2 bt426.1 bt426.2).bind fun t430 => ((marginaliaref01_Cmp.f kj2 a0_0 l0_1 a1_0 l1_1).bind fun t431 => (if t430 = t431 then ((marginaliaref01_Same.f kj2 t390 t391 t396 t397).bind fun t432 => (if t432 = true then (if t394 = t400 then ((marginaliaref01_Same.f kj2 bt410.1 bt410.2.1 bt416.1 bt416.2.1).bind fun t433 => (if t433 = true then (some (bt410.2.2 == bt416.2.2)) else (none))) else (none)) else (none))) else (none)))))))) = some r := H
        have A30 := Aside0.mk A300
        clear A300
        replace H := Option.bind_eq_some_iff.mp H
        obtain ⟨⟨t410, t411, t414⟩, A310, H⟩ := H
        replace H : ((marginaliaref01_Sub.f kj2 a0_0 l0_1 a1_0 l1_1).bind fun bt416 => ((marginalialaw01_own.f a0_0 l0_1).bind fun bt422 => ((marginalialaw01_own.f a1_0 l1_1).bind fun bt426 => ((num_Cmp.f kj2 bt422.1 bt422.2 bt426.1 bt426.2).bind fun t430 => ((marginaliaref01_Cmp.f kj2 a0_0 l0_1 a1_0 l1_1).bind fun t431 => (if t430 = t431 then ((marginaliaref01_Same.f kj2 t390 t391 t396 t397).bind fun t432 => (if t432 = true then (if t394 = t400 then ((marginaliaref01_Same.f kj2 t410 t411 bt416.1 bt416.2.1).bind fun t433 => (if t433 = true then (some (t414 == bt416.2.2)) else (none))) else (none)) else (none))) else (none))))))) = some r := H
        have A31 := Aside0.mk A310
        clear A310
        replace H := Option.bind_eq_some_iff.mp H
        obtain ⟨⟨t416, t417, t420⟩, A320, H⟩ := H
        replace H : ((marginalialaw01_own.f a0_0 l0_1).bind fun bt422 => ((marginalialaw01_own.f a1_0 l1_1).bind fun bt426 => ((num_Cmp.f kj2 bt422.1 bt422.2 bt426.1 bt426.2).bind fun t430 => ((marginaliaref01_Cmp.f kj2 a0_0 l0_1 a1_0 l1_1).bind fun t431 => (if t430 = t431 then ((marginaliaref01_Same.f kj2 t390 t391 t396 t397).bind fun t432 => (if t432 = true then (if t394 = t400 then ((marginaliaref01_Same.f kj2 t410 t411 t416 t417).bind fun t433 => (if t433 = true then (some (t414 == t420)) else (none))) else (none)) else (none))) else (none)))))) = some r := H
        have A32 := Aside0.mk A320
        clear A320
        replace H := Option.bind_eq_some_iff.mp H
        obtain ⟨⟨t422, t423⟩, A330, H⟩ := H
        replace H : ((marginalialaw01_own.f a1_0 l1_1).bind fun bt426 => ((num_Cmp.f kj2 t422 t423 bt426.1 bt426.2).bind fun t430 => ((marginaliaref01_Cmp.f kj2 a0_0 l0_1 a1_0 l1_1).bind fun t431 => (if t430 = t431 then ((marginaliaref01_Same.f kj2 t390 t391 t396 t397).bind fun t432 => (if t432 = true then (if t394 = t400 then ((marginaliaref01_Same.f kj2 t410 t411 t416 t417).bind fun t433 => (if t433 = true then (some (t414 == t420)) else (none))) else (none)) else (none))) else (none))))) = some r := H
        have A33 := Aside0.mk A330
        clear A330
        replace H := Option.bind_eq_some_iff.mp H
        obtain ⟨⟨t426, t427⟩, A340, H⟩ := H
        replace H : ((num_Cmp.f kj2 t422 t423 t426 t427).bind fun t430 => ((marginaliaref01_Cmp.f kj2 a0_0 l0_1 a1_0 l1_1).bind fun t431 => (if t430 = t431 then ((marginaliaref01_Same.f kj2 t390 t391 t396 t397).bind fun t432 => (if t432 = true then (if t394 = t400 then ((marginaliaref01_Same.f kj2 t410 t411 t416 t417).bind fun t433 => (if t433 = true then (some (t414 == t420)) else (none))) else (none)) else (none))) else (none)))) = some r := H
        have A34 := Aside0.mk A340
        clear A340
        replace H := Option.bind_eq_some_iff.mp H
        obtain ⟨t430, A350, H⟩ := H
        replace H : ((marginaliaref01_Cmp.f kj2 a0_0 l0_1 a1_0 l1_1).bind fun t431 => (if t430 = t431 then ((marginaliaref01_Same.f kj2 t390 t391 t396 t397).bind fun t432 => (if t432 = true then (if t394 = t400 then ((marginaliaref01_Same.f kj2 t410 t411 t416 t417).bind fun t433 => (if t433 = true then (some (t414 == t420)) else (none))) else (none)) else (none))) else (none))) = some r := H
        have A35 := Aside0.mk A350
        clear A350
        replace H := Option.bind_eq_some_iff.mp H
        obtain ⟨t431, A360, H⟩ := H
        replace H : (if t430 = t431 then ((marginaliaref01_Same.f kj2 t390 t391 t396 t397).bind fun t432 => (if t432 = true then (if t394 = t400 then ((marginaliaref01_Same.f kj2 t410 t411 t416 t417).bind fun t433 => (if t433 = true then (some (t414 == t420)) else (none))) else (none)) else (none))) else (none)) = some r := H
        have A36 := Aside0.mk A360
        clear A360
        by_cases c37 : t430 = t431
        · rw [if_pos c37] at H
          have c37b0 : (t430 == t431) = true := beq_iff_eq.mpr c37
          have c37b1 : (t430 != t431) = false := bne_eq_false_iff_eq.mpr c37
          clear c37
          replace H := Option.bind_eq_some_iff.mp H
          obtain ⟨t432, A380, H⟩ := H
          replace H : (if t432 = true then (if t394 = t400 then ((marginaliaref01_Same.f kj2 t410 t411 t416 t417).bind fun t433 => (if t433 = true then (some (t414 == t420)) else (none))) else (none)) else (none)) = some r := H
          have A38 := Aside0.mk A380
          clear A380
          by_cases c39 : t432 = true
          · subst c39
            have H1 : (if t394 = t400 then ((marginaliaref01_Same.f kj2 t410 t411 t416 t417).bind fun t433 => (if t433 = true then (some (t414 == t420)) else (none))) else (none)) = some r := by rw [if_pos rfl] at H; exact H
            clear H
            have H := H1
            clear H1
            by_cases c40 : t394 = t400
            · rw [if_pos c40] at H
              have c40b0 : (t394 == t400) = true := beq_iff_eq.mpr c40
              have c40b1 : (t394 != t400) = false := bne_eq_false_iff_eq.mpr c40
              clear c40
              replace H := Option.bind_eq_some_iff.mp H
              obtain ⟨t433, A410, H⟩ := H
              replace H : (if t433 = true then (some (t414 == t420)) else (none)) = some r := H
              have A41 := Aside0.mk A410
              clear A410
              by_cases c42 : t433 = true
              · subst c42
                have H1 : (some (t414 == t420)) = some r := by rw [if_pos rfl] at H; exact H
                clear H
                have H := H1
                clear H1
                obtain rfl := Option.some.inj H
                try go_wp2
                have n0_ := Aside0.mk (blk_drew BK376.out)
                have n1_ := Aside0.mk (blk_drew BK377.out)
                have n2_ := Aside0.mk (below_drew1 HB.out)
                clear BK376 BK377 HB
                have BK376 := n0_
                have BK377 := n1_
                have HB := n2_
                clear n0_ n1_ n2_
                refine start_ (n := 11) (S := fun w' => w'.cell? ⟨gb376, 0, none⟩ = some (.bool a0_0) ∧ w'.cell? ⟨gb376, 1, none⟩ = some (.slice A0_1 l0_1.length c0_1) ∧ w'.cell? ⟨gb377, 0, none⟩ = some (.bool a1_0) ∧ w'.cell? ⟨gb377, 1, none⟩ = some (.slice A1_1 l1_1.length c1_1)) (ds := []) #[false, false, false, false, false, false, false, false, false, false, false] (by kernel_rfl) rfl rfl ⟨(blk_cell BK376.out 0).trans rfl, (blk_cell BK376.out 1).trans rfl, (blk_cell BK377.out 0).trans rfl, (blk_cell BK377.out 1).trans rfl⟩ (fun hHeld => ?_); refine with_tabW marginalialaw01_NumSums.tab3 marginalialaw01_NumSums.bits3 (fun HT_ HW_ => ?_)
                generalize wc.drew = w43 at BK376 BK377 HB hHeld ⊢
                refine take_ (i := 0) (N := some 27) (v := ?_) (a' := ?_) #[true, false, false, false, false, false, false, false, false, false, false] rfl rfl (take_ofW HT_.out HW_.out (by kernel_rfl)) (fun _ _ _ h => h) (Or.inl ⟨by rfl, ?_⟩) hHeld ?_ ?_
                rotate_left
                · rintro w' ⟨s0, s1, s2, s3⟩
                  go_simp
                  with_reducible rfl
                rotate_left
                · simp only [Act.put, List.setIfInBounds_toArray, List.set_cons_zero, List.set_cons_succ, i64_w, i32_w]
                  rfl
                refine take_ (i := 2) (N := some 29) (v := ?_) (a' := ?_) #[true, false, true, false, false, false, false, false, false, false, false] rfl rfl (take_ofW HT_.out HW_.out (by kernel_rfl)) (fun _ _ _ h => h) (Or.inl ⟨by rfl, ?_⟩) hHeld ?_ ?_
                rotate_left
                · rintro w' ⟨s0, s1, s2, s3⟩
                  go_simp
                  with_reducible rfl
                rotate_left
                · simp only [Act.put, List.setIfInBounds_toArray, List.set_cons_zero, List.set_cons_succ, i64_w, i32_w]
                  rfl
                refine join_ (σ := Value × Value × Value × Nat) 2 #[true, true, true, true, true, true, true, true, true, false, false] (fun s_ => [(28, .agg #[.bool t382, s_.1]), (30, .agg #[.bool t386, s_.2.1]), (31, .tuple #[.agg #[.bool t390, s_.2.2.1], .int .i64 t394]), (5, .pointer (some ⟨s_.2.2.2, 0, none⟩)), (26, .tuple #[.agg #[.bool t390, s_.2.2.1], .int .i64 t394]), (32, .agg #[.bool t390, s_.2.2.1]), (33, .int .i64 t394)]) (fun s_ w' => (w'.cell? ⟨gb376, 0, none⟩ = some (.bool a0_0) ∧ w'.cell? ⟨gb376, 1, none⟩ = some (.slice A0_1 l0_1.length c0_1) ∧ w'.cell? ⟨gb377, 0, none⟩ = some (.bool a1_0) ∧ w'.cell? ⟨gb377, 1, none⟩ = some (.slice A1_1 l1_1.length c1_1)) ∧ (Kd.R (Kd.int .u32) 48 w' w.heap.size (fun k_ => some k_ ≠ (s_.2.1 : Value).ownBlock) s_.1 t383) ∧ (Kd.R (Kd.int .u32) 48 w' w.heap.size (fun k_ => some k_ ≠ (s_.1 : Value).ownBlock) s_.2.1 t387) ∧ (Kd.V (Kd.int .u32) 48 w' w.heap.size (fun k_ => some k_ ≠ (s_.1 : Value).ownBlock ∧ some k_ ≠ (s_.2.1 : Value).ownBlock ∧ k_ ≠ gb376 ∧ k_ ≠ gb377 ∧ k_ ≠ s_.2.2.2) s_.2.2.1 t391) ∧ (w'.heap[gb376]? = some (.cells #[.bool a0_0, .slice A0_1 l0_1.length c0_1] 24 (0, 0))) ∧ (w'.heap[gb377]? = some (.cells #[.bool a1_0, .slice A1_1 l1_1.length c1_1] 24 (0, 0))) ∧ (w'.heap[s_.2.2.2]? = some (.cells #[.bool false, .slice none 0 0] 24 (0, 0))) ∧ (w.heap.size ≤ s_.2.2.2) ∧ (w.heap.size ≤ s_.2.2.2) ∧ (gb376 ≠ s_.2.2.2) ∧ (s_.2.2.2 ≠ gb376) ∧ (gb377 ≠ s_.2.2.2) ∧ (s_.2.2.2 ≠ gb377) ∧ (Below w.heap.size w w')) ?_ ?_
                rotate_left
                · intro hCont
                  refine two_ (i := 1) (j := 8) (Ni := some 28) (Nj := some 5) #[true, true, true, false, false, false, false, false, false, false, false] #[true, false, true, false, false, false, false, false, true, false, false] rfl rfl rfl rfl (two_of HT_.out (by kernel_rfl)) (by decide) (by decide) (fun K hK => ?_) (fun K hK => ?_)
                  · skip
                    refine goes_ Tryd.func15 (by kernel_rfl) rfl #[.agg #[.bool a0_0, .slice A0_1 l0_1.length c0_1]] (by rfl) rfl rfl (by (try simp only [List.map_toArray, List.map_cons, List.map_nil]); first | done | rfl | (simp only [List.length_drop, List.length_take]; rfl)) ?_
                    with_reducible refine (marginalialaw01_own.calls a0_0 _ _ l0_1 t382 t383 _ ?side1 ?side2 A25.out).mono ?_
                    (case side1 => repeat (first | exact (Kd.C_below HR0_1.out HB.out) | (with_reducible refine Kd.C_alloc ?_ _) | (with_reducible refine Kd.C_drewN ?_ _) | (with_reducible refine Kd.C_drew ?_)))
                    (case side2 => exact HC0_1.out)
                    rintro e w44 ⟨v384, rfl, ho0, hb⟩
                    refine ⟨_, rfl, ?_⟩
                    have n0_ := Aside0.mk (Kd.R_lower ho0 (below_size bw))
                    have n1_ := Aside0.mk (blk_below (bk BK376) hb)
                    have n2_ := Aside0.mk (blk_below (bk BK377) hb)
                    have n3_ := Aside0.mk (below_step bw hb)
                    clear BK376 BK377 HB
                    have HO385 := n0_
                    have BK376 := n1_
                    have BK377 := n2_
                    have HB := n3_
                    clear n0_ n1_ n2_ n3_
                    (try clear hb)
                    (try clear hb2)
                    (try clear hk)
                    (try clear hi)
                    (try clear ho0)
                    refine hK.out _ _ ⟨(blk_cell BK376.out 0).trans rfl, (blk_cell BK376.out 1).trans rfl, (blk_cell BK377.out 0).trans rfl, (blk_cell BK377.out 1).trans rfl⟩ (fun hHeld => ?_)
                    clear hK K
                    refine norm_ (a' := ?_) ?_ ?_
                    rotate_left
                    · show Act.put _ (some 28) _ = _
                      simp only [Act.put, List.setIfInBounds_toArray, List.set_cons_zero, List.set_cons_succ, i64_w, i32_w]
                      rfl
                    refine two_ (i := 3) (j := 8) (Ni := some 30) (Nj := some 5) #[true, true, true, true, false, false, false, false, false, false, false] #[true, true, true, false, false, false, false, false, true, false, false] rfl rfl rfl rfl (two_of HT_.out (by kernel_rfl)) (by decide) (by decide) (fun K hK => ?_) (fun K hK => ?_)
                    · skip
                      refine goes_ Tryd.func15 (by kernel_rfl) rfl #[.agg #[.bool a1_0, .slice A1_1 l1_1.length c1_1]] (by rfl) rfl rfl (by (try simp only [List.map_toArray, List.map_cons, List.map_nil]); first | done | rfl | (simp only [List.length_drop, List.length_take]; rfl)) ?_
                      with_reducible refine (marginalialaw01_own.calls a1_0 _ _ l1_1 t386 t387 _ ?side1 ?side2 A26.out).mono ?_
                      (case side1 => repeat (first | exact (Kd.C_below HR1_1.out HB.out) | (with_reducible refine Kd.C_alloc ?_ _) | (with_reducible refine Kd.C_drewN ?_ _) | (with_reducible refine Kd.C_drew ?_)))
                      (case side2 => exact HC1_1.out)
                      rintro e w45 ⟨v388, rfl, ho0, hb⟩
                      refine ⟨_, rfl, ?_⟩
                      have n0_ := Aside0.mk (Kd.R_elder' (kR HO385) (Kd.R_base ho0) hb)
                      have n1_ := Aside0.mk (Kd.R_lower (Kd.R_new' ho0 (Kd.R_lt (kR HO385))) (below_size bw))
                      have n2_ := Aside0.mk (blk_below (bk BK376) hb)
                      have n3_ := Aside0.mk (blk_below (bk BK377) hb)
                      have n4_ := Aside0.mk (below_step bw hb)
                      clear HO385 BK376 BK377 HB
                      have HO385 := n0_
                      have HO389 := n1_
                      have BK376 := n2_
                      have BK377 := n3_
                      have HB := n4_
                      clear n0_ n1_ n2_ n3_ n4_
                      (try clear hb)
                      (try clear hb2)
                      (try clear hk)
                      (try clear hi)
                      (try clear ho0)
                      obtain ⟨Ao46, co46, eo46⟩ := Kd.R_slice HO385.out
                      (first | subst eo46 | (injection eo46 with f1_ f2_ f3_; have f4_ := f1_.symm; have f5_ := f3_.symm; clear f1_ f2_ f3_; subst f4_; subst f5_))
                      obtain ⟨Ao47, co47, eo47⟩ := Kd.R_slice HO389.out
                      (first | subst eo47 | (injection eo47 with f1_ f2_ f3_; have f4_ := f1_.symm; have f5_ := f3_.symm; clear f1_ f2_ f3_; subst f4_; subst f5_))
                      refine hK.out _ _ ⟨(blk_cell BK376.out 0).trans rfl, (blk_cell BK376.out 1).trans rfl, (blk_cell BK377.out 0).trans rfl, (blk_cell BK377.out 1).trans rfl⟩ (fun hHeld => ?_)
                      clear hK K
                      refine norm_ (a' := ?_) ?_ ?_
                      rotate_left
                      · show Act.put _ (some 30) _ = _
                        simp only [Act.put, List.setIfInBounds_toArray, List.set_cons_zero, List.set_cons_succ, i64_w, i32_w]
                        rfl
                      refine two_ (i := 4) (j := 8) (Ni := some 31) (Nj := some 5) #[true, true, true, true, true, false, false, false, false, false, false] #[true, true, true, true, false, false, false, false, true, false, false] rfl rfl rfl rfl (two_of HT_.out (by kernel_rfl)) (by decide) (by decide) (fun K hK => ?_) (fun K hK => ?_)
                      · skip
                        refine goes_ Tryd.func18 (by kernel_rfl) rfl #[.agg #[.bool t382, .slice Ao46 t383.length co46], .agg #[.bool t386, .slice Ao47 t387.length co47]] (by rfl) rfl rfl (by (try simp only [List.map_toArray, List.map_cons, List.map_nil]); first | done | rfl | (simp only [List.length_drop, List.length_take]; rfl)) ?_
                        with_reducible refine (num_Add.calls kj2 t382 _ _ t383 t386 _ _ t387 t390 t391 t394 _ ?side1 ?side2 ?side3 ?side4 A27.out).mono ?_
                        (case side1 => repeat (first | exact (Kd.R_reads' HO385.out).2.2 | (with_reducible refine Kd.C_alloc ?_ _) | (with_reducible refine Kd.C_drewN ?_ _) | (with_reducible refine Kd.C_drew ?_)))
                        (case side2 => exact (Kd.R_reads' HO385.out).2.1)
                        (case side3 => repeat (first | exact (Kd.R_reads' HO389.out).2.2 | (with_reducible refine Kd.C_alloc ?_ _) | (with_reducible refine Kd.C_drewN ?_ _) | (with_reducible refine Kd.C_drew ?_)))
                        (case side4 => exact (Kd.R_reads' HO389.out).2.1)
                        rintro e w48 ⟨v392, rfl, ho0, hb⟩
                        refine ⟨_, rfl, ?_⟩
                        have n0_ := Aside0.mk (Kd.R_below (kR HO385) hb)
                        have n1_ := Aside0.mk (Kd.R_below (kR HO389) hb)
                        have n2_ := Aside0.mk (Kd.V_lower (Kd.V_mono (ok' := fun k_ => some k_ ≠ (.slice Ao46 t383.length co46 : Value).ownBlock ∧ some k_ ≠ (.slice Ao47 t387.length co47 : Value).ownBlock ∧ k_ ≠ gb376 ∧ k_ ≠ gb377) ho0 (fun k_ hk_ => ⟨(Kd.fresh' (Kd.R_lt (kR HO385)) k_ hk_), (Kd.fresh' (Kd.R_lt (kR HO389)) k_ hk_), (Kd.freshB (bk BK376) k_ hk_), (Kd.freshB (bk BK377) k_ hk_)⟩)) (below_size bw))
                        have n3_ := Aside0.mk (blk_below (bk BK376) hb)
                        have n4_ := Aside0.mk (blk_below (bk BK377) hb)
                        have n5_ := Aside0.mk (below_step bw hb)
                        clear HO385 HO389 BK376 BK377 HB
                        have HO385 := n0_
                        have HO389 := n1_
                        have HO393 := n2_
                        have BK376 := n3_
                        have BK377 := n4_
                        have HB := n5_
                        clear n0_ n1_ n2_ n3_ n4_ n5_
                        (try clear hb)
                        (try clear hb2)
                        (try clear hk)
                        (try clear hi)
                        (try clear ho0)
                        refine hK.out _ _ ⟨(blk_cell BK376.out 0).trans rfl, (blk_cell BK376.out 1).trans rfl, (blk_cell BK377.out 0).trans rfl, (blk_cell BK377.out 1).trans rfl⟩ (fun hHeld => ?_)
                        clear hK K
                        refine norm_ (a' := ?_) ?_ ?_
                        rotate_left
                        · show Act.put _ (some 31) _ = _
                          simp only [Act.put, List.setIfInBounds_toArray, List.set_cons_zero, List.set_cons_succ, i64_w, i32_w]
                          rfl
                        refine pure_ (i := 5) (N := some 26) (v := ?_) (a' := ?_) #[true, true, true, true, true, true, false, false, false, false, false] rfl rfl (any_of HT_.out (by kernel_rfl)) (fun _ _ _ h => h) (Or.inl ⟨by rfl, ?_⟩) ?_ ?_
                        rotate_left
                        · intro w'
                          go_simp
                          with_reducible rfl
                        rotate_left
                        · simp only [Act.put, List.setIfInBounds_toArray, List.set_cons_zero, List.set_cons_succ, i64_w, i32_w]
                          rfl
                        refine pure_ (i := 6) (N := some 32) (v := ?_) (a' := ?_) #[true, true, true, true, true, true, true, false, false, false, false] rfl rfl (any_of HT_.out (by kernel_rfl)) (fun _ _ _ h => h) (Or.inl ⟨by rfl, ?_⟩) ?_ ?_
                        rotate_left
                        · intro w'
                          go_simp
                          with_reducible rfl
                        rotate_left
                        · simp only [Act.put, List.setIfInBounds_toArray, List.set_cons_zero, List.set_cons_succ, i64_w, i32_w]
                          rfl
                        refine pure_ (i := 7) (N := some 33) (v := ?_) (a' := ?_) #[true, true, true, true, true, true, true, true, false, false, false] rfl rfl (any_of HT_.out (by kernel_rfl)) (fun _ _ _ h => h) (Or.inl ⟨by rfl, ?_⟩) ?_ ?_
                        rotate_left
                        · intro w'
                          go_simp
                          with_reducible rfl
                        rotate_left
                        · simp only [Act.put, List.setIfInBounds_toArray, List.set_cons_zero, List.set_cons_succ, i64_w, i32_w]
                          rfl
                        refine one_ (i := 8) (N := some 5) #[true, true, true, true, true, true, true, true, true, false, false] rfl rfl (one_of HT_.out (by kernel_rfl)) (by decide) (fun K hK => ?_)
                        refine box_step ?hg (N := 5) ?hd (cs := #[.bool false, .slice none 0 0]) (t := 24) ?hr ?_; (case hd => rfl); (case hg => rfl); (case hr => first | (go_simp; done) | (go_simp; rfl))
                        intro gb395 hg w49 hbox hb
                        have n0_ := Aside0.mk (Kd.R_below (kR HO385) hb)
                        have n1_ := Aside0.mk (Kd.R_below (kR HO389) hb)
                        have n2_ := Aside0.mk (Kd.V_below (Kd.V_elderB (kV HO393) gb395 (Nat.le_of_eq hg.symm)) hb)
                        have n3_ := Aside0.mk (blk_below (bk BK376) hb)
                        have n4_ := Aside0.mk (blk_below (bk BK377) hb)
                        have n5_ := Aside0.mk (below_step bw hb)
                        have n6_ := Aside0.mk (hbox)
                        have n7_ := Aside0.mk ((szL hg))
                        have n8_ := Aside0.mk ((szL hg))
                        have n9_ := Aside0.mk ((neL hg BK376))
                        have n10_ := Aside0.mk ((neG hg BK376))
                        have n11_ := Aside0.mk ((neL hg BK377))
                        have n12_ := Aside0.mk ((neG hg BK377))
                        clear HO385 HO389 HO393 BK376 BK377 HB
                        have HO385 := n0_
                        have HO389 := n1_
                        have HO393 := n2_
                        have BK376 := n3_
                        have BK377 := n4_
                        have HB := n5_
                        have BK395 := n6_
                        have GW395 := n7_
                        have GE395 := n8_
                        have NB376_395 := n9_
                        have NB395_376 := n10_
                        have NB377_395 := n11_
                        have NB395_377 := n12_
                        clear n0_ n1_ n2_ n3_ n4_ n5_ n6_ n7_ n8_ n9_ n10_ n11_ n12_
                        clear hb hbox hg
                        refine hK.out _ _ ⟨(blk_cell BK376.out 0).trans rfl, (blk_cell BK376.out 1).trans rfl, (blk_cell BK377.out 0).trans rfl, (blk_cell BK377.out 1).trans rfl⟩ (fun hHeld => ?_)
                        clear hK K
                        refine norm_ (a' := ?_) ?_ ?_
                        rotate_left
                        · show Act.put _ (some 5) _ = _
                          simp only [Act.put, List.setIfInBounds_toArray, List.set_cons_zero, List.set_cons_succ, i64_w, i32_w]
                          rfl
                        exact norm_ (by simp only [putAll, Act.put, List.setIfInBounds_toArray, List.set_cons_zero, List.set_cons_succ]) (hCont (.slice Ao46 t383.length co46, .slice Ao47 t387.length co47, v392, gb395) _ ⟨hHeld, (by (with_reducible repeat (first | apply Kd.R_alloc | apply Kd.R_drewN | apply Kd.R_drew)); exact Kd.R_mono HO385.out (fun _ hk => hk.2)), (by (with_reducible repeat (first | apply Kd.R_alloc | apply Kd.R_drewN | apply Kd.R_drew)); exact Kd.R_mono HO389.out (fun _ hk => hk.2)), (by (with_reducible repeat (first | apply Kd.V_alloc | apply Kd.V_drewN | apply Kd.V_drew)); exact Kd.V_mono HO393.out (fun _ hk => ⟨hk.1.1, ⟨hk.1.2.1, ⟨hk.1.2.2.1, ⟨hk.1.2.2.2, hk.2⟩⟩⟩⟩)), (bk BK376), (bk BK377), (bk BK395), GW395.out, GE395.out, NB376_395.out, NB395_376.out, NB377_395.out, NB395_377.out, bw⟩)
                      · skip
                        refine box_step ?hg (N := 5) ?hd (cs := #[.bool false, .slice none 0 0]) (t := 24) ?hr ?_; (case hd => rfl); (case hg => rfl); (case hr => first | (go_simp; done) | (go_simp; rfl))
                        intro gb395 hg w46 hbox hb
                        have n0_ := Aside0.mk (Kd.R_below (kR HO385) hb)
                        have n1_ := Aside0.mk (Kd.R_below (kR HO389) hb)
                        have n2_ := Aside0.mk (blk_below (bk BK376) hb)
                        have n3_ := Aside0.mk (blk_below (bk BK377) hb)
                        have n4_ := Aside0.mk (below_step bw hb)
                        have n5_ := Aside0.mk (hbox)
                        have n6_ := Aside0.mk ((szL hg))
                        have n7_ := Aside0.mk ((szL hg))
                        have n8_ := Aside0.mk ((neL hg BK376))
                        have n9_ := Aside0.mk ((neG hg BK376))
                        have n10_ := Aside0.mk ((neL hg BK377))
                        have n11_ := Aside0.mk ((neG hg BK377))
                        clear HO385 HO389 BK376 BK377 HB
                        have HO385 := n0_
                        have HO389 := n1_
                        have BK376 := n2_
                        have BK377 := n3_
                        have HB := n4_
                        have BK395 := n5_
                        have GW395 := n6_
                        have GE395 := n7_
                        have NB376_395 := n8_
                        have NB395_376 := n9_
                        have NB377_395 := n10_
                        have NB395_377 := n11_
                        clear n0_ n1_ n2_ n3_ n4_ n5_ n6_ n7_ n8_ n9_ n10_ n11_
                        clear hb hbox hg
                        obtain ⟨Ao47, co47, eo47⟩ := Kd.R_slice HO385.out
                        (first | subst eo47 | (injection eo47 with f1_ f2_ f3_; have f4_ := f1_.symm; have f5_ := f3_.symm; clear f1_ f2_ f3_; subst f4_; subst f5_))
                        obtain ⟨Ao48, co48, eo48⟩ := Kd.R_slice HO389.out
                        (first | subst eo48 | (injection eo48 with f1_ f2_ f3_; have f4_ := f1_.symm; have f5_ := f3_.symm; clear f1_ f2_ f3_; subst f4_; subst f5_))
                        refine hK.out _ _ ⟨(blk_cell BK376.out 0).trans rfl, (blk_cell BK376.out 1).trans rfl, (blk_cell BK377.out 0).trans rfl, (blk_cell BK377.out 1).trans rfl⟩ (fun hHeld => ?_)
                        clear hK K
                        refine norm_ (a' := ?_) ?_ ?_
                        rotate_left
                        · show Act.put _ (some 5) _ = _
                          simp only [Act.put, List.setIfInBounds_toArray, List.set_cons_zero, List.set_cons_succ, i64_w, i32_w]
                          rfl
                        refine one_ (i := 4) (N := some 31) #[true, true, true, true, true, false, false, false, true, false, false] rfl rfl (one_of HT_.out (by kernel_rfl)) (by decide) (fun K hK => ?_)
                        refine goes_ Tryd.func18 (by kernel_rfl) rfl #[.agg #[.bool t382, .slice Ao47 t383.length co47], .agg #[.bool t386, .slice Ao48 t387.length co48]] (by rfl) rfl rfl (by (try simp only [List.map_toArray, List.map_cons, List.map_nil]); first | done | rfl | (simp only [List.length_drop, List.length_take]; rfl)) ?_
                        with_reducible refine (num_Add.calls kj2 t382 _ _ t383 t386 _ _ t387 t390 t391 t394 _ ?side1 ?side2 ?side3 ?side4 A27.out).mono ?_
                        (case side1 => repeat (first | exact (Kd.R_reads' HO385.out).2.2 | (with_reducible refine Kd.C_alloc ?_ _) | (with_reducible refine Kd.C_drewN ?_ _) | (with_reducible refine Kd.C_drew ?_)))
                        (case side2 => exact (Kd.R_reads' HO385.out).2.1)
                        (case side3 => repeat (first | exact (Kd.R_reads' HO389.out).2.2 | (with_reducible refine Kd.C_alloc ?_ _) | (with_reducible refine Kd.C_drewN ?_ _) | (with_reducible refine Kd.C_drew ?_)))
                        (case side4 => exact (Kd.R_reads' HO389.out).2.1)
                        rintro e w49 ⟨v392, rfl, ho0, hb⟩
                        refine ⟨_, rfl, ?_⟩
                        have n0_ := Aside0.mk (Kd.R_below (kR HO385) hb)
                        have n1_ := Aside0.mk (Kd.R_below (kR HO389) hb)
                        have n2_ := Aside0.mk (Kd.V_lower (Kd.V_mono (ok' := fun k_ => some k_ ≠ (.slice Ao47 t383.length co47 : Value).ownBlock ∧ some k_ ≠ (.slice Ao48 t387.length co48 : Value).ownBlock ∧ k_ ≠ gb376 ∧ k_ ≠ gb377 ∧ k_ ≠ gb395) ho0 (fun k_ hk_ => ⟨(Kd.fresh' (Kd.R_lt (kR HO385)) k_ hk_), (Kd.fresh' (Kd.R_lt (kR HO389)) k_ hk_), (Kd.freshB (bk BK376) k_ hk_), (Kd.freshB (bk BK377) k_ hk_), (Kd.freshB (bk BK395) k_ hk_)⟩)) (below_size bw))
                        have n3_ := Aside0.mk (blk_below (bk BK376) hb)
                        have n4_ := Aside0.mk (blk_below (bk BK377) hb)
                        have n5_ := Aside0.mk (blk_below (bk BK395) hb)
                        have n6_ := Aside0.mk (below_step bw hb)
                        clear HO385 HO389 BK376 BK377 BK395 HB
                        have HO385 := n0_
                        have HO389 := n1_
                        have HO393 := n2_
                        have BK376 := n3_
                        have BK377 := n4_
                        have BK395 := n5_
                        have HB := n6_
                        clear n0_ n1_ n2_ n3_ n4_ n5_ n6_
                        (try clear hb)
                        (try clear hb2)
                        (try clear hk)
                        (try clear hi)
                        (try clear ho0)
                        refine hK.out _ _ ⟨(blk_cell BK376.out 0).trans rfl, (blk_cell BK376.out 1).trans rfl, (blk_cell BK377.out 0).trans rfl, (blk_cell BK377.out 1).trans rfl⟩ (fun hHeld => ?_)
                        clear hK K
                        refine norm_ (a' := ?_) ?_ ?_
                        rotate_left
                        · show Act.put _ (some 31) _ = _
                          simp only [Act.put, List.setIfInBounds_toArray, List.set_cons_zero, List.set_cons_succ, i64_w, i32_w]
                          rfl
                        refine pure_ (i := 5) (N := some 26) (v := ?_) (a' := ?_) #[true, true, true, true, true, true, false, false, true, false, false] rfl rfl (any_of HT_.out (by kernel_rfl)) (fun _ _ _ h => h) (Or.inl ⟨by rfl, ?_⟩) ?_ ?_
                        rotate_left
                        · intro w'
                          go_simp
                          with_reducible rfl
                        rotate_left
                        · simp only [Act.put, List.setIfInBounds_toArray, List.set_cons_zero, List.set_cons_succ, i64_w, i32_w]
                          rfl
                        refine pure_ (i := 6) (N := some 32) (v := ?_) (a' := ?_) #[true, true, true, true, true, true, true, false, true, false, false] rfl rfl (any_of HT_.out (by kernel_rfl)) (fun _ _ _ h => h) (Or.inl ⟨by rfl, ?_⟩) ?_ ?_
                        rotate_left
                        · intro w'
                          go_simp
                          with_reducible rfl
                        rotate_left
                        · simp only [Act.put, List.setIfInBounds_toArray, List.set_cons_zero, List.set_cons_succ, i64_w, i32_w]
                          rfl
                        refine pure_ (i := 7) (N := some 33) (v := ?_) (a' := ?_) #[true, true, true, true, true, true, true, true, true, false, false] rfl rfl (any_of HT_.out (by kernel_rfl)) (fun _ _ _ h => h) (Or.inl ⟨by rfl, ?_⟩) ?_ ?_
                        rotate_left
                        · intro w'
                          go_simp
                          with_reducible rfl
                        rotate_left
                        · simp only [Act.put, List.setIfInBounds_toArray, List.set_cons_zero, List.set_cons_succ, i64_w, i32_w]
                          rfl
                        exact norm_ (by simp only [putAll, Act.put, List.setIfInBounds_toArray, List.set_cons_zero, List.set_cons_succ]) (hCont (.slice Ao47 t383.length co47, .slice Ao48 t387.length co48, v392, gb395) _ ⟨hHeld, (by (with_reducible repeat (first | apply Kd.R_alloc | apply Kd.R_drewN | apply Kd.R_drew)); exact Kd.R_mono HO385.out (fun _ hk => hk.2)), (by (with_reducible repeat (first | apply Kd.R_alloc | apply Kd.R_drewN | apply Kd.R_drew)); exact Kd.R_mono HO389.out (fun _ hk => hk.2)), (kV HO393), (bk BK376), (bk BK377), (bk BK395), GW395.out, GE395.out, NB376_395.out, NB395_376.out, NB377_395.out, NB395_377.out, bw⟩)
                    · skip
                      refine box_step ?hg (N := 5) ?hd (cs := #[.bool false, .slice none 0 0]) (t := 24) ?hr ?_; (case hd => rfl); (case hg => rfl); (case hr => first | (go_simp; done) | (go_simp; rfl))
                      intro gb395 hg w45 hbox hb
                      have n0_ := Aside0.mk (Kd.R_below (kR HO385) hb)
                      have n1_ := Aside0.mk (blk_below (bk BK376) hb)
                      have n2_ := Aside0.mk (blk_below (bk BK377) hb)
                      have n3_ := Aside0.mk (below_step bw hb)
                      have n4_ := Aside0.mk (hbox)
                      have n5_ := Aside0.mk ((szL hg))
                      have n6_ := Aside0.mk ((szL hg))
                      have n7_ := Aside0.mk ((neL hg BK376))
                      have n8_ := Aside0.mk ((neG hg BK376))
                      have n9_ := Aside0.mk ((neL hg BK377))
                      have n10_ := Aside0.mk ((neG hg BK377))
                      clear HO385 BK376 BK377 HB
                      have HO385 := n0_
                      have BK376 := n1_
                      have BK377 := n2_
                      have HB := n3_
                      have BK395 := n4_
                      have GW395 := n5_
                      have GE395 := n6_
                      have NB376_395 := n7_
                      have NB395_376 := n8_
                      have NB377_395 := n9_
                      have NB395_377 := n10_
                      clear n0_ n1_ n2_ n3_ n4_ n5_ n6_ n7_ n8_ n9_ n10_
                      clear hb hbox hg
                      refine hK.out _ _ ⟨(blk_cell BK376.out 0).trans rfl, (blk_cell BK376.out 1).trans rfl, (blk_cell BK377.out 0).trans rfl, (blk_cell BK377.out 1).trans rfl⟩ (fun hHeld => ?_)
                      clear hK K
                      refine norm_ (a' := ?_) ?_ ?_
                      rotate_left
                      · show Act.put _ (some 5) _ = _
                        simp only [Act.put, List.setIfInBounds_toArray, List.set_cons_zero, List.set_cons_succ, i64_w, i32_w]
                        rfl
                      refine one_ (i := 3) (N := some 30) #[true, true, true, true, false, false, false, false, true, false, false] rfl rfl (one_of HT_.out (by kernel_rfl)) (by decide) (fun K hK => ?_)
                      refine goes_ Tryd.func15 (by kernel_rfl) rfl #[.agg #[.bool a1_0, .slice A1_1 l1_1.length c1_1]] (by rfl) rfl rfl (by (try simp only [List.map_toArray, List.map_cons, List.map_nil]); first | done | rfl | (simp only [List.length_drop, List.length_take]; rfl)) ?_
                      with_reducible refine (marginalialaw01_own.calls a1_0 _ _ l1_1 t386 t387 _ ?side1 ?side2 A26.out).mono ?_
                      (case side1 => repeat (first | exact (Kd.C_below HR1_1.out HB.out) | (with_reducible refine Kd.C_alloc ?_ _) | (with_reducible refine Kd.C_drewN ?_ _) | (with_reducible refine Kd.C_drew ?_)))
                      (case side2 => exact HC1_1.out)
                      rintro e w46 ⟨v388, rfl, ho0, hb⟩
                      refine ⟨_, rfl, ?_⟩
                      have n0_ := Aside0.mk (Kd.R_elder' (kR HO385) (Kd.R_base ho0) hb)
                      have n1_ := Aside0.mk (Kd.R_lower (Kd.R_new' ho0 (Kd.R_lt (kR HO385))) (below_size bw))
                      have n2_ := Aside0.mk (blk_below (bk BK376) hb)
                      have n3_ := Aside0.mk (blk_below (bk BK377) hb)
                      have n4_ := Aside0.mk (blk_below (bk BK395) hb)
                      have n5_ := Aside0.mk (below_step bw hb)
                      clear HO385 BK376 BK377 BK395 HB
                      have HO385 := n0_
                      have HO389 := n1_
                      have BK376 := n2_
                      have BK377 := n3_
                      have BK395 := n4_
                      have HB := n5_
                      clear n0_ n1_ n2_ n3_ n4_ n5_
                      (try clear hb)
                      (try clear hb2)
                      (try clear hk)
                      (try clear hi)
                      (try clear ho0)
                      obtain ⟨Ao47, co47, eo47⟩ := Kd.R_slice HO385.out
                      (first | subst eo47 | (injection eo47 with f1_ f2_ f3_; have f4_ := f1_.symm; have f5_ := f3_.symm; clear f1_ f2_ f3_; subst f4_; subst f5_))
                      obtain ⟨Ao48, co48, eo48⟩ := Kd.R_slice HO389.out
                      (first | subst eo48 | (injection eo48 with f1_ f2_ f3_; have f4_ := f1_.symm; have f5_ := f3_.symm; clear f1_ f2_ f3_; subst f4_; subst f5_))
                      refine hK.out _ _ ⟨(blk_cell BK376.out 0).trans rfl, (blk_cell BK376.out 1).trans rfl, (blk_cell BK377.out 0).trans rfl, (blk_cell BK377.out 1).trans rfl⟩ (fun hHeld => ?_)
                      clear hK K
                      refine norm_ (a' := ?_) ?_ ?_
                      rotate_left
                      · show Act.put _ (some 30) _ = _
                        simp only [Act.put, List.setIfInBounds_toArray, List.set_cons_zero, List.set_cons_succ, i64_w, i32_w]
                        rfl
                      refine one_ (i := 4) (N := some 31) #[true, true, true, true, true, false, false, false, true, false, false] rfl rfl (one_of HT_.out (by kernel_rfl)) (by decide) (fun K hK => ?_)
                      refine goes_ Tryd.func18 (by kernel_rfl) rfl #[.agg #[.bool t382, .slice Ao47 t383.length co47], .agg #[.bool t386, .slice Ao48 t387.length co48]] (by rfl) rfl rfl (by (try simp only [List.map_toArray, List.map_cons, List.map_nil]); first | done | rfl | (simp only [List.length_drop, List.length_take]; rfl)) ?_
                      with_reducible refine (num_Add.calls kj2 t382 _ _ t383 t386 _ _ t387 t390 t391 t394 _ ?side1 ?side2 ?side3 ?side4 A27.out).mono ?_
                      (case side1 => repeat (first | exact (Kd.R_reads' HO385.out).2.2 | (with_reducible refine Kd.C_alloc ?_ _) | (with_reducible refine Kd.C_drewN ?_ _) | (with_reducible refine Kd.C_drew ?_)))
                      (case side2 => exact (Kd.R_reads' HO385.out).2.1)
                      (case side3 => repeat (first | exact (Kd.R_reads' HO389.out).2.2 | (with_reducible refine Kd.C_alloc ?_ _) | (with_reducible refine Kd.C_drewN ?_ _) | (with_reducible refine Kd.C_drew ?_)))
                      (case side4 => exact (Kd.R_reads' HO389.out).2.1)
                      rintro e w49 ⟨v392, rfl, ho0, hb⟩
                      refine ⟨_, rfl, ?_⟩
                      have n0_ := Aside0.mk (Kd.R_below (kR HO385) hb)
                      have n1_ := Aside0.mk (Kd.R_below (kR HO389) hb)
                      have n2_ := Aside0.mk (Kd.V_lower (Kd.V_mono (ok' := fun k_ => some k_ ≠ (.slice Ao47 t383.length co47 : Value).ownBlock ∧ some k_ ≠ (.slice Ao48 t387.length co48 : Value).ownBlock ∧ k_ ≠ gb376 ∧ k_ ≠ gb377 ∧ k_ ≠ gb395) ho0 (fun k_ hk_ => ⟨(Kd.fresh' (Kd.R_lt (kR HO385)) k_ hk_), (Kd.fresh' (Kd.R_lt (kR HO389)) k_ hk_), (Kd.freshB (bk BK376) k_ hk_), (Kd.freshB (bk BK377) k_ hk_), (Kd.freshB (bk BK395) k_ hk_)⟩)) (below_size bw))
                      have n3_ := Aside0.mk (blk_below (bk BK376) hb)
                      have n4_ := Aside0.mk (blk_below (bk BK377) hb)
                      have n5_ := Aside0.mk (blk_below (bk BK395) hb)
                      have n6_ := Aside0.mk (below_step bw hb)
                      clear HO385 HO389 BK376 BK377 BK395 HB
                      have HO385 := n0_
                      have HO389 := n1_
                      have HO393 := n2_
                      have BK376 := n3_
                      have BK377 := n4_
                      have BK395 := n5_
                      have HB := n6_
                      clear n0_ n1_ n2_ n3_ n4_ n5_ n6_
                      (try clear hb)
                      (try clear hb2)
                      (try clear hk)
                      (try clear hi)
                      (try clear ho0)
                      refine hK.out _ _ ⟨(blk_cell BK376.out 0).trans rfl, (blk_cell BK376.out 1).trans rfl, (blk_cell BK377.out 0).trans rfl, (blk_cell BK377.out 1).trans rfl⟩ (fun hHeld => ?_)
                      clear hK K
                      refine norm_ (a' := ?_) ?_ ?_
                      rotate_left
                      · show Act.put _ (some 31) _ = _
                        simp only [Act.put, List.setIfInBounds_toArray, List.set_cons_zero, List.set_cons_succ, i64_w, i32_w]
                        rfl
                      refine pure_ (i := 5) (N := some 26) (v := ?_) (a' := ?_) #[true, true, true, true, true, true, false, false, true, false, false] rfl rfl (any_of HT_.out (by kernel_rfl)) (fun _ _ _ h => h) (Or.inl ⟨by rfl, ?_⟩) ?_ ?_
                      rotate_left
                      · intro w'
                        go_simp
                        with_reducible rfl
                      rotate_left
                      · simp only [Act.put, List.setIfInBounds_toArray, List.set_cons_zero, List.set_cons_succ, i64_w, i32_w]
                        rfl
                      refine pure_ (i := 6) (N := some 32) (v := ?_) (a' := ?_) #[true, true, true, true, true, true, true, false, true, false, false] rfl rfl (any_of HT_.out (by kernel_rfl)) (fun _ _ _ h => h) (Or.inl ⟨by rfl, ?_⟩) ?_ ?_
                      rotate_left
                      · intro w'
                        go_simp
                        with_reducible rfl
                      rotate_left
                      · simp only [Act.put, List.setIfInBounds_toArray, List.set_cons_zero, List.set_cons_succ, i64_w, i32_w]
                        rfl
                      refine pure_ (i := 7) (N := some 33) (v := ?_) (a' := ?_) #[true, true, true, true, true, true, true, true, true, false, false] rfl rfl (any_of HT_.out (by kernel_rfl)) (fun _ _ _ h => h) (Or.inl ⟨by rfl, ?_⟩) ?_ ?_
                      rotate_left
                      · intro w'
                        go_simp
                        with_reducible rfl
                      rotate_left
                      · simp only [Act.put, List.setIfInBounds_toArray, List.set_cons_zero, List.set_cons_succ, i64_w, i32_w]
                        rfl
                      exact norm_ (by simp only [putAll, Act.put, List.setIfInBounds_toArray, List.set_cons_zero, List.set_cons_succ]) (hCont (.slice Ao47 t383.length co47, .slice Ao48 t387.length co48, v392, gb395) _ ⟨hHeld, (by (with_reducible repeat (first | apply Kd.R_alloc | apply Kd.R_drewN | apply Kd.R_drew)); exact Kd.R_mono HO385.out (fun _ hk => hk.2)), (by (with_reducible repeat (first | apply Kd.R_alloc | apply Kd.R_drewN | apply Kd.R_drew)); exact Kd.R_mono HO389.out (fun _ hk => hk.2)), (kV HO393), (bk BK376), (bk BK377), (bk BK395), GW395.out, GE395.out, NB376_395.out, NB395_376.out, NB377_395.out, NB395_377.out, bw⟩)
                  · skip
                    refine box_step ?hg (N := 5) ?hd (cs := #[.bool false, .slice none 0 0]) (t := 24) ?hr ?_; (case hd => rfl); (case hg => rfl); (case hr => first | (go_simp; done) | (go_simp; rfl))
                    intro gb395 hg w44 hbox hb
                    have n0_ := Aside0.mk (blk_below (bk BK376) hb)
                    have n1_ := Aside0.mk (blk_below (bk BK377) hb)
                    have n2_ := Aside0.mk (below_step bw hb)
                    have n3_ := Aside0.mk (hbox)
                    have n4_ := Aside0.mk ((szL hg))
                    have n5_ := Aside0.mk ((szL hg))
                    have n6_ := Aside0.mk ((neL hg BK376))
                    have n7_ := Aside0.mk ((neG hg BK376))
                    have n8_ := Aside0.mk ((neL hg BK377))
                    have n9_ := Aside0.mk ((neG hg BK377))
                    clear BK376 BK377 HB
                    have BK376 := n0_
                    have BK377 := n1_
                    have HB := n2_
                    have BK395 := n3_
                    have GW395 := n4_
                    have GE395 := n5_
                    have NB376_395 := n6_
                    have NB395_376 := n7_
                    have NB377_395 := n8_
                    have NB395_377 := n9_
                    clear n0_ n1_ n2_ n3_ n4_ n5_ n6_ n7_ n8_ n9_
                    clear hb hbox hg
                    refine hK.out _ _ ⟨(blk_cell BK376.out 0).trans rfl, (blk_cell BK376.out 1).trans rfl, (blk_cell BK377.out 0).trans rfl, (blk_cell BK377.out 1).trans rfl⟩ (fun hHeld => ?_)
                    clear hK K
                    refine norm_ (a' := ?_) ?_ ?_
                    rotate_left
                    · show Act.put _ (some 5) _ = _
                      simp only [Act.put, List.setIfInBounds_toArray, List.set_cons_zero, List.set_cons_succ, i64_w, i32_w]
                      rfl
                    refine one_ (i := 1) (N := some 28) #[true, true, true, false, false, false, false, false, true, false, false] rfl rfl (one_of HT_.out (by kernel_rfl)) (by decide) (fun K hK => ?_)
                    refine goes_ Tryd.func15 (by kernel_rfl) rfl #[.agg #[.bool a0_0, .slice A0_1 l0_1.length c0_1]] (by rfl) rfl rfl (by (try simp only [List.map_toArray, List.map_cons, List.map_nil]); first | done | rfl | (simp only [List.length_drop, List.length_take]; rfl)) ?_
                    with_reducible refine (marginalialaw01_own.calls a0_0 _ _ l0_1 t382 t383 _ ?side1 ?side2 A25.out).mono ?_
                    (case side1 => repeat (first | exact (Kd.C_below HR0_1.out HB.out) | (with_reducible refine Kd.C_alloc ?_ _) | (with_reducible refine Kd.C_drewN ?_ _) | (with_reducible refine Kd.C_drew ?_)))
                    (case side2 => exact HC0_1.out)
                    rintro e w45 ⟨v384, rfl, ho0, hb⟩
                    refine ⟨_, rfl, ?_⟩
                    have n0_ := Aside0.mk (Kd.R_lower ho0 (below_size bw))
                    have n1_ := Aside0.mk (blk_below (bk BK376) hb)
                    have n2_ := Aside0.mk (blk_below (bk BK377) hb)
                    have n3_ := Aside0.mk (blk_below (bk BK395) hb)
                    have n4_ := Aside0.mk (below_step bw hb)
                    clear BK376 BK377 BK395 HB
                    have HO385 := n0_
                    have BK376 := n1_
                    have BK377 := n2_
                    have BK395 := n3_
                    have HB := n4_
                    clear n0_ n1_ n2_ n3_ n4_
                    (try clear hb)
                    (try clear hb2)
                    (try clear hk)
                    (try clear hi)
                    (try clear ho0)
                    refine hK.out _ _ ⟨(blk_cell BK376.out 0).trans rfl, (blk_cell BK376.out 1).trans rfl, (blk_cell BK377.out 0).trans rfl, (blk_cell BK377.out 1).trans rfl⟩ (fun hHeld => ?_)
                    clear hK K
                    refine norm_ (a' := ?_) ?_ ?_
                    rotate_left
                    · show Act.put _ (some 28) _ = _
                      simp only [Act.put, List.setIfInBounds_toArray, List.set_cons_zero, List.set_cons_succ, i64_w, i32_w]
                      rfl
                    refine one_ (i := 3) (N := some 30) #[true, true, true, true, false, false, false, false, true, false, false] rfl rfl (one_of HT_.out (by kernel_rfl)) (by decide) (fun K hK => ?_)
                    refine goes_ Tryd.func15 (by kernel_rfl) rfl #[.agg #[.bool a1_0, .slice A1_1 l1_1.length c1_1]] (by rfl) rfl rfl (by (try simp only [List.map_toArray, List.map_cons, List.map_nil]); first | done | rfl | (simp only [List.length_drop, List.length_take]; rfl)) ?_
                    with_reducible refine (marginalialaw01_own.calls a1_0 _ _ l1_1 t386 t387 _ ?side1 ?side2 A26.out).mono ?_
                    (case side1 => repeat (first | exact (Kd.C_below HR1_1.out HB.out) | (with_reducible refine Kd.C_alloc ?_ _) | (with_reducible refine Kd.C_drewN ?_ _) | (with_reducible refine Kd.C_drew ?_)))
                    (case side2 => exact HC1_1.out)
                    rintro e w46 ⟨v388, rfl, ho0, hb⟩
                    refine ⟨_, rfl, ?_⟩
                    have n0_ := Aside0.mk (Kd.R_elder' (kR HO385) (Kd.R_base ho0) hb)
                    have n1_ := Aside0.mk (Kd.R_lower (Kd.R_new' ho0 (Kd.R_lt (kR HO385))) (below_size bw))
                    have n2_ := Aside0.mk (blk_below (bk BK376) hb)
                    have n3_ := Aside0.mk (blk_below (bk BK377) hb)
                    have n4_ := Aside0.mk (blk_below (bk BK395) hb)
                    have n5_ := Aside0.mk (below_step bw hb)
                    clear HO385 BK376 BK377 BK395 HB
                    have HO385 := n0_
                    have HO389 := n1_
                    have BK376 := n2_
                    have BK377 := n3_
                    have BK395 := n4_
                    have HB := n5_
                    clear n0_ n1_ n2_ n3_ n4_ n5_
                    (try clear hb)
                    (try clear hb2)
                    (try clear hk)
                    (try clear hi)
                    (try clear ho0)
                    obtain ⟨Ao47, co47, eo47⟩ := Kd.R_slice HO385.out
                    (first | subst eo47 | (injection eo47 with f1_ f2_ f3_; have f4_ := f1_.symm; have f5_ := f3_.symm; clear f1_ f2_ f3_; subst f4_; subst f5_))
                    obtain ⟨Ao48, co48, eo48⟩ := Kd.R_slice HO389.out
                    (first | subst eo48 | (injection eo48 with f1_ f2_ f3_; have f4_ := f1_.symm; have f5_ := f3_.symm; clear f1_ f2_ f3_; subst f4_; subst f5_))
                    refine hK.out _ _ ⟨(blk_cell BK376.out 0).trans rfl, (blk_cell BK376.out 1).trans rfl, (blk_cell BK377.out 0).trans rfl, (blk_cell BK377.out 1).trans rfl⟩ (fun hHeld => ?_)
                    clear hK K
                    refine norm_ (a' := ?_) ?_ ?_
                    rotate_left
                    · show Act.put _ (some 30) _ = _
                      simp only [Act.put, List.setIfInBounds_toArray, List.set_cons_zero, List.set_cons_succ, i64_w, i32_w]
                      rfl
                    refine one_ (i := 4) (N := some 31) #[true, true, true, true, true, false, false, false, true, false, false] rfl rfl (one_of HT_.out (by kernel_rfl)) (by decide) (fun K hK => ?_)
                    refine goes_ Tryd.func18 (by kernel_rfl) rfl #[.agg #[.bool t382, .slice Ao47 t383.length co47], .agg #[.bool t386, .slice Ao48 t387.length co48]] (by rfl) rfl rfl (by (try simp only [List.map_toArray, List.map_cons, List.map_nil]); first | done | rfl | (simp only [List.length_drop, List.length_take]; rfl)) ?_
                    with_reducible refine (num_Add.calls kj2 t382 _ _ t383 t386 _ _ t387 t390 t391 t394 _ ?side1 ?side2 ?side3 ?side4 A27.out).mono ?_
                    (case side1 => repeat (first | exact (Kd.R_reads' HO385.out).2.2 | (with_reducible refine Kd.C_alloc ?_ _) | (with_reducible refine Kd.C_drewN ?_ _) | (with_reducible refine Kd.C_drew ?_)))
                    (case side2 => exact (Kd.R_reads' HO385.out).2.1)
                    (case side3 => repeat (first | exact (Kd.R_reads' HO389.out).2.2 | (with_reducible refine Kd.C_alloc ?_ _) | (with_reducible refine Kd.C_drewN ?_ _) | (with_reducible refine Kd.C_drew ?_)))
                    (case side4 => exact (Kd.R_reads' HO389.out).2.1)
                    rintro e w49 ⟨v392, rfl, ho0, hb⟩
                    refine ⟨_, rfl, ?_⟩
                    have n0_ := Aside0.mk (Kd.R_below (kR HO385) hb)
                    have n1_ := Aside0.mk (Kd.R_below (kR HO389) hb)
                    have n2_ := Aside0.mk (Kd.V_lower (Kd.V_mono (ok' := fun k_ => some k_ ≠ (.slice Ao47 t383.length co47 : Value).ownBlock ∧ some k_ ≠ (.slice Ao48 t387.length co48 : Value).ownBlock ∧ k_ ≠ gb376 ∧ k_ ≠ gb377 ∧ k_ ≠ gb395) ho0 (fun k_ hk_ => ⟨(Kd.fresh' (Kd.R_lt (kR HO385)) k_ hk_), (Kd.fresh' (Kd.R_lt (kR HO389)) k_ hk_), (Kd.freshB (bk BK376) k_ hk_), (Kd.freshB (bk BK377) k_ hk_), (Kd.freshB (bk BK395) k_ hk_)⟩)) (below_size bw))
                    have n3_ := Aside0.mk (blk_below (bk BK376) hb)
                    have n4_ := Aside0.mk (blk_below (bk BK377) hb)
                    have n5_ := Aside0.mk (blk_below (bk BK395) hb)
                    have n6_ := Aside0.mk (below_step bw hb)
                    clear HO385 HO389 BK376 BK377 BK395 HB
                    have HO385 := n0_
                    have HO389 := n1_
                    have HO393 := n2_
                    have BK376 := n3_
                    have BK377 := n4_
                    have BK395 := n5_
                    have HB := n6_
                    clear n0_ n1_ n2_ n3_ n4_ n5_ n6_
                    (try clear hb)
                    (try clear hb2)
                    (try clear hk)
                    (try clear hi)
                    (try clear ho0)
                    refine hK.out _ _ ⟨(blk_cell BK376.out 0).trans rfl, (blk_cell BK376.out 1).trans rfl, (blk_cell BK377.out 0).trans rfl, (blk_cell BK377.out 1).trans rfl⟩ (fun hHeld => ?_)
                    clear hK K
                    refine norm_ (a' := ?_) ?_ ?_
                    rotate_left
                    · show Act.put _ (some 31) _ = _
                      simp only [Act.put, List.setIfInBounds_toArray, List.set_cons_zero, List.set_cons_succ, i64_w, i32_w]
                      rfl
                    refine pure_ (i := 5) (N := some 26) (v := ?_) (a' := ?_) #[true, true, true, true, true, true, false, false, true, false, false] rfl rfl (any_of HT_.out (by kernel_rfl)) (fun _ _ _ h => h) (Or.inl ⟨by rfl, ?_⟩) ?_ ?_
                    rotate_left
                    · intro w'
                      go_simp
                      with_reducible rfl
                    rotate_left
                    · simp only [Act.put, List.setIfInBounds_toArray, List.set_cons_zero, List.set_cons_succ, i64_w, i32_w]
                      rfl
                    refine pure_ (i := 6) (N := some 32) (v := ?_) (a' := ?_) #[true, true, true, true, true, true, true, false, true, false, false] rfl rfl (any_of HT_.out (by kernel_rfl)) (fun _ _ _ h => h) (Or.inl ⟨by rfl, ?_⟩) ?_ ?_
                    rotate_left
                    · intro w'
                      go_simp
                      with_reducible rfl
                    rotate_left
                    · simp only [Act.put, List.setIfInBounds_toArray, List.set_cons_zero, List.set_cons_succ, i64_w, i32_w]
                      rfl
                    refine pure_ (i := 7) (N := some 33) (v := ?_) (a' := ?_) #[true, true, true, true, true, true, true, true, true, false, false] rfl rfl (any_of HT_.out (by kernel_rfl)) (fun _ _ _ h => h) (Or.inl ⟨by rfl, ?_⟩) ?_ ?_
                    rotate_left
                    · intro w'
                      go_simp
                      with_reducible rfl
                    rotate_left
                    · simp only [Act.put, List.setIfInBounds_toArray, List.set_cons_zero, List.set_cons_succ, i64_w, i32_w]
                      rfl
                    exact norm_ (by simp only [putAll, Act.put, List.setIfInBounds_toArray, List.set_cons_zero, List.set_cons_succ]) (hCont (.slice Ao47 t383.length co47, .slice Ao48 t387.length co48, v392, gb395) _ ⟨hHeld, (by (with_reducible repeat (first | apply Kd.R_alloc | apply Kd.R_drewN | apply Kd.R_drew)); exact Kd.R_mono HO385.out (fun _ hk => hk.2)), (by (with_reducible repeat (first | apply Kd.R_alloc | apply Kd.R_drewN | apply Kd.R_drew)); exact Kd.R_mono HO389.out (fun _ hk => hk.2)), (kV HO393), (bk BK376), (bk BK377), (bk BK395), GW395.out, GE395.out, NB376_395.out, NB395_376.out, NB377_395.out, NB395_377.out, bw⟩)
                rintro ⟨v384, v388, v392, gb395⟩ w50 ⟨hS_, h0_, h1_, h2_, h3_, h4_, h5_, h6_, h7_, h8_, h9_, h10_, h11_, h12_⟩
                have n0_ : Aside0 (Kd.R (Kd.int .u32) 48 w50 w.heap.size (fun k_ => some k_ ≠ (v388 : Value).ownBlock) v384 t383) := ⟨h0_⟩
                have n1_ : Aside0 (Kd.R (Kd.int .u32) 48 w50 w.heap.size (fun k_ => some k_ ≠ (v384 : Value).ownBlock) v388 t387) := ⟨h1_⟩
                have n2_ : Aside0 (Kd.V (Kd.int .u32) 48 w50 w.heap.size (fun k_ => some k_ ≠ (v384 : Value).ownBlock ∧ some k_ ≠ (v388 : Value).ownBlock ∧ k_ ≠ gb376 ∧ k_ ≠ gb377 ∧ k_ ≠ gb395) v392 t391) := ⟨h2_⟩
                have n3_ : Aside0 (w50.heap[gb376]? = some (.cells #[.bool a0_0, .slice A0_1 l0_1.length c0_1] 24 (0, 0))) := ⟨h3_⟩
                have n4_ : Aside0 (w50.heap[gb377]? = some (.cells #[.bool a1_0, .slice A1_1 l1_1.length c1_1] 24 (0, 0))) := ⟨h4_⟩
                have n5_ : Aside0 (w50.heap[gb395]? = some (.cells #[.bool false, .slice none 0 0] 24 (0, 0))) := ⟨h5_⟩
                have n6_ : Aside0 (w.heap.size ≤ gb395) := ⟨h6_⟩
                have n7_ : Aside0 (w.heap.size ≤ gb395) := ⟨h7_⟩
                have n8_ : Aside0 (gb376 ≠ gb395) := ⟨h8_⟩
                have n9_ : Aside0 (gb395 ≠ gb376) := ⟨h9_⟩
                have n10_ : Aside0 (gb377 ≠ gb395) := ⟨h10_⟩
                have n11_ : Aside0 (gb395 ≠ gb377) := ⟨h11_⟩
                have n12_ : Aside0 (Below w.heap.size w w50) := ⟨h12_⟩
                clear BK376 BK377 HB
                clear h0_ h1_ h2_ h3_ h4_ h5_ h6_ h7_ h8_ h9_ h10_ h11_ h12_
                have HO385 := n0_
                have HO389 := n1_
                have HO393 := n2_
                have BK376 := n3_
                have BK377 := n4_
                have BK395 := n5_
                have GW395 := n6_
                have GE395 := n7_
                have NB376_395 := n8_
                have NB395_376 := n9_
                have NB377_395 := n10_
                have NB395_377 := n11_
                have HB := n12_
                clear n0_ n1_ n2_ n3_ n4_ n5_ n6_ n7_ n8_ n9_ n10_ n11_ n12_
                have hHeld : w50.cell? ⟨gb376, 0, none⟩ = some (.bool a0_0) ∧ w50.cell? ⟨gb376, 1, none⟩ = some (.slice A0_1 l0_1.length c0_1) ∧ w50.cell? ⟨gb377, 0, none⟩ = some (.bool a1_0) ∧ w50.cell? ⟨gb377, 1, none⟩ = some (.slice A1_1 l1_1.length c1_1) := hS_
                obtain ⟨Ao52, co52, eo52⟩ := Kd.V_slice HO393.out
                (first | subst eo52 | (injection eo52 with f1_ f2_ f3_; have f4_ := f1_.symm; have f5_ := f3_.symm; clear f1_ f2_ f3_; subst f4_; subst f5_))
                refine norm_ (a' := ?_) ?_ ?_
                rotate_left
                · simp only [putAll, Act.put, List.setIfInBounds_toArray, List.set_cons_zero, List.set_cons_succ]
                  rfl
                refine one_ (i := 9) (N := none) #[true, true, true, true, true, true, true, true, true, true, false] rfl rfl (one_of HT_.out (by kernel_rfl)) (by decide) (fun K hK => ?_)
                have hs51 : w50.cell? ⟨gb395, 0, none⟩ = some (.bool false) := (blk_cell BK395.out 0).trans rfl
                have hfs51 := blk_frozen BK395.out 0
                have hns51_0 := NB376_395.out
                have hns51_1 := NB377_395.out
                have hms51_0 := NB395_376.out
                have hms51_1 := NB395_377.out
                have hs53 : w50.cell? ⟨gb395, 1, none⟩ = some (.slice none 0 0) := (blk_cell BK395.out 1).trans rfl
                have hfs53 := blk_frozen BK395.out 1
                have hns53_0 := NB376_395.out
                have hns53_1 := NB377_395.out
                have hms53_0 := NB395_376.out
                have hms53_1 := NB395_377.out
                refine skip_ (w1 := ?_) (by rfl) rfl ?_ ?_
                rotate_left
                · go_simp
                  rfl
                refine hK.out _ _ ⟨((cell_far (p := ⟨gb395, _, none⟩) NB376_395.out _).trans (((cell_far (p := ⟨gb395, _, none⟩) NB376_395.out _).trans (hHeld.1)))), ((cell_far (p := ⟨gb395, _, none⟩) NB376_395.out _).trans (((cell_far (p := ⟨gb395, _, none⟩) NB376_395.out _).trans (hHeld.2.1)))), ((cell_far (p := ⟨gb395, _, none⟩) NB377_395.out _).trans (((cell_far (p := ⟨gb395, _, none⟩) NB377_395.out _).trans (hHeld.2.2.1)))), ((cell_far (p := ⟨gb395, _, none⟩) NB377_395.out _).trans (((cell_far (p := ⟨gb395, _, none⟩) NB377_395.out _).trans (hHeld.2.2.2))))⟩ (fun hHeld => ?_)
                clear hK K
                refine pure_ (i := 10) (N := some 6) (v := ?_) (a' := ?_) #[true, true, true, true, true, true, true, true, true, true, true] rfl rfl (any_of HT_.out (by kernel_rfl)) (fun _ _ _ h => h) (Or.inl ⟨by rfl, ?_⟩) ?_ ?_
                rotate_left
                · intro w'
                  go_simp
                  with_reducible rfl
                rotate_left
                · simp only [Act.put, List.setIfInBounds_toArray, List.set_cons_zero, List.set_cons_succ, i64_w, i32_w]
                  rfl
                refine done_ (done_of HT_.out (by kernel_rfl)) ?_
                have hnb54 := NB376_377.out
                have hnc54 := NB377_376.out
                have hnb55 := NB376_395.out
                have hnc55 := NB395_376.out
                have hcz56_0 : w50.cell? ⟨gb376, 0, none⟩ = some (.bool a0_0) := (blk_cell BK376.out 0).trans rfl
                have hcz56_1 : w50.cell? ⟨gb376, 1, none⟩ = some (.slice A0_1 l0_1.length c0_1) := (blk_cell BK376.out 1).trans rfl
                have hfz56_0 := blk_frozen BK376.out 0
                have hfz56_1 := blk_frozen BK376.out 1
                have hnb57 := NB377_395.out
                have hnc57 := NB395_377.out
                have hcz58_0 : w50.cell? ⟨gb377, 0, none⟩ = some (.bool a1_0) := (blk_cell BK377.out 0).trans rfl
                have hcz58_1 : w50.cell? ⟨gb377, 1, none⟩ = some (.slice A1_1 l1_1.length c1_1) := (blk_cell BK377.out 1).trans rfl
                have hfz58_0 := blk_frozen BK377.out 0
                have hfz58_1 := blk_frozen BK377.out 1
                try go_wp2_with (first | ((with_reducible refine gate_callee (f := 19) rfl ?_); refine goesL_ (some 37) rfl rfl Tryd.func19 (by kernel_rfl) rfl #[.agg #[.bool a0_0, .slice A0_1 l0_1.length c0_1], .agg #[.bool a1_0, .slice A1_1 l1_1.length c1_1]] rfl (by (try simp only [List.map_toArray, List.map_cons, List.map_nil]); first | done | rfl | (simp only [List.length_drop, List.length_take]; rfl)) ?_; (with_reducible refine (marginaliaref01_Add.calls kj2 a0_0 _ _ l0_1 a1_0 _ _ l1_1 t396 t397 t400 _ ?side1 ?side2 ?side3 ?side4 A28.out).mono ?_); (case side1 => exact Kd.C_below HR0_1.out bw); (case side2 => exact HC0_1.out); (case side3 => exact Kd.C_below HR1_1.out bw); (case side4 => exact HC1_1.out); rintro e w59 ⟨v398, rfl, ho0, hb⟩; refine ⟨_, rfl, ?_⟩; have n0_ := Aside0.mk (Kd.R_elder' (by (with_reducible repeat (first | apply Kd.R_alloc | apply Kd.R_drewN | apply Kd.R_drew)); exact (Kd.R_mono (Kd.R_far (p := ⟨gb395, 1, none⟩) (Kd.R_far (p := ⟨gb395, 0, none⟩) (Kd.R_types HO385.out BK395.out (by decide)) (fun _ hk => hk.2) (.bool t390)) (fun _ hk => hk.2) (.slice Ao52 t391.length co52)) (fun _ h_ => h_.1))) (Kd.R_base ho0) hb); have n1_ := Aside0.mk (Kd.R_elder' (by (with_reducible repeat (first | apply Kd.R_alloc | apply Kd.R_drewN | apply Kd.R_drew)); exact (Kd.R_mono (Kd.R_far (p := ⟨gb395, 1, none⟩) (Kd.R_far (p := ⟨gb395, 0, none⟩) (Kd.R_types HO389.out BK395.out (by decide)) (fun _ hk => hk.2) (.bool t390)) (fun _ hk => hk.2) (.slice Ao52 t391.length co52)) (fun _ h_ => h_.1))) (Kd.R_base ho0) hb); have n2_ := Aside0.mk (Kd.V_elder' (by (with_reducible repeat (first | apply Kd.V_alloc | apply Kd.V_drewN | apply Kd.V_drew)); exact (Kd.V_mono (Kd.V_far (p := ⟨gb395, 1, none⟩) (Kd.V_far (p := ⟨gb395, 0, none⟩) (Kd.V_mono HO393.out (fun k_ hk => (⟨hk, hk.2.2.2.2⟩ : _ ∧ k_ ≠ gb395))) (fun _ hk => hk.2) (.bool t390)) (fun _ hk => hk.2) (.slice Ao52 t391.length co52)) (fun _ h_ => h_.1))) (Kd.R_base ho0) hb); have n3_ := Aside0.mk (Kd.R_lower (Kd.R_new' (Kd.R_new' ho0 (Kd.R_lt (by (with_reducible repeat (first | apply Kd.R_alloc | apply Kd.R_drewN | apply Kd.R_drew)); exact (Kd.R_mono (Kd.R_far (p := ⟨gb395, 1, none⟩) (Kd.R_far (p := ⟨gb395, 0, none⟩) (Kd.R_types HO385.out BK395.out (by decide)) (fun _ hk => hk.2) (.bool t390)) (fun _ hk => hk.2) (.slice Ao52 t391.length co52)) (fun _ h_ => h_.1))))) (Kd.R_lt (by (with_reducible repeat (first | apply Kd.R_alloc | apply Kd.R_drewN | apply Kd.R_drew)); exact (Kd.R_mono (Kd.R_far (p := ⟨gb395, 1, none⟩) (Kd.R_far (p := ⟨gb395, 0, none⟩) (Kd.R_types HO389.out BK395.out (by decide)) (fun _ hk => hk.2) (.bool t390)) (fun _ hk => hk.2) (.slice Ao52 t391.length co52)) (fun _ h_ => h_.1))))) (below_size bw)); have n4_ := Aside0.mk (blk_below (g := gb376) (o := .cells #[.bool a0_0, .slice A0_1 l0_1.length c0_1] 24 (0, 0)) (by (with_reducible repeat (first | refine blk_drewN ?_ _ | refine blk_drew ?_ | refine blk_alloc ?_ _)); refine blk_far ?_ NB376_395.out _; (with_reducible repeat (first | refine blk_drewN ?_ _ | refine blk_drew ?_ | refine blk_alloc ?_ _)); refine blk_far ?_ NB376_395.out _; (with_reducible repeat (first | refine blk_drewN ?_ _ | refine blk_drew ?_ | refine blk_alloc ?_ _)); exact BK376.out) hb); have n5_ := Aside0.mk (blk_below (g := gb377) (o := .cells #[.bool a1_0, .slice A1_1 l1_1.length c1_1] 24 (0, 0)) (by (with_reducible repeat (first | refine blk_drewN ?_ _ | refine blk_drew ?_ | refine blk_alloc ?_ _)); refine blk_far ?_ NB377_395.out _; (with_reducible repeat (first | refine blk_drewN ?_ _ | refine blk_drew ?_ | refine blk_alloc ?_ _)); refine blk_far ?_ NB377_395.out _; (with_reducible repeat (first | refine blk_drewN ?_ _ | refine blk_drew ?_ | refine blk_alloc ?_ _)); exact BK377.out) hb); have n6_ := Aside0.mk (blk_below (g := gb395) (o := .cells #[.bool t390, .slice Ao52 t391.length co52] 24 (0, 0)) (by (with_reducible repeat (first | refine blk_drewN ?_ _ | refine blk_drew ?_ | refine blk_alloc ?_ _)); refine blk_put (cs := #[.bool t390, .slice none 0 0]) ?_ 1 _ rfl; (with_reducible repeat (first | refine blk_drewN ?_ _ | refine blk_drew ?_ | refine blk_alloc ?_ _)); refine blk_put (cs := #[.bool false, .slice none 0 0]) ?_ 0 _ rfl; (with_reducible repeat (first | refine blk_drewN ?_ _ | refine blk_drew ?_ | refine blk_alloc ?_ _)); exact BK395.out) hb); have n7_ := Aside0.mk (below_step bw hb); clear HO385 HO389 HO393 BK376 BK377 BK395 HB; have HO385 := n0_; have HO389 := n1_; have HO393 := n2_; have HO399 := n3_; have BK376 := n4_; have BK377 := n5_; have BK395 := n6_; have HB := n7_; clear n0_ n1_ n2_ n3_ n4_ n5_ n6_ n7_; (try clear hb); (try clear hb2); (try clear hk); (try clear hi); (try clear ho0)) | ((with_reducible refine gate_dst (N := 7) rfl ?_); refine box_event ?hg (N := 7) ?hd (cs := #[.bool false, .slice none 0 0]) (t := 24) ?hr ?_; (case hd => rfl); (case hg => rfl); (case hr => first | (go_simp; done) | (go_simp; rfl)); intro gb401 hg w60 hbox hb; have n0_ := Aside0.mk (Kd.R_below (kR HO385) hb); have n1_ := Aside0.mk (Kd.R_below (kR HO389) hb); have n2_ := Aside0.mk (Kd.V_below (Kd.V_elderB (kV HO393) gb401 (Nat.le_of_eq hg.symm)) hb); have n3_ := Aside0.mk (Kd.R_below (kR HO399) hb); have n4_ := Aside0.mk (blk_below (bk BK376) hb); have n5_ := Aside0.mk (blk_below (bk BK377) hb); have n6_ := Aside0.mk (blk_below (bk BK395) hb); have n7_ := Aside0.mk (below_step bw hb); have n8_ := Aside0.mk (hbox); have n9_ := Aside0.mk ((szL hg)); have n10_ := Aside0.mk ((szL hg)); have n11_ := Aside0.mk ((neL hg BK376)); have n12_ := Aside0.mk ((neG hg BK376)); have n13_ := Aside0.mk ((neL hg BK377)); have n14_ := Aside0.mk ((neG hg BK377)); have n15_ := Aside0.mk ((neL hg BK395)); have n16_ := Aside0.mk ((neG hg BK395)); clear HO385 HO389 HO393 HO399 BK376 BK377 BK395 HB; have HO385 := n0_; have HO389 := n1_; have HO393 := n2_; have HO399 := n3_; have BK376 := n4_; have BK377 := n5_; have BK395 := n6_; have HB := n7_; have BK401 := n8_; have GW401 := n9_; have GE401 := n10_; have NB376_401 := n11_; have NB401_376 := n12_; have NB377_401 := n13_; have NB401_377 := n14_; have NB395_401 := n15_; have NB401_395 := n16_; clear n0_ n1_ n2_ n3_ n4_ n5_ n6_ n7_ n8_ n9_ n10_ n11_ n12_ n13_ n14_ n15_ n16_; clear hb hbox hg; have hnb61 := NB401_376.out; have hnc61 := NB376_401.out; have hnb62 := NB401_377.out; have hnc62 := NB377_401.out; have hnb63 := NB401_395.out; have hnc63 := NB395_401.out; have hcz64_0 : w60.cell? ⟨gb401, 0, none⟩ = some (.bool false) := (blk_cell BK401.out 0).trans rfl; have hcz64_1 : w60.cell? ⟨gb401, 1, none⟩ = some (.slice none 0 0) := (blk_cell BK401.out 1).trans rfl; have hfz64_0 := blk_frozen BK401.out 0; have hfz64_1 := blk_frozen BK401.out 1; obtain ⟨Ao65, co65, eo65⟩ := Kd.R_slice HO399.out; subst eo65))
                have n0_ : Aside0 (Kd.R (Kd.int .u32) 48 ((w60.setCell ⟨gb401, 0, none⟩ (.bool t396)).setCell ⟨gb401, 1, none⟩ (.slice Ao65 t397.length co65)) w.heap.size (fun k_ => some k_ ≠ (v388 : Value).ownBlock ∧ some k_ ≠ (.slice Ao65 t397.length co65 : Value).ownBlock) v384 t383) := ⟨by (with_reducible repeat (first | apply Kd.R_alloc | apply Kd.R_drewN | apply Kd.R_drew)); exact Kd.R_mono (Kd.R_far (p := ⟨gb401, 1, none⟩) (Kd.R_far (p := ⟨gb401, 0, none⟩) (Kd.R_types HO385.out BK401.out (by decide)) (fun _ hk => hk.2) (.bool t396)) (fun _ hk => hk.2) (.slice Ao65 t397.length co65)) (fun _ hk => ⟨hk.1.1, hk.1.2⟩)⟩
                have n1_ : Aside0 (Kd.R (Kd.int .u32) 48 ((w60.setCell ⟨gb401, 0, none⟩ (.bool t396)).setCell ⟨gb401, 1, none⟩ (.slice Ao65 t397.length co65)) w.heap.size (fun k_ => some k_ ≠ (v384 : Value).ownBlock ∧ some k_ ≠ (.slice Ao65 t397.length co65 : Value).ownBlock) v388 t387) := ⟨by (with_reducible repeat (first | apply Kd.R_alloc | apply Kd.R_drewN | apply Kd.R_drew)); exact Kd.R_mono (Kd.R_far (p := ⟨gb401, 1, none⟩) (Kd.R_far (p := ⟨gb401, 0, none⟩) (Kd.R_types HO389.out BK401.out (by decide)) (fun _ hk => hk.2) (.bool t396)) (fun _ hk => hk.2) (.slice Ao65 t397.length co65)) (fun _ hk => ⟨hk.1.1, hk.1.2⟩)⟩
                have n2_ : Aside0 (Kd.V (Kd.int .u32) 48 ((w60.setCell ⟨gb401, 0, none⟩ (.bool t396)).setCell ⟨gb401, 1, none⟩ (.slice Ao65 t397.length co65)) w.heap.size (fun k_ => some k_ ≠ (v384 : Value).ownBlock ∧ some k_ ≠ (v388 : Value).ownBlock ∧ some k_ ≠ (.slice Ao65 t397.length co65 : Value).ownBlock ∧ k_ ≠ gb376 ∧ k_ ≠ gb377 ∧ k_ ≠ gb395 ∧ k_ ≠ gb401) (.slice Ao52 t391.length co52) t391) := ⟨by (with_reducible repeat (first | apply Kd.V_alloc | apply Kd.V_drewN | apply Kd.V_drew)); exact Kd.V_mono (Kd.V_far (p := ⟨gb401, 1, none⟩) (Kd.V_far (p := ⟨gb401, 0, none⟩) (Kd.V_mono HO393.out (fun k_ hk => (⟨hk, hk.2⟩ : _ ∧ k_ ≠ gb401))) (fun _ hk => hk.2) (.bool t396)) (fun _ hk => hk.2) (.slice Ao65 t397.length co65)) (fun _ hk => ⟨hk.1.1.1.1, ⟨hk.1.1.1.2.1, ⟨hk.1.1.2, ⟨hk.1.1.1.2.2.1, ⟨hk.1.1.1.2.2.2.1, ⟨hk.1.1.1.2.2.2.2, hk.1.2⟩⟩⟩⟩⟩⟩)⟩
                have n3_ : Aside0 (Kd.R (Kd.int .u32) 48 ((w60.setCell ⟨gb401, 0, none⟩ (.bool t396)).setCell ⟨gb401, 1, none⟩ (.slice Ao65 t397.length co65)) w.heap.size (fun k_ => some k_ ≠ (v384 : Value).ownBlock ∧ some k_ ≠ (v388 : Value).ownBlock) (.slice Ao65 t397.length co65) t397) := ⟨by (with_reducible repeat (first | apply Kd.R_alloc | apply Kd.R_drewN | apply Kd.R_drew)); exact Kd.R_mono (Kd.R_far (p := ⟨gb401, 1, none⟩) (Kd.R_far (p := ⟨gb401, 0, none⟩) (Kd.R_types HO399.out BK401.out (by decide)) (fun _ hk => hk.2) (.bool t396)) (fun _ hk => hk.2) (.slice Ao65 t397.length co65)) (fun _ hk => ⟨hk.1.1.2, hk.1.2⟩)⟩
                have n4_ : Aside0 (((w60.setCell ⟨gb401, 0, none⟩ (.bool t396)).setCell ⟨gb401, 1, none⟩ (.slice Ao65 t397.length co65)).heap[gb376]? = some (.cells #[.bool a0_0, .slice A0_1 l0_1.length c0_1] 24 (0, 0))) := ⟨by (with_reducible repeat (first | refine blk_drewN ?_ _ | refine blk_drew ?_ | refine blk_alloc ?_ _)); refine blk_far ?_ NB376_401.out _; (with_reducible repeat (first | refine blk_drewN ?_ _ | refine blk_drew ?_ | refine blk_alloc ?_ _)); refine blk_far ?_ NB376_401.out _; (with_reducible repeat (first | refine blk_drewN ?_ _ | refine blk_drew ?_ | refine blk_alloc ?_ _)); exact BK376.out⟩
                have n5_ : Aside0 (((w60.setCell ⟨gb401, 0, none⟩ (.bool t396)).setCell ⟨gb401, 1, none⟩ (.slice Ao65 t397.length co65)).heap[gb377]? = some (.cells #[.bool a1_0, .slice A1_1 l1_1.length c1_1] 24 (0, 0))) := ⟨by (with_reducible repeat (first | refine blk_drewN ?_ _ | refine blk_drew ?_ | refine blk_alloc ?_ _)); refine blk_far ?_ NB377_401.out _; (with_reducible repeat (first | refine blk_drewN ?_ _ | refine blk_drew ?_ | refine blk_alloc ?_ _)); refine blk_far ?_ NB377_401.out _; (with_reducible repeat (first | refine blk_drewN ?_ _ | refine blk_drew ?_ | refine blk_alloc ?_ _)); exact BK377.out⟩
                have n6_ : Aside0 (((w60.setCell ⟨gb401, 0, none⟩ (.bool t396)).setCell ⟨gb401, 1, none⟩ (.slice Ao65 t397.length co65)).heap[gb395]? = some (.cells #[.bool t390, .slice Ao52 t391.length co52] 24 (0, 0))) := ⟨by (with_reducible repeat (first | refine blk_drewN ?_ _ | refine blk_drew ?_ | refine blk_alloc ?_ _)); refine blk_far ?_ NB395_401.out _; (with_reducible repeat (first | refine blk_drewN ?_ _ | refine blk_drew ?_ | refine blk_alloc ?_ _)); refine blk_far ?_ NB395_401.out _; (with_reducible repeat (first | refine blk_drewN ?_ _ | refine blk_drew ?_ | refine blk_alloc ?_ _)); exact BK395.out⟩
                have n7_ : Aside0 (((w60.setCell ⟨gb401, 0, none⟩ (.bool t396)).setCell ⟨gb401, 1, none⟩ (.slice Ao65 t397.length co65)).heap[gb401]? = some (.cells #[.bool t396, .slice Ao65 t397.length co65] 24 (0, 0))) := ⟨by (with_reducible repeat (first | refine blk_drewN ?_ _ | refine blk_drew ?_ | refine blk_alloc ?_ _)); refine blk_put (cs := #[.bool t396, .slice none 0 0]) ?_ 1 _ rfl; (with_reducible repeat (first | refine blk_drewN ?_ _ | refine blk_drew ?_ | refine blk_alloc ?_ _)); refine blk_put (cs := #[.bool false, .slice none 0 0]) ?_ 0 _ rfl; (with_reducible repeat (first | refine blk_drewN ?_ _ | refine blk_drew ?_ | refine blk_alloc ?_ _)); exact BK401.out⟩
                have n8_ : Aside0 (Below w.heap.size w ((w60.setCell ⟨gb401, 0, none⟩ (.bool t396)).setCell ⟨gb401, 1, none⟩ (.slice Ao65 t397.length co65))) := ⟨bw⟩
                (try clear HO385)
                (try clear HO389)
                (try clear HO393)
                (try clear HO399)
                (try clear BK376)
                (try clear BK377)
                (try clear BK395)
                (try clear BK401)
                (try clear HB)
                generalize ((w60.setCell ⟨gb401, 0, none⟩ (.bool t396)).setCell ⟨gb401, 1, none⟩ (.slice Ao65 t397.length co65)) = w66 at n0_ n1_ n2_ n3_ n4_ n5_ n6_ n7_ n8_ ⊢
                have HO385 := n0_
                have HO389 := n1_
                have HO393 := n2_
                have HO399 := n3_
                have BK376 := n4_
                have BK377 := n5_
                have BK395 := n6_
                have BK401 := n7_
                have HB := n8_
                clear n0_ n1_ n2_ n3_ n4_ n5_ n6_ n7_ n8_
                have n0_ := Aside0.mk (Kd.R_drew HO385.out)
                have n1_ := Aside0.mk (Kd.R_drew HO389.out)
                have n2_ := Aside0.mk (Kd.V_drew HO393.out)
                have n3_ := Aside0.mk (Kd.R_drew HO399.out)
                have n4_ := Aside0.mk (blk_drew BK376.out)
                have n5_ := Aside0.mk (blk_drew BK377.out)
                have n6_ := Aside0.mk (blk_drew BK395.out)
                have n7_ := Aside0.mk (blk_drew BK401.out)
                have n8_ := Aside0.mk (below_drew1 HB.out)
                clear HO385 HO389 HO393 HO399 BK376 BK377 BK395 BK401 HB
                have HO385 := n0_
                have HO389 := n1_
                have HO393 := n2_
                have HO399 := n3_
                have BK376 := n4_
                have BK377 := n5_
                have BK395 := n6_
                have BK401 := n7_
                have HB := n8_
                clear n0_ n1_ n2_ n3_ n4_ n5_ n6_ n7_ n8_
                refine start_ (n := 11) (S := fun w' => w'.cell? ⟨gb376, 0, none⟩ = some (.bool a0_0) ∧ w'.cell? ⟨gb376, 1, none⟩ = some (.slice A0_1 l0_1.length c0_1) ∧ w'.cell? ⟨gb377, 0, none⟩ = some (.bool a1_0) ∧ w'.cell? ⟨gb377, 1, none⟩ = some (.slice A1_1 l1_1.length c1_1)) (ds := []) #[false, false, false, false, false, false, false, false, false, false, false] (by kernel_rfl) rfl rfl ⟨(blk_cell BK376.out 0).trans rfl, (blk_cell BK376.out 1).trans rfl, (blk_cell BK377.out 0).trans rfl, (blk_cell BK377.out 1).trans rfl⟩ (fun hHeld => ?_); refine with_tabW marginalialaw01_NumSums.tab5 marginalialaw01_NumSums.bits5 (fun HT_ HW_ => ?_)
                generalize w66.drew = w67 at HO385 HO389 HO393 HO399 BK376 BK377 BK395 BK401 HB hHeld ⊢
                refine take_ (i := 0) (N := some 41) (v := ?_) (a' := ?_) #[true, false, false, false, false, false, false, false, false, false, false] rfl rfl (take_ofW HT_.out HW_.out (by kernel_rfl)) (fun _ _ _ h => h) (Or.inl ⟨by rfl, ?_⟩) hHeld ?_ ?_
                rotate_left
                · rintro w' ⟨s0, s1, s2, s3⟩
                  go_simp
                  with_reducible rfl
                rotate_left
                · simp only [Act.put, List.setIfInBounds_toArray, List.set_cons_zero, List.set_cons_succ, i64_w, i32_w]
                  rfl
                refine take_ (i := 2) (N := some 43) (v := ?_) (a' := ?_) #[true, false, true, false, false, false, false, false, false, false, false] rfl rfl (take_ofW HT_.out HW_.out (by kernel_rfl)) (fun _ _ _ h => h) (Or.inl ⟨by rfl, ?_⟩) hHeld ?_ ?_
                rotate_left
                · rintro w' ⟨s0, s1, s2, s3⟩
                  go_simp
                  with_reducible rfl
                rotate_left
                · simp only [Act.put, List.setIfInBounds_toArray, List.set_cons_zero, List.set_cons_succ, i64_w, i32_w]
                  rfl
                refine join_ (σ := Value × Value × Value × Nat) 2 #[true, true, true, true, true, true, true, true, true, false, false] (fun s_ => [(42, .agg #[.bool t402, s_.1]), (44, .agg #[.bool t406, s_.2.1]), (45, .tuple #[.agg #[.bool t410, s_.2.2.1], .int .i64 t414]), (9, .pointer (some ⟨s_.2.2.2, 0, none⟩)), (40, .tuple #[.agg #[.bool t410, s_.2.2.1], .int .i64 t414]), (46, .agg #[.bool t410, s_.2.2.1]), (47, .int .i64 t414)]) (fun s_ w' => (w'.cell? ⟨gb376, 0, none⟩ = some (.bool a0_0) ∧ w'.cell? ⟨gb376, 1, none⟩ = some (.slice A0_1 l0_1.length c0_1) ∧ w'.cell? ⟨gb377, 0, none⟩ = some (.bool a1_0) ∧ w'.cell? ⟨gb377, 1, none⟩ = some (.slice A1_1 l1_1.length c1_1)) ∧ (Kd.R (Kd.int .u32) 48 w' w.heap.size (fun k_ => some k_ ≠ (v388 : Value).ownBlock ∧ some k_ ≠ (.slice Ao65 t397.length co65 : Value).ownBlock ∧ some k_ ≠ (s_.1 : Value).ownBlock) v384 t383) ∧ (Kd.R (Kd.int .u32) 48 w' w.heap.size (fun k_ => some k_ ≠ (v384 : Value).ownBlock ∧ some k_ ≠ (.slice Ao65 t397.length co65 : Value).ownBlock ∧ some k_ ≠ (s_.1 : Value).ownBlock) v388 t387) ∧ (Kd.V (Kd.int .u32) 48 w' w.heap.size (fun k_ => some k_ ≠ (v384 : Value).ownBlock ∧ some k_ ≠ (v388 : Value).ownBlock ∧ some k_ ≠ (.slice Ao65 t397.length co65 : Value).ownBlock ∧ some k_ ≠ (s_.1 : Value).ownBlock ∧ k_ ≠ gb376 ∧ k_ ≠ gb377 ∧ k_ ≠ gb395 ∧ k_ ≠ gb401 ∧ k_ ≠ s_.2.2.2) (.slice Ao52 t391.length co52) t391) ∧ (Kd.R (Kd.int .u32) 48 w' w.heap.size (fun k_ => some k_ ≠ (v384 : Value).ownBlock ∧ some k_ ≠ (v388 : Value).ownBlock ∧ some k_ ≠ (s_.1 : Value).ownBlock) (.slice Ao65 t397.length co65) t397) ∧ (Kd.R (Kd.int .u32) 48 w' w.heap.size (fun k_ => some k_ ≠ (v384 : Value).ownBlock ∧ some k_ ≠ (v388 : Value).ownBlock ∧ some k_ ≠ (.slice Ao65 t397.length co65 : Value).ownBlock) s_.1 t403) ∧ (Kd.V (Kd.int .u32) 48 w' w.heap.size (fun k_ => some k_ ≠ (v384 : Value).ownBlock ∧ some k_ ≠ (v388 : Value).ownBlock ∧ some k_ ≠ (.slice Ao65 t397.length co65 : Value).ownBlock ∧ some k_ ≠ (s_.1 : Value).ownBlock ∧ k_ ≠ gb376 ∧ k_ ≠ gb377 ∧ k_ ≠ gb395 ∧ k_ ≠ gb401 ∧ k_ ≠ s_.2.2.2) s_.2.2.1 t411) ∧ (w'.heap[gb376]? = some (.cells #[.bool a0_0, .slice A0_1 l0_1.length c0_1] 24 (0, 0))) ∧ (w'.heap[gb377]? = some (.cells #[.bool a1_0, .slice A1_1 l1_1.length c1_1] 24 (0, 0))) ∧ (w'.heap[gb395]? = some (.cells #[.bool t390, .slice Ao52 t391.length co52] 24 (0, 0))) ∧ (w'.heap[gb401]? = some (.cells #[.bool t396, .slice Ao65 t397.length co65] 24 (0, 0))) ∧ (w'.heap[s_.2.2.2]? = some (.cells #[.bool false, .slice none 0 0] 24 (0, 0))) ∧ (w.heap.size ≤ s_.2.2.2) ∧ (w.heap.size ≤ s_.2.2.2) ∧ (gb376 ≠ s_.2.2.2) ∧ (s_.2.2.2 ≠ gb376) ∧ (gb377 ≠ s_.2.2.2) ∧ (s_.2.2.2 ≠ gb377) ∧ (gb395 ≠ s_.2.2.2) ∧ (s_.2.2.2 ≠ gb395) ∧ (gb401 ≠ s_.2.2.2) ∧ (s_.2.2.2 ≠ gb401) ∧ (Below w.heap.size w w')) ?_ ?_
                rotate_left
                · intro hCont
                  refine two_ (i := 1) (j := 8) (Ni := some 42) (Nj := some 9) #[true, true, true, false, false, false, false, false, false, false, false] #[true, false, true, false, false, false, false, false, true, false, false] rfl rfl rfl rfl (two_of HT_.out (by kernel_rfl)) (by decide) (by decide) (fun K hK => ?_) (fun K hK => ?_)
                  · skip
                    refine goes_ Tryd.func15 (by kernel_rfl) rfl #[.agg #[.bool a0_0, .slice A0_1 l0_1.length c0_1]] (by rfl) rfl rfl (by (try simp only [List.map_toArray, List.map_cons, List.map_nil]); first | done | rfl | (simp only [List.length_drop, List.length_take]; rfl)) ?_
                    with_reducible refine (marginalialaw01_own.calls a0_0 _ _ l0_1 t402 t403 _ ?side1 ?side2 A29.out).mono ?_
                    (case side1 => repeat (first | exact (Kd.C_below HR0_1.out HB.out) | (with_reducible refine Kd.C_alloc ?_ _) | (with_reducible refine Kd.C_drewN ?_ _) | (with_reducible refine Kd.C_drew ?_)))
                    (case side2 => exact HC0_1.out)
                    rintro e w68 ⟨v404, rfl, ho0, hb⟩
                    refine ⟨_, rfl, ?_⟩
                    have n0_ := Aside0.mk (Kd.R_elder' (kR HO385) (Kd.R_base ho0) hb)
                    have n1_ := Aside0.mk (Kd.R_elder' (kR HO389) (Kd.R_base ho0) hb)
                    have n2_ := Aside0.mk (Kd.V_elder' (kV HO393) (Kd.R_base ho0) hb)
                    have n3_ := Aside0.mk (Kd.R_elder' (kR HO399) (Kd.R_base ho0) hb)
                    have n4_ := Aside0.mk (Kd.R_lower (Kd.R_new' (Kd.R_new' (Kd.R_new' ho0 (Kd.R_lt (kR HO385))) (Kd.R_lt (kR HO389))) (Kd.R_lt (kR HO399))) (below_size bw))
                    have n5_ := Aside0.mk (blk_below (bk BK376) hb)
                    have n6_ := Aside0.mk (blk_below (bk BK377) hb)
                    have n7_ := Aside0.mk (blk_below (bk BK395) hb)
                    have n8_ := Aside0.mk (blk_below (bk BK401) hb)
                    have n9_ := Aside0.mk (below_step bw hb)
                    clear HO385 HO389 HO393 HO399 BK376 BK377 BK395 BK401 HB
                    have HO385 := n0_
                    have HO389 := n1_
                    have HO393 := n2_
                    have HO399 := n3_
                    have HO405 := n4_
                    have BK376 := n5_
                    have BK377 := n6_
                    have BK395 := n7_
                    have BK401 := n8_
                    have HB := n9_
                    clear n0_ n1_ n2_ n3_ n4_ n5_ n6_ n7_ n8_ n9_
                    (try clear hb)
                    (try clear hb2)
                    (try clear hk)
                    (try clear hi)
                    (try clear ho0)
                    refine hK.out _ _ ⟨(blk_cell BK376.out 0).trans rfl, (blk_cell BK376.out 1).trans rfl, (blk_cell BK377.out 0).trans rfl, (blk_cell BK377.out 1).trans rfl⟩ (fun hHeld => ?_)
                    clear hK K
                    refine norm_ (a' := ?_) ?_ ?_
                    rotate_left
                    · show Act.put _ (some 42) _ = _
                      simp only [Act.put, List.setIfInBounds_toArray, List.set_cons_zero, List.set_cons_succ, i64_w, i32_w]
                      rfl
                    refine two_ (i := 3) (j := 8) (Ni := some 44) (Nj := some 9) #[true, true, true, true, false, false, false, false, false, false, false] #[true, true, true, false, false, false, false, false, true, false, false] rfl rfl rfl rfl (two_of HT_.out (by kernel_rfl)) (by decide) (by decide) (fun K hK => ?_) (fun K hK => ?_)
                    · skip
                      refine goes_ Tryd.func15 (by kernel_rfl) rfl #[.agg #[.bool a1_0, .slice A1_1 l1_1.length c1_1]] (by rfl) rfl rfl (by (try simp only [List.map_toArray, List.map_cons, List.map_nil]); first | done | rfl | (simp only [List.length_drop, List.length_take]; rfl)) ?_
                      with_reducible refine (marginalialaw01_own.calls a1_0 _ _ l1_1 t406 t407 _ ?side1 ?side2 A30.out).mono ?_
                      (case side1 => repeat (first | exact (Kd.C_below HR1_1.out HB.out) | (with_reducible refine Kd.C_alloc ?_ _) | (with_reducible refine Kd.C_drewN ?_ _) | (with_reducible refine Kd.C_drew ?_)))
                      (case side2 => exact HC1_1.out)
                      rintro e w69 ⟨v408, rfl, ho0, hb⟩
                      refine ⟨_, rfl, ?_⟩
                      have n0_ := Aside0.mk (Kd.R_elder' (kR HO385) (Kd.R_base ho0) hb)
                      have n1_ := Aside0.mk (Kd.R_elder' (kR HO389) (Kd.R_base ho0) hb)
                      have n2_ := Aside0.mk (Kd.V_elder' (kV HO393) (Kd.R_base ho0) hb)
                      have n3_ := Aside0.mk (Kd.R_elder' (kR HO399) (Kd.R_base ho0) hb)
                      have n4_ := Aside0.mk (Kd.R_elder' (kR HO405) (Kd.R_base ho0) hb)
                      have n5_ := Aside0.mk (Kd.R_lower (Kd.R_new' (Kd.R_new' (Kd.R_new' (Kd.R_new' ho0 (Kd.R_lt (kR HO385))) (Kd.R_lt (kR HO389))) (Kd.R_lt (kR HO399))) (Kd.R_lt (kR HO405))) (below_size bw))
                      have n6_ := Aside0.mk (blk_below (bk BK376) hb)
                      have n7_ := Aside0.mk (blk_below (bk BK377) hb)
                      have n8_ := Aside0.mk (blk_below (bk BK395) hb)
                      have n9_ := Aside0.mk (blk_below (bk BK401) hb)
                      have n10_ := Aside0.mk (below_step bw hb)
                      clear HO385 HO389 HO393 HO399 HO405 BK376 BK377 BK395 BK401 HB
                      have HO385 := n0_
                      have HO389 := n1_
                      have HO393 := n2_
                      have HO399 := n3_
                      have HO405 := n4_
                      have HO409 := n5_
                      have BK376 := n6_
                      have BK377 := n7_
                      have BK395 := n8_
                      have BK401 := n9_
                      have HB := n10_
                      clear n0_ n1_ n2_ n3_ n4_ n5_ n6_ n7_ n8_ n9_ n10_
                      (try clear hb)
                      (try clear hb2)
                      (try clear hk)
                      (try clear hi)
                      (try clear ho0)
                      obtain ⟨Ao70, co70, eo70⟩ := Kd.R_slice HO405.out
                      (first | subst eo70 | (injection eo70 with f1_ f2_ f3_; have f4_ := f1_.symm; have f5_ := f3_.symm; clear f1_ f2_ f3_; subst f4_; subst f5_))
                      obtain ⟨Ao71, co71, eo71⟩ := Kd.R_slice HO409.out
                      (first | subst eo71 | (injection eo71 with f1_ f2_ f3_; have f4_ := f1_.symm; have f5_ := f3_.symm; clear f1_ f2_ f3_; subst f4_; subst f5_))
                      refine hK.out _ _ ⟨(blk_cell BK376.out 0).trans rfl, (blk_cell BK376.out 1).trans rfl, (blk_cell BK377.out 0).trans rfl, (blk_cell BK377.out 1).trans rfl⟩ (fun hHeld => ?_)
                      clear hK K
                      refine norm_ (a' := ?_) ?_ ?_
                      rotate_left
                      · show Act.put _ (some 44) _ = _
                        simp only [Act.put, List.setIfInBounds_toArray, List.set_cons_zero, List.set_cons_succ, i64_w, i32_w]
                        rfl
                      refine two_ (i := 4) (j := 8) (Ni := some 45) (Nj := some 9) #[true, true, true, true, true, false, false, false, false, false, false] #[true, true, true, true, false, false, false, false, true, false, false] rfl rfl rfl rfl (two_of HT_.out (by kernel_rfl)) (by decide) (by decide) (fun K hK => ?_) (fun K hK => ?_)
                      · skip
                        refine goes_ Tryd.func20 (by kernel_rfl) rfl #[.agg #[.bool t402, .slice Ao70 t403.length co70], .agg #[.bool t406, .slice Ao71 t407.length co71]] (by rfl) rfl rfl (by (try simp only [List.map_toArray, List.map_cons, List.map_nil]); first | done | rfl | (simp only [List.length_drop, List.length_take]; rfl)) ?_
                        with_reducible refine (num_Sub.calls kj2 t402 _ _ t403 t406 (fun k_ => some k_ = (.slice Ao71 t407.length co71 : Value).ownBlock) (.slice Ao71 t407.length co71) t407 t410 t411 t414 w _ ?side1 ?side2 ?side3 ?side4 A31.out).mono ?_
                        (case side1 => repeat (first | (with_reducible first | exact HB.out | apply below_alloc | apply pw_below_drewN | apply below_drew1 | refine below_set ?_ GE376.out | refine below_set ?_ GE377.out | refine below_set ?_ GE395.out | refine below_set ?_ GE401.out) | exact HB.out))
                        (case side2 => exact Kd.C_kept_own (HO405.out) (fun k_ hk_ hs_ => (hk_.2) hs_))
                        (case side3 => exact (Kd.R_reads' HO405.out).2.1)
                        (case side4 => exact Kd.R_tight rfl HO409.out)
                        rintro e w72 ⟨v412, rfl, ho0, hb, hkp⟩
                        refine ⟨_, rfl, ?_⟩
                        have n0_ := Aside0.mk (blk_kept (bk BK376) hkp (fun hs_ => (fun e_ => (Kd.R_ne HO409.out BK376.out (by decide)) e_) hs_))
                        have n1_ := Aside0.mk (blk_kept (bk BK377) hkp (fun hs_ => (fun e_ => (Kd.R_ne HO409.out BK377.out (by decide)) e_) hs_))
                        have n2_ := Aside0.mk (Kd.R_mono (ok' := fun k_ => some k_ ≠ (v388 : Value).ownBlock ∧ some k_ ≠ (.slice Ao65 t397.length co65 : Value).ownBlock ∧ some k_ ≠ (.slice Ao70 t403.length co70 : Value).ownBlock) (Kd.R_keptB (HO385.out) hkp (fun k_ hk_ hs_ => (hk_.2) hs_)) (fun k_ hk_ => ⟨hk_.1.1.1.1, hk_.1.1.1.2, hk_.1.1.2⟩))
                        have n3_ := Aside0.mk (Kd.R_mono (ok' := fun k_ => some k_ ≠ (v384 : Value).ownBlock ∧ some k_ ≠ (.slice Ao65 t397.length co65 : Value).ownBlock ∧ some k_ ≠ (.slice Ao70 t403.length co70 : Value).ownBlock) (Kd.R_keptB (HO389.out) hkp (fun k_ hk_ hs_ => (hk_.2) hs_)) (fun k_ hk_ => ⟨hk_.1.1.1.1, hk_.1.1.1.2, hk_.1.1.2⟩))
                        have n4_ := Aside0.mk (Kd.V_mono (ok' := fun k_ => some k_ ≠ (v384 : Value).ownBlock ∧ some k_ ≠ (v388 : Value).ownBlock ∧ some k_ ≠ (.slice Ao65 t397.length co65 : Value).ownBlock ∧ some k_ ≠ (.slice Ao70 t403.length co70 : Value).ownBlock ∧ k_ ≠ gb376 ∧ k_ ≠ gb377 ∧ k_ ≠ gb395 ∧ k_ ≠ gb401) (Kd.V_keptB (HO393.out) hkp (fun k_ hk_ hs_ => (hk_.2) hs_)) (fun k_ hk_ => ⟨hk_.1.1.1.1, hk_.1.1.1.2.1, hk_.1.1.1.2.2.1, hk_.1.1.2, hk_.1.1.1.2.2.2.1, hk_.1.1.1.2.2.2.2.1, hk_.1.1.1.2.2.2.2.2.1, hk_.1.1.1.2.2.2.2.2.2⟩))
                        have n5_ := Aside0.mk (blk_kept (bk BK395) hkp (fun hs_ => (fun e_ => (Kd.R_ne HO409.out BK395.out (by decide)) e_) hs_))
                        have n6_ := Aside0.mk (Kd.R_mono (ok' := fun k_ => some k_ ≠ (v384 : Value).ownBlock ∧ some k_ ≠ (v388 : Value).ownBlock ∧ some k_ ≠ (.slice Ao70 t403.length co70 : Value).ownBlock) (Kd.R_keptB (HO399.out) hkp (fun k_ hk_ hs_ => (hk_.2) hs_)) (fun k_ hk_ => ⟨hk_.1.1.1.1, hk_.1.1.1.2, hk_.1.1.2⟩))
                        have n7_ := Aside0.mk (blk_kept (bk BK401) hkp (fun hs_ => (fun e_ => (Kd.R_ne HO409.out BK401.out (by decide)) e_) hs_))
                        have n8_ := Aside0.mk (Kd.R_mono (ok' := fun k_ => some k_ ≠ (v384 : Value).ownBlock ∧ some k_ ≠ (v388 : Value).ownBlock ∧ some k_ ≠ (.slice Ao65 t397.length co65 : Value).ownBlock) (Kd.R_keptB (HO405.out) hkp (fun k_ hk_ hs_ => (hk_.2) hs_)) (fun k_ hk_ => ⟨hk_.1.1.1.1.2, hk_.1.1.1.2, hk_.1.1.2⟩))
                        have n9_ := Aside0.mk (Kd.V_mono (ok' := fun k_ => some k_ ≠ (v384 : Value).ownBlock ∧ some k_ ≠ (v388 : Value).ownBlock ∧ some k_ ≠ (.slice Ao65 t397.length co65 : Value).ownBlock ∧ some k_ ≠ (.slice Ao70 t403.length co70 : Value).ownBlock ∧ k_ ≠ gb376 ∧ k_ ≠ gb377 ∧ k_ ≠ gb395 ∧ k_ ≠ gb401) ho0 (fun k_ hk_ => ⟨Or.elim hk_ (fun hs_ => fun e_ => (((HO385.out).1 k_ e_.symm).2) hs_) (fun hn_ => (Kd.fresh' (Kd.R_lt (kR HO385)) k_ hn_)), Or.elim hk_ (fun hs_ => fun e_ => (((HO389.out).1 k_ e_.symm).2) hs_) (fun hn_ => (Kd.fresh' (Kd.R_lt (kR HO389)) k_ hn_)), Or.elim hk_ (fun hs_ => fun e_ => (((HO399.out).1 k_ e_.symm).2) hs_) (fun hn_ => (Kd.fresh' (Kd.R_lt (kR HO399)) k_ hn_)), Or.elim hk_ (fun hs_ => fun e_ => (((HO405.out).1 k_ e_.symm).2) hs_) (fun hn_ => (Kd.fresh' (Kd.R_lt (kR HO405)) k_ hn_)), Or.elim hk_ (fun hs_ => fun e_ => (Kd.R_ne HO409.out BK376.out (by decide)) (by rw [← e_]; exact hs_)) (fun hn_ => (Kd.freshB (bk BK376) k_ hn_)), Or.elim hk_ (fun hs_ => fun e_ => (Kd.R_ne HO409.out BK377.out (by decide)) (by rw [← e_]; exact hs_)) (fun hn_ => (Kd.freshB (bk BK377) k_ hn_)), Or.elim hk_ (fun hs_ => fun e_ => (Kd.R_ne HO409.out BK395.out (by decide)) (by rw [← e_]; exact hs_)) (fun hn_ => (Kd.freshB (bk BK395) k_ hn_)), Or.elim hk_ (fun hs_ => fun e_ => (Kd.R_ne HO409.out BK401.out (by decide)) (by rw [← e_]; exact hs_)) (fun hn_ => (Kd.freshB (bk BK401) k_ hn_))⟩))
                        have n10_ := Aside0.mk (hb)
                        clear BK376 BK377 HO385 HO389 HO393 BK395 HO399 BK401 HO405 HB HO409
                        have BK376 := n0_
                        have BK377 := n1_
                        have HO385 := n2_
                        have HO389 := n3_
                        have HO393 := n4_
                        have BK395 := n5_
                        have HO399 := n6_
                        have BK401 := n7_
                        have HO405 := n8_
                        have HO413 := n9_
                        have HB := n10_
                        clear n0_ n1_ n2_ n3_ n4_ n5_ n6_ n7_ n8_ n9_ n10_
                        (try clear hb)
                        (try clear hkp)
                        (try clear ho0)
                        refine hK.out _ _ ⟨(blk_cell BK376.out 0).trans rfl, (blk_cell BK376.out 1).trans rfl, (blk_cell BK377.out 0).trans rfl, (blk_cell BK377.out 1).trans rfl⟩ (fun hHeld => ?_)
                        clear hK K
                        refine norm_ (a' := ?_) ?_ ?_
                        rotate_left
                        · show Act.put _ (some 45) _ = _
                          simp only [Act.put, List.setIfInBounds_toArray, List.set_cons_zero, List.set_cons_succ, i64_w, i32_w]
                          rfl
                        refine pure_ (i := 5) (N := some 40) (v := ?_) (a' := ?_) #[true, true, true, true, true, true, false, false, false, false, false] rfl rfl (any_of HT_.out (by kernel_rfl)) (fun _ _ _ h => h) (Or.inl ⟨by rfl, ?_⟩) ?_ ?_
                        rotate_left
                        · intro w'
                          go_simp
                          with_reducible rfl
                        rotate_left
                        · simp only [Act.put, List.setIfInBounds_toArray, List.set_cons_zero, List.set_cons_succ, i64_w, i32_w]
                          rfl
                        refine pure_ (i := 6) (N := some 46) (v := ?_) (a' := ?_) #[true, true, true, true, true, true, true, false, false, false, false] rfl rfl (any_of HT_.out (by kernel_rfl)) (fun _ _ _ h => h) (Or.inl ⟨by rfl, ?_⟩) ?_ ?_
                        rotate_left
                        · intro w'
                          go_simp
                          with_reducible rfl
                        rotate_left
                        · simp only [Act.put, List.setIfInBounds_toArray, List.set_cons_zero, List.set_cons_succ, i64_w, i32_w]
                          rfl
                        refine pure_ (i := 7) (N := some 47) (v := ?_) (a' := ?_) #[true, true, true, true, true, true, true, true, false, false, false] rfl rfl (any_of HT_.out (by kernel_rfl)) (fun _ _ _ h => h) (Or.inl ⟨by rfl, ?_⟩) ?_ ?_
                        rotate_left
                        · intro w'
                          go_simp
                          with_reducible rfl
                        rotate_left
                        · simp only [Act.put, List.setIfInBounds_toArray, List.set_cons_zero, List.set_cons_succ, i64_w, i32_w]
                          rfl
                        refine one_ (i := 8) (N := some 9) #[true, true, true, true, true, true, true, true, true, false, false] rfl rfl (one_of HT_.out (by kernel_rfl)) (by decide) (fun K hK => ?_)
                        refine box_step ?hg (N := 9) ?hd (cs := #[.bool false, .slice none 0 0]) (t := 24) ?hr ?_; (case hd => rfl); (case hg => rfl); (case hr => first | (go_simp; done) | (go_simp; rfl))
                        intro gb415 hg w73 hbox hb
                        have n0_ := Aside0.mk (Kd.R_below (kR HO385) hb)
                        have n1_ := Aside0.mk (Kd.R_below (kR HO389) hb)
                        have n2_ := Aside0.mk (Kd.V_below (Kd.V_elderB (kV HO393) gb415 (Nat.le_of_eq hg.symm)) hb)
                        have n3_ := Aside0.mk (Kd.R_below (kR HO399) hb)
                        have n4_ := Aside0.mk (Kd.R_below (kR HO405) hb)
                        have n5_ := Aside0.mk (Kd.V_below (Kd.V_elderB (kV HO413) gb415 (Nat.le_of_eq hg.symm)) hb)
                        have n6_ := Aside0.mk (blk_below (bk BK376) hb)
                        have n7_ := Aside0.mk (blk_below (bk BK377) hb)
                        have n8_ := Aside0.mk (blk_below (bk BK395) hb)
                        have n9_ := Aside0.mk (blk_below (bk BK401) hb)
                        have n10_ := Aside0.mk (below_step bw hb)
                        have n11_ := Aside0.mk (hbox)
                        have n12_ := Aside0.mk ((szL hg))
                        have n13_ := Aside0.mk ((szL hg))
                        have n14_ := Aside0.mk ((neL hg BK376))
                        have n15_ := Aside0.mk ((neG hg BK376))
                        have n16_ := Aside0.mk ((neL hg BK377))
                        have n17_ := Aside0.mk ((neG hg BK377))
                        have n18_ := Aside0.mk ((neL hg BK395))
                        have n19_ := Aside0.mk ((neG hg BK395))
                        have n20_ := Aside0.mk ((neL hg BK401))
                        have n21_ := Aside0.mk ((neG hg BK401))
                        clear HO385 HO389 HO393 HO399 HO405 HO413 BK376 BK377 BK395 BK401 HB
                        have HO385 := n0_
                        have HO389 := n1_
                        have HO393 := n2_
                        have HO399 := n3_
                        have HO405 := n4_
                        have HO413 := n5_
                        have BK376 := n6_
                        have BK377 := n7_
                        have BK395 := n8_
                        have BK401 := n9_
                        have HB := n10_
                        have BK415 := n11_
                        have GW415 := n12_
                        have GE415 := n13_
                        have NB376_415 := n14_
                        have NB415_376 := n15_
                        have NB377_415 := n16_
                        have NB415_377 := n17_
                        have NB395_415 := n18_
                        have NB415_395 := n19_
                        have NB401_415 := n20_
                        have NB415_401 := n21_
                        clear n0_ n1_ n2_ n3_ n4_ n5_ n6_ n7_ n8_ n9_ n10_ n11_ n12_ n13_ n14_ n15_ n16_ n17_ n18_ n19_ n20_ n21_
                        clear hb hbox hg
                        refine hK.out _ _ ⟨(blk_cell BK376.out 0).trans rfl, (blk_cell BK376.out 1).trans rfl, (blk_cell BK377.out 0).trans rfl, (blk_cell BK377.out 1).trans rfl⟩ (fun hHeld => ?_)
                        clear hK K
                        refine norm_ (a' := ?_) ?_ ?_
                        rotate_left
                        · show Act.put _ (some 9) _ = _
                          simp only [Act.put, List.setIfInBounds_toArray, List.set_cons_zero, List.set_cons_succ, i64_w, i32_w]
                          rfl
                        exact norm_ (by simp only [putAll, Act.put, List.setIfInBounds_toArray, List.set_cons_zero, List.set_cons_succ]) (hCont (.slice Ao70 t403.length co70, .slice Ao71 t407.length co71, v412, gb415) _ ⟨hHeld, (kR HO385), (kR HO389), (by (with_reducible repeat (first | apply Kd.V_alloc | apply Kd.V_drewN | apply Kd.V_drew)); exact Kd.V_mono HO393.out (fun _ hk => ⟨hk.1.1, ⟨hk.1.2.1, ⟨hk.1.2.2.1, ⟨hk.1.2.2.2.1, ⟨hk.1.2.2.2.2.1, ⟨hk.1.2.2.2.2.2.1, ⟨hk.1.2.2.2.2.2.2.1, ⟨hk.1.2.2.2.2.2.2.2, hk.2⟩⟩⟩⟩⟩⟩⟩⟩)), (kR HO399), (kR HO405), (by (with_reducible repeat (first | apply Kd.V_alloc | apply Kd.V_drewN | apply Kd.V_drew)); exact Kd.V_mono HO413.out (fun _ hk => ⟨hk.1.1, ⟨hk.1.2.1, ⟨hk.1.2.2.1, ⟨hk.1.2.2.2.1, ⟨hk.1.2.2.2.2.1, ⟨hk.1.2.2.2.2.2.1, ⟨hk.1.2.2.2.2.2.2.1, ⟨hk.1.2.2.2.2.2.2.2, hk.2⟩⟩⟩⟩⟩⟩⟩⟩)), (bk BK376), (bk BK377), (bk BK395), (bk BK401), (bk BK415), GW415.out, GE415.out, NB376_415.out, NB415_376.out, NB377_415.out, NB415_377.out, NB395_415.out, NB415_395.out, NB401_415.out, NB415_401.out, bw⟩)
                      · skip
                        refine box_step ?hg (N := 9) ?hd (cs := #[.bool false, .slice none 0 0]) (t := 24) ?hr ?_; (case hd => rfl); (case hg => rfl); (case hr => first | (go_simp; done) | (go_simp; rfl))
                        intro gb415 hg w70 hbox hb
                        have n0_ := Aside0.mk (Kd.R_below (kR HO385) hb)
                        have n1_ := Aside0.mk (Kd.R_below (kR HO389) hb)
                        have n2_ := Aside0.mk (Kd.V_below (Kd.V_elderB (kV HO393) gb415 (Nat.le_of_eq hg.symm)) hb)
                        have n3_ := Aside0.mk (Kd.R_below (kR HO399) hb)
                        have n4_ := Aside0.mk (Kd.R_below (kR HO405) hb)
                        have n5_ := Aside0.mk (Kd.R_below (kR HO409) hb)
                        have n6_ := Aside0.mk (blk_below (bk BK376) hb)
                        have n7_ := Aside0.mk (blk_below (bk BK377) hb)
                        have n8_ := Aside0.mk (blk_below (bk BK395) hb)
                        have n9_ := Aside0.mk (blk_below (bk BK401) hb)
                        have n10_ := Aside0.mk (below_step bw hb)
                        have n11_ := Aside0.mk (hbox)
                        have n12_ := Aside0.mk ((szL hg))
                        have n13_ := Aside0.mk ((szL hg))
                        have n14_ := Aside0.mk ((neL hg BK376))
                        have n15_ := Aside0.mk ((neG hg BK376))
                        have n16_ := Aside0.mk ((neL hg BK377))
                        have n17_ := Aside0.mk ((neG hg BK377))
                        have n18_ := Aside0.mk ((neL hg BK395))
                        have n19_ := Aside0.mk ((neG hg BK395))
                        have n20_ := Aside0.mk ((neL hg BK401))
                        have n21_ := Aside0.mk ((neG hg BK401))
                        clear HO385 HO389 HO393 HO399 HO405 HO409 BK376 BK377 BK395 BK401 HB
                        have HO385 := n0_
                        have HO389 := n1_
                        have HO393 := n2_
                        have HO399 := n3_
                        have HO405 := n4_
                        have HO409 := n5_
                        have BK376 := n6_
                        have BK377 := n7_
                        have BK395 := n8_
                        have BK401 := n9_
                        have HB := n10_
                        have BK415 := n11_
                        have GW415 := n12_
                        have GE415 := n13_
                        have NB376_415 := n14_
                        have NB415_376 := n15_
                        have NB377_415 := n16_
                        have NB415_377 := n17_
                        have NB395_415 := n18_
                        have NB415_395 := n19_
                        have NB401_415 := n20_
                        have NB415_401 := n21_
                        clear n0_ n1_ n2_ n3_ n4_ n5_ n6_ n7_ n8_ n9_ n10_ n11_ n12_ n13_ n14_ n15_ n16_ n17_ n18_ n19_ n20_ n21_
                        clear hb hbox hg
                        obtain ⟨Ao71, co71, eo71⟩ := Kd.R_slice HO405.out
                        (first | subst eo71 | (injection eo71 with f1_ f2_ f3_; have f4_ := f1_.symm; have f5_ := f3_.symm; clear f1_ f2_ f3_; subst f4_; subst f5_))
                        obtain ⟨Ao72, co72, eo72⟩ := Kd.R_slice HO409.out
                        (first | subst eo72 | (injection eo72 with f1_ f2_ f3_; have f4_ := f1_.symm; have f5_ := f3_.symm; clear f1_ f2_ f3_; subst f4_; subst f5_))
                        refine hK.out _ _ ⟨(blk_cell BK376.out 0).trans rfl, (blk_cell BK376.out 1).trans rfl, (blk_cell BK377.out 0).trans rfl, (blk_cell BK377.out 1).trans rfl⟩ (fun hHeld => ?_)
                        clear hK K
                        refine norm_ (a' := ?_) ?_ ?_
                        rotate_left
                        · show Act.put _ (some 9) _ = _
                          simp only [Act.put, List.setIfInBounds_toArray, List.set_cons_zero, List.set_cons_succ, i64_w, i32_w]
                          rfl
                        refine one_ (i := 4) (N := some 45) #[true, true, true, true, true, false, false, false, true, false, false] rfl rfl (one_of HT_.out (by kernel_rfl)) (by decide) (fun K hK => ?_)
                        refine goes_ Tryd.func20 (by kernel_rfl) rfl #[.agg #[.bool t402, .slice Ao71 t403.length co71], .agg #[.bool t406, .slice Ao72 t407.length co72]] (by rfl) rfl rfl (by (try simp only [List.map_toArray, List.map_cons, List.map_nil]); first | done | rfl | (simp only [List.length_drop, List.length_take]; rfl)) ?_
                        with_reducible refine (num_Sub.calls kj2 t402 _ _ t403 t406 (fun k_ => some k_ = (.slice Ao72 t407.length co72 : Value).ownBlock) (.slice Ao72 t407.length co72) t407 t410 t411 t414 w _ ?side1 ?side2 ?side3 ?side4 A31.out).mono ?_
                        (case side1 => repeat (first | (with_reducible first | exact HB.out | apply below_alloc | apply pw_below_drewN | apply below_drew1 | refine below_set ?_ GE376.out | refine below_set ?_ GE377.out | refine below_set ?_ GE395.out | refine below_set ?_ GE401.out | refine below_set ?_ GE415.out) | exact HB.out))
                        (case side2 => exact Kd.C_kept_own (HO405.out) (fun k_ hk_ hs_ => (hk_.2) hs_))
                        (case side3 => exact (Kd.R_reads' HO405.out).2.1)
                        (case side4 => exact Kd.R_tight rfl HO409.out)
                        rintro e w73 ⟨v412, rfl, ho0, hb, hkp⟩
                        refine ⟨_, rfl, ?_⟩
                        have n0_ := Aside0.mk (blk_kept (bk BK376) hkp (fun hs_ => (fun e_ => (Kd.R_ne HO409.out BK376.out (by decide)) e_) hs_))
                        have n1_ := Aside0.mk (blk_kept (bk BK377) hkp (fun hs_ => (fun e_ => (Kd.R_ne HO409.out BK377.out (by decide)) e_) hs_))
                        have n2_ := Aside0.mk (Kd.R_mono (ok' := fun k_ => some k_ ≠ (v388 : Value).ownBlock ∧ some k_ ≠ (.slice Ao65 t397.length co65 : Value).ownBlock ∧ some k_ ≠ (.slice Ao71 t403.length co71 : Value).ownBlock) (Kd.R_keptB (HO385.out) hkp (fun k_ hk_ hs_ => (hk_.2) hs_)) (fun k_ hk_ => ⟨hk_.1.1.1.1, hk_.1.1.1.2, hk_.1.1.2⟩))
                        have n3_ := Aside0.mk (Kd.R_mono (ok' := fun k_ => some k_ ≠ (v384 : Value).ownBlock ∧ some k_ ≠ (.slice Ao65 t397.length co65 : Value).ownBlock ∧ some k_ ≠ (.slice Ao71 t403.length co71 : Value).ownBlock) (Kd.R_keptB (HO389.out) hkp (fun k_ hk_ hs_ => (hk_.2) hs_)) (fun k_ hk_ => ⟨hk_.1.1.1.1, hk_.1.1.1.2, hk_.1.1.2⟩))
                        have n4_ := Aside0.mk (Kd.V_mono (ok' := fun k_ => some k_ ≠ (v384 : Value).ownBlock ∧ some k_ ≠ (v388 : Value).ownBlock ∧ some k_ ≠ (.slice Ao65 t397.length co65 : Value).ownBlock ∧ some k_ ≠ (.slice Ao71 t403.length co71 : Value).ownBlock ∧ k_ ≠ gb376 ∧ k_ ≠ gb377 ∧ k_ ≠ gb395 ∧ k_ ≠ gb401 ∧ k_ ≠ gb415) (Kd.V_keptB (HO393.out) hkp (fun k_ hk_ hs_ => (hk_.1.2) hs_)) (fun k_ hk_ => ⟨hk_.1.1.1.1.1, hk_.1.1.1.1.2.1, hk_.1.1.1.1.2.2.1, hk_.1.1.1.2, hk_.1.1.1.1.2.2.2.1, hk_.1.1.1.1.2.2.2.2.1, hk_.1.1.1.1.2.2.2.2.2.1, hk_.1.1.1.1.2.2.2.2.2.2, hk_.1.2⟩))
                        have n5_ := Aside0.mk (blk_kept (bk BK395) hkp (fun hs_ => (fun e_ => (Kd.R_ne HO409.out BK395.out (by decide)) e_) hs_))
                        have n6_ := Aside0.mk (Kd.R_mono (ok' := fun k_ => some k_ ≠ (v384 : Value).ownBlock ∧ some k_ ≠ (v388 : Value).ownBlock ∧ some k_ ≠ (.slice Ao71 t403.length co71 : Value).ownBlock) (Kd.R_keptB (HO399.out) hkp (fun k_ hk_ hs_ => (hk_.2) hs_)) (fun k_ hk_ => ⟨hk_.1.1.1.1, hk_.1.1.1.2, hk_.1.1.2⟩))
                        have n7_ := Aside0.mk (blk_kept (bk BK401) hkp (fun hs_ => (fun e_ => (Kd.R_ne HO409.out BK401.out (by decide)) e_) hs_))
                        have n8_ := Aside0.mk (Kd.R_mono (ok' := fun k_ => some k_ ≠ (v384 : Value).ownBlock ∧ some k_ ≠ (v388 : Value).ownBlock ∧ some k_ ≠ (.slice Ao65 t397.length co65 : Value).ownBlock) (Kd.R_keptB (HO405.out) hkp (fun k_ hk_ hs_ => (hk_.2) hs_)) (fun k_ hk_ => ⟨hk_.1.1.1.1.2, hk_.1.1.1.2, hk_.1.1.2⟩))
                        have n9_ := Aside0.mk (blk_kept (bk BK415) hkp (fun hs_ => (fun e_ => (Kd.R_ne HO409.out BK415.out (by decide)) e_) hs_))
                        have n10_ := Aside0.mk (Kd.V_mono (ok' := fun k_ => some k_ ≠ (v384 : Value).ownBlock ∧ some k_ ≠ (v388 : Value).ownBlock ∧ some k_ ≠ (.slice Ao65 t397.length co65 : Value).ownBlock ∧ some k_ ≠ (.slice Ao71 t403.length co71 : Value).ownBlock ∧ k_ ≠ gb376 ∧ k_ ≠ gb377 ∧ k_ ≠ gb395 ∧ k_ ≠ gb401 ∧ k_ ≠ gb415) ho0 (fun k_ hk_ => ⟨Or.elim hk_ (fun hs_ => fun e_ => (((HO385.out).1 k_ e_.symm).2) hs_) (fun hn_ => (Kd.fresh' (Kd.R_lt (kR HO385)) k_ hn_)), Or.elim hk_ (fun hs_ => fun e_ => (((HO389.out).1 k_ e_.symm).2) hs_) (fun hn_ => (Kd.fresh' (Kd.R_lt (kR HO389)) k_ hn_)), Or.elim hk_ (fun hs_ => fun e_ => (((HO399.out).1 k_ e_.symm).2) hs_) (fun hn_ => (Kd.fresh' (Kd.R_lt (kR HO399)) k_ hn_)), Or.elim hk_ (fun hs_ => fun e_ => (((HO405.out).1 k_ e_.symm).2) hs_) (fun hn_ => (Kd.fresh' (Kd.R_lt (kR HO405)) k_ hn_)), Or.elim hk_ (fun hs_ => fun e_ => (Kd.R_ne HO409.out BK376.out (by decide)) (by rw [← e_]; exact hs_)) (fun hn_ => (Kd.freshB (bk BK376) k_ hn_)), Or.elim hk_ (fun hs_ => fun e_ => (Kd.R_ne HO409.out BK377.out (by decide)) (by rw [← e_]; exact hs_)) (fun hn_ => (Kd.freshB (bk BK377) k_ hn_)), Or.elim hk_ (fun hs_ => fun e_ => (Kd.R_ne HO409.out BK395.out (by decide)) (by rw [← e_]; exact hs_)) (fun hn_ => (Kd.freshB (bk BK395) k_ hn_)), Or.elim hk_ (fun hs_ => fun e_ => (Kd.R_ne HO409.out BK401.out (by decide)) (by rw [← e_]; exact hs_)) (fun hn_ => (Kd.freshB (bk BK401) k_ hn_)), Or.elim hk_ (fun hs_ => fun e_ => (Kd.R_ne HO409.out BK415.out (by decide)) (by rw [← e_]; exact hs_)) (fun hn_ => (Kd.freshB (bk BK415) k_ hn_))⟩))
                        have n11_ := Aside0.mk (hb)
                        clear BK376 BK377 HO385 HO389 HO393 BK395 HO399 BK401 HO405 BK415 HB HO409
                        have BK376 := n0_
                        have BK377 := n1_
                        have HO385 := n2_
                        have HO389 := n3_
                        have HO393 := n4_
                        have BK395 := n5_
                        have HO399 := n6_
                        have BK401 := n7_
                        have HO405 := n8_
                        have BK415 := n9_
                        have HO413 := n10_
                        have HB := n11_
                        clear n0_ n1_ n2_ n3_ n4_ n5_ n6_ n7_ n8_ n9_ n10_ n11_
                        (try clear hb)
                        (try clear hkp)
                        (try clear ho0)
                        refine hK.out _ _ ⟨(blk_cell BK376.out 0).trans rfl, (blk_cell BK376.out 1).trans rfl, (blk_cell BK377.out 0).trans rfl, (blk_cell BK377.out 1).trans rfl⟩ (fun hHeld => ?_)
                        clear hK K
                        refine norm_ (a' := ?_) ?_ ?_
                        rotate_left
                        · show Act.put _ (some 45) _ = _
                          simp only [Act.put, List.setIfInBounds_toArray, List.set_cons_zero, List.set_cons_succ, i64_w, i32_w]
                          rfl
                        refine pure_ (i := 5) (N := some 40) (v := ?_) (a' := ?_) #[true, true, true, true, true, true, false, false, true, false, false] rfl rfl (any_of HT_.out (by kernel_rfl)) (fun _ _ _ h => h) (Or.inl ⟨by rfl, ?_⟩) ?_ ?_
                        rotate_left
                        · intro w'
                          go_simp
                          with_reducible rfl
                        rotate_left
                        · simp only [Act.put, List.setIfInBounds_toArray, List.set_cons_zero, List.set_cons_succ, i64_w, i32_w]
                          rfl
                        refine pure_ (i := 6) (N := some 46) (v := ?_) (a' := ?_) #[true, true, true, true, true, true, true, false, true, false, false] rfl rfl (any_of HT_.out (by kernel_rfl)) (fun _ _ _ h => h) (Or.inl ⟨by rfl, ?_⟩) ?_ ?_
                        rotate_left
                        · intro w'
                          go_simp
                          with_reducible rfl
                        rotate_left
                        · simp only [Act.put, List.setIfInBounds_toArray, List.set_cons_zero, List.set_cons_succ, i64_w, i32_w]
                          rfl
                        refine pure_ (i := 7) (N := some 47) (v := ?_) (a' := ?_) #[true, true, true, true, true, true, true, true, true, false, false] rfl rfl (any_of HT_.out (by kernel_rfl)) (fun _ _ _ h => h) (Or.inl ⟨by rfl, ?_⟩) ?_ ?_
                        rotate_left
                        · intro w'
                          go_simp
                          with_reducible rfl
                        rotate_left
                        · simp only [Act.put, List.setIfInBounds_toArray, List.set_cons_zero, List.set_cons_succ, i64_w, i32_w]
                          rfl
                        exact norm_ (by simp only [putAll, Act.put, List.setIfInBounds_toArray, List.set_cons_zero, List.set_cons_succ]) (hCont (.slice Ao71 t403.length co71, .slice Ao72 t407.length co72, v412, gb415) _ ⟨hHeld, (kR HO385), (kR HO389), (kV HO393), (kR HO399), (kR HO405), (kV HO413), (bk BK376), (bk BK377), (bk BK395), (bk BK401), (bk BK415), GW415.out, GE415.out, NB376_415.out, NB415_376.out, NB377_415.out, NB415_377.out, NB395_415.out, NB415_395.out, NB401_415.out, NB415_401.out, bw⟩)
                    · skip
                      refine box_step ?hg (N := 9) ?hd (cs := #[.bool false, .slice none 0 0]) (t := 24) ?hr ?_; (case hd => rfl); (case hg => rfl); (case hr => first | (go_simp; done) | (go_simp; rfl))
                      intro gb415 hg w69 hbox hb
                      have n0_ := Aside0.mk (Kd.R_below (kR HO385) hb)
                      have n1_ := Aside0.mk (Kd.R_below (kR HO389) hb)
                      have n2_ := Aside0.mk (Kd.V_below (Kd.V_elderB (kV HO393) gb415 (Nat.le_of_eq hg.symm)) hb)
                      have n3_ := Aside0.mk (Kd.R_below (kR HO399) hb)
                      have n4_ := Aside0.mk (Kd.R_below (kR HO405) hb)
                      have n5_ := Aside0.mk (blk_below (bk BK376) hb)
                      have n6_ := Aside0.mk (blk_below (bk BK377) hb)
                      have n7_ := Aside0.mk (blk_below (bk BK395) hb)
                      have n8_ := Aside0.mk (blk_below (bk BK401) hb)
                      have n9_ := Aside0.mk (below_step bw hb)
                      have n10_ := Aside0.mk (hbox)
                      have n11_ := Aside0.mk ((szL hg))
                      have n12_ := Aside0.mk ((szL hg))
                      have n13_ := Aside0.mk ((neL hg BK376))
                      have n14_ := Aside0.mk ((neG hg BK376))
                      have n15_ := Aside0.mk ((neL hg BK377))
                      have n16_ := Aside0.mk ((neG hg BK377))
                      have n17_ := Aside0.mk ((neL hg BK395))
                      have n18_ := Aside0.mk ((neG hg BK395))
                      have n19_ := Aside0.mk ((neL hg BK401))
                      have n20_ := Aside0.mk ((neG hg BK401))
                      clear HO385 HO389 HO393 HO399 HO405 BK376 BK377 BK395 BK401 HB
                      have HO385 := n0_
                      have HO389 := n1_
                      have HO393 := n2_
                      have HO399 := n3_
                      have HO405 := n4_
                      have BK376 := n5_
                      have BK377 := n6_
                      have BK395 := n7_
                      have BK401 := n8_
                      have HB := n9_
                      have BK415 := n10_
                      have GW415 := n11_
                      have GE415 := n12_
                      have NB376_415 := n13_
                      have NB415_376 := n14_
                      have NB377_415 := n15_
                      have NB415_377 := n16_
                      have NB395_415 := n17_
                      have NB415_395 := n18_
                      have NB401_415 := n19_
                      have NB415_401 := n20_
                      clear n0_ n1_ n2_ n3_ n4_ n5_ n6_ n7_ n8_ n9_ n10_ n11_ n12_ n13_ n14_ n15_ n16_ n17_ n18_ n19_ n20_
                      clear hb hbox hg
                      refine hK.out _ _ ⟨(blk_cell BK376.out 0).trans rfl, (blk_cell BK376.out 1).trans rfl, (blk_cell BK377.out 0).trans rfl, (blk_cell BK377.out 1).trans rfl⟩ (fun hHeld => ?_)
                      clear hK K
                      refine norm_ (a' := ?_) ?_ ?_
                      rotate_left
                      · show Act.put _ (some 9) _ = _
                        simp only [Act.put, List.setIfInBounds_toArray, List.set_cons_zero, List.set_cons_succ, i64_w, i32_w]
                        rfl
                      refine one_ (i := 3) (N := some 44) #[true, true, true, true, false, false, false, false, true, false, false] rfl rfl (one_of HT_.out (by kernel_rfl)) (by decide) (fun K hK => ?_)
                      refine goes_ Tryd.func15 (by kernel_rfl) rfl #[.agg #[.bool a1_0, .slice A1_1 l1_1.length c1_1]] (by rfl) rfl rfl (by (try simp only [List.map_toArray, List.map_cons, List.map_nil]); first | done | rfl | (simp only [List.length_drop, List.length_take]; rfl)) ?_
                      with_reducible refine (marginalialaw01_own.calls a1_0 _ _ l1_1 t406 t407 _ ?side1 ?side2 A30.out).mono ?_
                      (case side1 => repeat (first | exact (Kd.C_below HR1_1.out HB.out) | (with_reducible refine Kd.C_alloc ?_ _) | (with_reducible refine Kd.C_drewN ?_ _) | (with_reducible refine Kd.C_drew ?_)))
                      (case side2 => exact HC1_1.out)
                      rintro e w70 ⟨v408, rfl, ho0, hb⟩
                      refine ⟨_, rfl, ?_⟩
                      have n0_ := Aside0.mk (Kd.R_elder' (kR HO385) (Kd.R_base ho0) hb)
                      have n1_ := Aside0.mk (Kd.R_elder' (kR HO389) (Kd.R_base ho0) hb)
                      have n2_ := Aside0.mk (Kd.V_elder' (kV HO393) (Kd.R_base ho0) hb)
                      have n3_ := Aside0.mk (Kd.R_elder' (kR HO399) (Kd.R_base ho0) hb)
                      have n4_ := Aside0.mk (Kd.R_elder' (kR HO405) (Kd.R_base ho0) hb)
                      have n5_ := Aside0.mk (Kd.R_lower (Kd.R_new' (Kd.R_new' (Kd.R_new' (Kd.R_new' ho0 (Kd.R_lt (kR HO385))) (Kd.R_lt (kR HO389))) (Kd.R_lt (kR HO399))) (Kd.R_lt (kR HO405))) (below_size bw))
                      have n6_ := Aside0.mk (blk_below (bk BK376) hb)
                      have n7_ := Aside0.mk (blk_below (bk BK377) hb)
                      have n8_ := Aside0.mk (blk_below (bk BK395) hb)
                      have n9_ := Aside0.mk (blk_below (bk BK401) hb)
                      have n10_ := Aside0.mk (blk_below (bk BK415) hb)
                      have n11_ := Aside0.mk (below_step bw hb)
                      clear HO385 HO389 HO393 HO399 HO405 BK376 BK377 BK395 BK401 BK415 HB
                      have HO385 := n0_
                      have HO389 := n1_
                      have HO393 := n2_
                      have HO399 := n3_
                      have HO405 := n4_
                      have HO409 := n5_
                      have BK376 := n6_
                      have BK377 := n7_
                      have BK395 := n8_
                      have BK401 := n9_
                      have BK415 := n10_
                      have HB := n11_
                      clear n0_ n1_ n2_ n3_ n4_ n5_ n6_ n7_ n8_ n9_ n10_ n11_
                      (try clear hb)
                      (try clear hb2)
                      (try clear hk)
                      (try clear hi)
                      (try clear ho0)
                      obtain ⟨Ao71, co71, eo71⟩ := Kd.R_slice HO405.out
                      (first | subst eo71 | (injection eo71 with f1_ f2_ f3_; have f4_ := f1_.symm; have f5_ := f3_.symm; clear f1_ f2_ f3_; subst f4_; subst f5_))
                      obtain ⟨Ao72, co72, eo72⟩ := Kd.R_slice HO409.out
                      (first | subst eo72 | (injection eo72 with f1_ f2_ f3_; have f4_ := f1_.symm; have f5_ := f3_.symm; clear f1_ f2_ f3_; subst f4_; subst f5_))
                      refine hK.out _ _ ⟨(blk_cell BK376.out 0).trans rfl, (blk_cell BK376.out 1).trans rfl, (blk_cell BK377.out 0).trans rfl, (blk_cell BK377.out 1).trans rfl⟩ (fun hHeld => ?_)
                      clear hK K
                      refine norm_ (a' := ?_) ?_ ?_
                      rotate_left
                      · show Act.put _ (some 44) _ = _
                        simp only [Act.put, List.setIfInBounds_toArray, List.set_cons_zero, List.set_cons_succ, i64_w, i32_w]
                        rfl
                      refine one_ (i := 4) (N := some 45) #[true, true, true, true, true, false, false, false, true, false, false] rfl rfl (one_of HT_.out (by kernel_rfl)) (by decide) (fun K hK => ?_)
                      refine goes_ Tryd.func20 (by kernel_rfl) rfl #[.agg #[.bool t402, .slice Ao71 t403.length co71], .agg #[.bool t406, .slice Ao72 t407.length co72]] (by rfl) rfl rfl (by (try simp only [List.map_toArray, List.map_cons, List.map_nil]); first | done | rfl | (simp only [List.length_drop, List.length_take]; rfl)) ?_
                      with_reducible refine (num_Sub.calls kj2 t402 _ _ t403 t406 (fun k_ => some k_ = (.slice Ao72 t407.length co72 : Value).ownBlock) (.slice Ao72 t407.length co72) t407 t410 t411 t414 w _ ?side1 ?side2 ?side3 ?side4 A31.out).mono ?_
                      (case side1 => repeat (first | (with_reducible first | exact HB.out | apply below_alloc | apply pw_below_drewN | apply below_drew1 | refine below_set ?_ GE376.out | refine below_set ?_ GE377.out | refine below_set ?_ GE395.out | refine below_set ?_ GE401.out | refine below_set ?_ GE415.out) | exact HB.out))
                      (case side2 => exact Kd.C_kept_own (HO405.out) (fun k_ hk_ hs_ => (hk_.2) hs_))
                      (case side3 => exact (Kd.R_reads' HO405.out).2.1)
                      (case side4 => exact Kd.R_tight rfl HO409.out)
                      rintro e w73 ⟨v412, rfl, ho0, hb, hkp⟩
                      refine ⟨_, rfl, ?_⟩
                      have n0_ := Aside0.mk (blk_kept (bk BK376) hkp (fun hs_ => (fun e_ => (Kd.R_ne HO409.out BK376.out (by decide)) e_) hs_))
                      have n1_ := Aside0.mk (blk_kept (bk BK377) hkp (fun hs_ => (fun e_ => (Kd.R_ne HO409.out BK377.out (by decide)) e_) hs_))
                      have n2_ := Aside0.mk (Kd.R_mono (ok' := fun k_ => some k_ ≠ (v388 : Value).ownBlock ∧ some k_ ≠ (.slice Ao65 t397.length co65 : Value).ownBlock ∧ some k_ ≠ (.slice Ao71 t403.length co71 : Value).ownBlock) (Kd.R_keptB (HO385.out) hkp (fun k_ hk_ hs_ => (hk_.2) hs_)) (fun k_ hk_ => ⟨hk_.1.1.1.1, hk_.1.1.1.2, hk_.1.1.2⟩))
                      have n3_ := Aside0.mk (Kd.R_mono (ok' := fun k_ => some k_ ≠ (v384 : Value).ownBlock ∧ some k_ ≠ (.slice Ao65 t397.length co65 : Value).ownBlock ∧ some k_ ≠ (.slice Ao71 t403.length co71 : Value).ownBlock) (Kd.R_keptB (HO389.out) hkp (fun k_ hk_ hs_ => (hk_.2) hs_)) (fun k_ hk_ => ⟨hk_.1.1.1.1, hk_.1.1.1.2, hk_.1.1.2⟩))
                      have n4_ := Aside0.mk (Kd.V_mono (ok' := fun k_ => some k_ ≠ (v384 : Value).ownBlock ∧ some k_ ≠ (v388 : Value).ownBlock ∧ some k_ ≠ (.slice Ao65 t397.length co65 : Value).ownBlock ∧ some k_ ≠ (.slice Ao71 t403.length co71 : Value).ownBlock ∧ k_ ≠ gb376 ∧ k_ ≠ gb377 ∧ k_ ≠ gb395 ∧ k_ ≠ gb401 ∧ k_ ≠ gb415) (Kd.V_keptB (HO393.out) hkp (fun k_ hk_ hs_ => (hk_.2) hs_)) (fun k_ hk_ => ⟨hk_.1.1.1.1.1, hk_.1.1.1.1.2.1, hk_.1.1.1.1.2.2.1, hk_.1.1.1.2, hk_.1.1.1.1.2.2.2.1, hk_.1.1.1.1.2.2.2.2.1, hk_.1.1.1.1.2.2.2.2.2.1, hk_.1.1.1.1.2.2.2.2.2.2, hk_.1.1.2⟩))
                      have n5_ := Aside0.mk (blk_kept (bk BK395) hkp (fun hs_ => (fun e_ => (Kd.R_ne HO409.out BK395.out (by decide)) e_) hs_))
                      have n6_ := Aside0.mk (Kd.R_mono (ok' := fun k_ => some k_ ≠ (v384 : Value).ownBlock ∧ some k_ ≠ (v388 : Value).ownBlock ∧ some k_ ≠ (.slice Ao71 t403.length co71 : Value).ownBlock) (Kd.R_keptB (HO399.out) hkp (fun k_ hk_ hs_ => (hk_.2) hs_)) (fun k_ hk_ => ⟨hk_.1.1.1.1, hk_.1.1.1.2, hk_.1.1.2⟩))
                      have n7_ := Aside0.mk (blk_kept (bk BK401) hkp (fun hs_ => (fun e_ => (Kd.R_ne HO409.out BK401.out (by decide)) e_) hs_))
                      have n8_ := Aside0.mk (Kd.R_mono (ok' := fun k_ => some k_ ≠ (v384 : Value).ownBlock ∧ some k_ ≠ (v388 : Value).ownBlock ∧ some k_ ≠ (.slice Ao65 t397.length co65 : Value).ownBlock) (Kd.R_keptB (HO405.out) hkp (fun k_ hk_ hs_ => (hk_.2) hs_)) (fun k_ hk_ => ⟨hk_.1.1.1.1.2, hk_.1.1.1.2, hk_.1.1.2⟩))
                      have n9_ := Aside0.mk (blk_kept (bk BK415) hkp (fun hs_ => (fun e_ => (Kd.R_ne HO409.out BK415.out (by decide)) e_) hs_))
                      have n10_ := Aside0.mk (Kd.V_mono (ok' := fun k_ => some k_ ≠ (v384 : Value).ownBlock ∧ some k_ ≠ (v388 : Value).ownBlock ∧ some k_ ≠ (.slice Ao65 t397.length co65 : Value).ownBlock ∧ some k_ ≠ (.slice Ao71 t403.length co71 : Value).ownBlock ∧ k_ ≠ gb376 ∧ k_ ≠ gb377 ∧ k_ ≠ gb395 ∧ k_ ≠ gb401 ∧ k_ ≠ gb415) ho0 (fun k_ hk_ => ⟨Or.elim hk_ (fun hs_ => fun e_ => (((HO385.out).1 k_ e_.symm).2) hs_) (fun hn_ => (Kd.fresh' (Kd.R_lt (kR HO385)) k_ hn_)), Or.elim hk_ (fun hs_ => fun e_ => (((HO389.out).1 k_ e_.symm).2) hs_) (fun hn_ => (Kd.fresh' (Kd.R_lt (kR HO389)) k_ hn_)), Or.elim hk_ (fun hs_ => fun e_ => (((HO399.out).1 k_ e_.symm).2) hs_) (fun hn_ => (Kd.fresh' (Kd.R_lt (kR HO399)) k_ hn_)), Or.elim hk_ (fun hs_ => fun e_ => (((HO405.out).1 k_ e_.symm).2) hs_) (fun hn_ => (Kd.fresh' (Kd.R_lt (kR HO405)) k_ hn_)), Or.elim hk_ (fun hs_ => fun e_ => (Kd.R_ne HO409.out BK376.out (by decide)) (by rw [← e_]; exact hs_)) (fun hn_ => (Kd.freshB (bk BK376) k_ hn_)), Or.elim hk_ (fun hs_ => fun e_ => (Kd.R_ne HO409.out BK377.out (by decide)) (by rw [← e_]; exact hs_)) (fun hn_ => (Kd.freshB (bk BK377) k_ hn_)), Or.elim hk_ (fun hs_ => fun e_ => (Kd.R_ne HO409.out BK395.out (by decide)) (by rw [← e_]; exact hs_)) (fun hn_ => (Kd.freshB (bk BK395) k_ hn_)), Or.elim hk_ (fun hs_ => fun e_ => (Kd.R_ne HO409.out BK401.out (by decide)) (by rw [← e_]; exact hs_)) (fun hn_ => (Kd.freshB (bk BK401) k_ hn_)), Or.elim hk_ (fun hs_ => fun e_ => (Kd.R_ne HO409.out BK415.out (by decide)) (by rw [← e_]; exact hs_)) (fun hn_ => (Kd.freshB (bk BK415) k_ hn_))⟩))
                      have n11_ := Aside0.mk (hb)
                      clear BK376 BK377 HO385 HO389 HO393 BK395 HO399 BK401 HO405 BK415 HB HO409
                      have BK376 := n0_
                      have BK377 := n1_
                      have HO385 := n2_
                      have HO389 := n3_
                      have HO393 := n4_
                      have BK395 := n5_
                      have HO399 := n6_
                      have BK401 := n7_
                      have HO405 := n8_
                      have BK415 := n9_
                      have HO413 := n10_
                      have HB := n11_
                      clear n0_ n1_ n2_ n3_ n4_ n5_ n6_ n7_ n8_ n9_ n10_ n11_
                      (try clear hb)
                      (try clear hkp)
                      (try clear ho0)
                      refine hK.out _ _ ⟨(blk_cell BK376.out 0).trans rfl, (blk_cell BK376.out 1).trans rfl, (blk_cell BK377.out 0).trans rfl, (blk_cell BK377.out 1).trans rfl⟩ (fun hHeld => ?_)
                      clear hK K
                      refine norm_ (a' := ?_) ?_ ?_
                      rotate_left
                      · show Act.put _ (some 45) _ = _
                        simp only [Act.put, List.setIfInBounds_toArray, List.set_cons_zero, List.set_cons_succ, i64_w, i32_w]
                        rfl
                      refine pure_ (i := 5) (N := some 40) (v := ?_) (a' := ?_) #[true, true, true, true, true, true, false, false, true, false, false] rfl rfl (any_of HT_.out (by kernel_rfl)) (fun _ _ _ h => h) (Or.inl ⟨by rfl, ?_⟩) ?_ ?_
                      rotate_left
                      · intro w'
                        go_simp
                        with_reducible rfl
                      rotate_left
                      · simp only [Act.put, List.setIfInBounds_toArray, List.set_cons_zero, List.set_cons_succ, i64_w, i32_w]
                        rfl
                      refine pure_ (i := 6) (N := some 46) (v := ?_) (a' := ?_) #[true, true, true, true, true, true, true, false, true, false, false] rfl rfl (any_of HT_.out (by kernel_rfl)) (fun _ _ _ h => h) (Or.inl ⟨by rfl, ?_⟩) ?_ ?_
                      rotate_left
                      · intro w'
                        go_simp
                        with_reducible rfl
                      rotate_left
                      · simp only [Act.put, List.setIfInBounds_toArray, List.set_cons_zero, List.set_cons_succ, i64_w, i32_w]
                        rfl
                      refine pure_ (i := 7) (N := some 47) (v := ?_) (a' := ?_) #[true, true, true, true, true, true, true, true, true, false, false] rfl rfl (any_of HT_.out (by kernel_rfl)) (fun _ _ _ h => h) (Or.inl ⟨by rfl, ?_⟩) ?_ ?_
                      rotate_left
                      · intro w'
                        go_simp
                        with_reducible rfl
                      rotate_left
                      · simp only [Act.put, List.setIfInBounds_toArray, List.set_cons_zero, List.set_cons_succ, i64_w, i32_w]
                        rfl
                      exact norm_ (by simp only [putAll, Act.put, List.setIfInBounds_toArray, List.set_cons_zero, List.set_cons_succ]) (hCont (.slice Ao71 t403.length co71, .slice Ao72 t407.length co72, v412, gb415) _ ⟨hHeld, (kR HO385), (kR HO389), (kV HO393), (kR HO399), (kR HO405), (kV HO413), (bk BK376), (bk BK377), (bk BK395), (bk BK401), (bk BK415), GW415.out, GE415.out, NB376_415.out, NB415_376.out, NB377_415.out, NB415_377.out, NB395_415.out, NB415_395.out, NB401_415.out, NB415_401.out, bw⟩)
                  · skip
                    refine box_step ?hg (N := 9) ?hd (cs := #[.bool false, .slice none 0 0]) (t := 24) ?hr ?_; (case hd => rfl); (case hg => rfl); (case hr => first | (go_simp; done) | (go_simp; rfl))
                    intro gb415 hg w68 hbox hb
                    have n0_ := Aside0.mk (Kd.R_below (kR HO385) hb)
                    have n1_ := Aside0.mk (Kd.R_below (kR HO389) hb)
                    have n2_ := Aside0.mk (Kd.V_below (Kd.V_elderB (kV HO393) gb415 (Nat.le_of_eq hg.symm)) hb)
                    have n3_ := Aside0.mk (Kd.R_below (kR HO399) hb)
                    have n4_ := Aside0.mk (blk_below (bk BK376) hb)
                    have n5_ := Aside0.mk (blk_below (bk BK377) hb)
                    have n6_ := Aside0.mk (blk_below (bk BK395) hb)
                    have n7_ := Aside0.mk (blk_below (bk BK401) hb)
                    have n8_ := Aside0.mk (below_step bw hb)
                    have n9_ := Aside0.mk (hbox)
                    have n10_ := Aside0.mk ((szL hg))
                    have n11_ := Aside0.mk ((szL hg))
                    have n12_ := Aside0.mk ((neL hg BK376))
                    have n13_ := Aside0.mk ((neG hg BK376))
                    have n14_ := Aside0.mk ((neL hg BK377))
                    have n15_ := Aside0.mk ((neG hg BK377))
                    have n16_ := Aside0.mk ((neL hg BK395))
                    have n17_ := Aside0.mk ((neG hg BK395))
                    have n18_ := Aside0.mk ((neL hg BK401))
                    have n19_ := Aside0.mk ((neG hg BK401))
                    clear HO385 HO389 HO393 HO399 BK376 BK377 BK395 BK401 HB
                    have HO385 := n0_
                    have HO389 := n1_
                    have HO393 := n2_
                    have HO399 := n3_
                    have BK376 := n4_
                    have BK377 := n5_
                    have BK395 := n6_
                    have BK401 := n7_
                    have HB := n8_
                    have BK415 := n9_
                    have GW415 := n10_
                    have GE415 := n11_
                    have NB376_415 := n12_
                    have NB415_376 := n13_
                    have NB377_415 := n14_
                    have NB415_377 := n15_
                    have NB395_415 := n16_
                    have NB415_395 := n17_
                    have NB401_415 := n18_
                    have NB415_401 := n19_
                    clear n0_ n1_ n2_ n3_ n4_ n5_ n6_ n7_ n8_ n9_ n10_ n11_ n12_ n13_ n14_ n15_ n16_ n17_ n18_ n19_
                    clear hb hbox hg
                    refine hK.out _ _ ⟨(blk_cell BK376.out 0).trans rfl, (blk_cell BK376.out 1).trans rfl, (blk_cell BK377.out 0).trans rfl, (blk_cell BK377.out 1).trans rfl⟩ (fun hHeld => ?_)
                    clear hK K
                    refine norm_ (a' := ?_) ?_ ?_
                    rotate_left
                    · show Act.put _ (some 9) _ = _
                      simp only [Act.put, List.setIfInBounds_toArray, List.set_cons_zero, List.set_cons_succ, i64_w, i32_w]
                      rfl
                    refine one_ (i := 1) (N := some 42) #[true, true, true, false, false, false, false, false, true, false, false] rfl rfl (one_of HT_.out (by kernel_rfl)) (by decide) (fun K hK => ?_)
                    refine goes_ Tryd.func15 (by kernel_rfl) rfl #[.agg #[.bool a0_0, .slice A0_1 l0_1.length c0_1]] (by rfl) rfl rfl (by (try simp only [List.map_toArray, List.map_cons, List.map_nil]); first | done | rfl | (simp only [List.length_drop, List.length_take]; rfl)) ?_
                    with_reducible refine (marginalialaw01_own.calls a0_0 _ _ l0_1 t402 t403 _ ?side1 ?side2 A29.out).mono ?_
                    (case side1 => repeat (first | exact (Kd.C_below HR0_1.out HB.out) | (with_reducible refine Kd.C_alloc ?_ _) | (with_reducible refine Kd.C_drewN ?_ _) | (with_reducible refine Kd.C_drew ?_)))
                    (case side2 => exact HC0_1.out)
                    rintro e w69 ⟨v404, rfl, ho0, hb⟩
                    refine ⟨_, rfl, ?_⟩
                    have n0_ := Aside0.mk (Kd.R_elder' (kR HO385) (Kd.R_base ho0) hb)
                    have n1_ := Aside0.mk (Kd.R_elder' (kR HO389) (Kd.R_base ho0) hb)
                    have n2_ := Aside0.mk (Kd.V_elder' (kV HO393) (Kd.R_base ho0) hb)
                    have n3_ := Aside0.mk (Kd.R_elder' (kR HO399) (Kd.R_base ho0) hb)
                    have n4_ := Aside0.mk (Kd.R_lower (Kd.R_new' (Kd.R_new' (Kd.R_new' ho0 (Kd.R_lt (kR HO385))) (Kd.R_lt (kR HO389))) (Kd.R_lt (kR HO399))) (below_size bw))
                    have n5_ := Aside0.mk (blk_below (bk BK376) hb)
                    have n6_ := Aside0.mk (blk_below (bk BK377) hb)
                    have n7_ := Aside0.mk (blk_below (bk BK395) hb)
                    have n8_ := Aside0.mk (blk_below (bk BK401) hb)
                    have n9_ := Aside0.mk (blk_below (bk BK415) hb)
                    have n10_ := Aside0.mk (below_step bw hb)
                    clear HO385 HO389 HO393 HO399 BK376 BK377 BK395 BK401 BK415 HB
                    have HO385 := n0_
                    have HO389 := n1_
                    have HO393 := n2_
                    have HO399 := n3_
                    have HO405 := n4_
                    have BK376 := n5_
                    have BK377 := n6_
                    have BK395 := n7_
                    have BK401 := n8_
                    have BK415 := n9_
                    have HB := n10_
                    clear n0_ n1_ n2_ n3_ n4_ n5_ n6_ n7_ n8_ n9_ n10_
                    (try clear hb)
                    (try clear hb2)
                    (try clear hk)
                    (try clear hi)
                    (try clear ho0)
                    refine hK.out _ _ ⟨(blk_cell BK376.out 0).trans rfl, (blk_cell BK376.out 1).trans rfl, (blk_cell BK377.out 0).trans rfl, (blk_cell BK377.out 1).trans rfl⟩ (fun hHeld => ?_)
                    clear hK K
                    refine norm_ (a' := ?_) ?_ ?_
                    rotate_left
                    · show Act.put _ (some 42) _ = _
                      simp only [Act.put, List.setIfInBounds_toArray, List.set_cons_zero, List.set_cons_succ, i64_w, i32_w]
                      rfl
                    refine one_ (i := 3) (N := some 44) #[true, true, true, true, false, false, false, false, true, false, false] rfl rfl (one_of HT_.out (by kernel_rfl)) (by decide) (fun K hK => ?_)
                    refine goes_ Tryd.func15 (by kernel_rfl) rfl #[.agg #[.bool a1_0, .slice A1_1 l1_1.length c1_1]] (by rfl) rfl rfl (by (try simp only [List.map_toArray, List.map_cons, List.map_nil]); first | done | rfl | (simp only [List.length_drop, List.length_take]; rfl)) ?_
                    with_reducible refine (marginalialaw01_own.calls a1_0 _ _ l1_1 t406 t407 _ ?side1 ?side2 A30.out).mono ?_
                    (case side1 => repeat (first | exact (Kd.C_below HR1_1.out HB.out) | (with_reducible refine Kd.C_alloc ?_ _) | (with_reducible refine Kd.C_drewN ?_ _) | (with_reducible refine Kd.C_drew ?_)))
                    (case side2 => exact HC1_1.out)
                    rintro e w70 ⟨v408, rfl, ho0, hb⟩
                    refine ⟨_, rfl, ?_⟩
                    have n0_ := Aside0.mk (Kd.R_elder' (kR HO385) (Kd.R_base ho0) hb)
                    have n1_ := Aside0.mk (Kd.R_elder' (kR HO389) (Kd.R_base ho0) hb)
                    have n2_ := Aside0.mk (Kd.V_elder' (kV HO393) (Kd.R_base ho0) hb)
                    have n3_ := Aside0.mk (Kd.R_elder' (kR HO399) (Kd.R_base ho0) hb)
                    have n4_ := Aside0.mk (Kd.R_elder' (kR HO405) (Kd.R_base ho0) hb)
                    have n5_ := Aside0.mk (Kd.R_lower (Kd.R_new' (Kd.R_new' (Kd.R_new' (Kd.R_new' ho0 (Kd.R_lt (kR HO385))) (Kd.R_lt (kR HO389))) (Kd.R_lt (kR HO399))) (Kd.R_lt (kR HO405))) (below_size bw))
                    have n6_ := Aside0.mk (blk_below (bk BK376) hb)
                    have n7_ := Aside0.mk (blk_below (bk BK377) hb)
                    have n8_ := Aside0.mk (blk_below (bk BK395) hb)
                    have n9_ := Aside0.mk (blk_below (bk BK401) hb)
                    have n10_ := Aside0.mk (blk_below (bk BK415) hb)
                    have n11_ := Aside0.mk (below_step bw hb)
                    clear HO385 HO389 HO393 HO399 HO405 BK376 BK377 BK395 BK401 BK415 HB
                    have HO385 := n0_
                    have HO389 := n1_
                    have HO393 := n2_
                    have HO399 := n3_
                    have HO405 := n4_
                    have HO409 := n5_
                    have BK376 := n6_
                    have BK377 := n7_
                    have BK395 := n8_
                    have BK401 := n9_
                    have BK415 := n10_
                    have HB := n11_
                    clear n0_ n1_ n2_ n3_ n4_ n5_ n6_ n7_ n8_ n9_ n10_ n11_
                    (try clear hb)
                    (try clear hb2)
                    (try clear hk)
                    (try clear hi)
                    (try clear ho0)
                    obtain ⟨Ao71, co71, eo71⟩ := Kd.R_slice HO405.out
                    (first | subst eo71 | (injection eo71 with f1_ f2_ f3_; have f4_ := f1_.symm; have f5_ := f3_.symm; clear f1_ f2_ f3_; subst f4_; subst f5_))
                    obtain ⟨Ao72, co72, eo72⟩ := Kd.R_slice HO409.out
                    (first | subst eo72 | (injection eo72 with f1_ f2_ f3_; have f4_ := f1_.symm; have f5_ := f3_.symm; clear f1_ f2_ f3_; subst f4_; subst f5_))
                    refine hK.out _ _ ⟨(blk_cell BK376.out 0).trans rfl, (blk_cell BK376.out 1).trans rfl, (blk_cell BK377.out 0).trans rfl, (blk_cell BK377.out 1).trans rfl⟩ (fun hHeld => ?_)
                    clear hK K
                    refine norm_ (a' := ?_) ?_ ?_
                    rotate_left
                    · show Act.put _ (some 44) _ = _
                      simp only [Act.put, List.setIfInBounds_toArray, List.set_cons_zero, List.set_cons_succ, i64_w, i32_w]
                      rfl
                    refine one_ (i := 4) (N := some 45) #[true, true, true, true, true, false, false, false, true, false, false] rfl rfl (one_of HT_.out (by kernel_rfl)) (by decide) (fun K hK => ?_)
                    refine goes_ Tryd.func20 (by kernel_rfl) rfl #[.agg #[.bool t402, .slice Ao71 t403.length co71], .agg #[.bool t406, .slice Ao72 t407.length co72]] (by rfl) rfl rfl (by (try simp only [List.map_toArray, List.map_cons, List.map_nil]); first | done | rfl | (simp only [List.length_drop, List.length_take]; rfl)) ?_
                    with_reducible refine (num_Sub.calls kj2 t402 _ _ t403 t406 (fun k_ => some k_ = (.slice Ao72 t407.length co72 : Value).ownBlock) (.slice Ao72 t407.length co72) t407 t410 t411 t414 w _ ?side1 ?side2 ?side3 ?side4 A31.out).mono ?_
                    (case side1 => repeat (first | (with_reducible first | exact HB.out | apply below_alloc | apply pw_below_drewN | apply below_drew1 | refine below_set ?_ GE376.out | refine below_set ?_ GE377.out | refine below_set ?_ GE395.out | refine below_set ?_ GE401.out | refine below_set ?_ GE415.out) | exact HB.out))
                    (case side2 => exact Kd.C_kept_own (HO405.out) (fun k_ hk_ hs_ => (hk_.2) hs_))
                    (case side3 => exact (Kd.R_reads' HO405.out).2.1)
                    (case side4 => exact Kd.R_tight rfl HO409.out)
                    rintro e w73 ⟨v412, rfl, ho0, hb, hkp⟩
                    refine ⟨_, rfl, ?_⟩
                    have n0_ := Aside0.mk (blk_kept (bk BK376) hkp (fun hs_ => (fun e_ => (Kd.R_ne HO409.out BK376.out (by decide)) e_) hs_))
                    have n1_ := Aside0.mk (blk_kept (bk BK377) hkp (fun hs_ => (fun e_ => (Kd.R_ne HO409.out BK377.out (by decide)) e_) hs_))
                    have n2_ := Aside0.mk (Kd.R_mono (ok' := fun k_ => some k_ ≠ (v388 : Value).ownBlock ∧ some k_ ≠ (.slice Ao65 t397.length co65 : Value).ownBlock ∧ some k_ ≠ (.slice Ao71 t403.length co71 : Value).ownBlock) (Kd.R_keptB (HO385.out) hkp (fun k_ hk_ hs_ => (hk_.2) hs_)) (fun k_ hk_ => ⟨hk_.1.1.1.1, hk_.1.1.1.2, hk_.1.1.2⟩))
                    have n3_ := Aside0.mk (Kd.R_mono (ok' := fun k_ => some k_ ≠ (v384 : Value).ownBlock ∧ some k_ ≠ (.slice Ao65 t397.length co65 : Value).ownBlock ∧ some k_ ≠ (.slice Ao71 t403.length co71 : Value).ownBlock) (Kd.R_keptB (HO389.out) hkp (fun k_ hk_ hs_ => (hk_.2) hs_)) (fun k_ hk_ => ⟨hk_.1.1.1.1, hk_.1.1.1.2, hk_.1.1.2⟩))
                    have n4_ := Aside0.mk (Kd.V_mono (ok' := fun k_ => some k_ ≠ (v384 : Value).ownBlock ∧ some k_ ≠ (v388 : Value).ownBlock ∧ some k_ ≠ (.slice Ao65 t397.length co65 : Value).ownBlock ∧ some k_ ≠ (.slice Ao71 t403.length co71 : Value).ownBlock ∧ k_ ≠ gb376 ∧ k_ ≠ gb377 ∧ k_ ≠ gb395 ∧ k_ ≠ gb401 ∧ k_ ≠ gb415) (Kd.V_keptB (HO393.out) hkp (fun k_ hk_ hs_ => (hk_.2) hs_)) (fun k_ hk_ => ⟨hk_.1.1.1.1.1, hk_.1.1.1.1.2.1, hk_.1.1.1.1.2.2.1, hk_.1.1.2, hk_.1.1.1.1.2.2.2.1, hk_.1.1.1.1.2.2.2.2.1, hk_.1.1.1.1.2.2.2.2.2.1, hk_.1.1.1.1.2.2.2.2.2.2, hk_.1.1.1.2⟩))
                    have n5_ := Aside0.mk (blk_kept (bk BK395) hkp (fun hs_ => (fun e_ => (Kd.R_ne HO409.out BK395.out (by decide)) e_) hs_))
                    have n6_ := Aside0.mk (Kd.R_mono (ok' := fun k_ => some k_ ≠ (v384 : Value).ownBlock ∧ some k_ ≠ (v388 : Value).ownBlock ∧ some k_ ≠ (.slice Ao71 t403.length co71 : Value).ownBlock) (Kd.R_keptB (HO399.out) hkp (fun k_ hk_ hs_ => (hk_.2) hs_)) (fun k_ hk_ => ⟨hk_.1.1.1.1, hk_.1.1.1.2, hk_.1.1.2⟩))
                    have n7_ := Aside0.mk (blk_kept (bk BK401) hkp (fun hs_ => (fun e_ => (Kd.R_ne HO409.out BK401.out (by decide)) e_) hs_))
                    have n8_ := Aside0.mk (blk_kept (bk BK415) hkp (fun hs_ => (fun e_ => (Kd.R_ne HO409.out BK415.out (by decide)) e_) hs_))
                    have n9_ := Aside0.mk (Kd.R_mono (ok' := fun k_ => some k_ ≠ (v384 : Value).ownBlock ∧ some k_ ≠ (v388 : Value).ownBlock ∧ some k_ ≠ (.slice Ao65 t397.length co65 : Value).ownBlock) (Kd.R_keptB (HO405.out) hkp (fun k_ hk_ hs_ => (hk_.2) hs_)) (fun k_ hk_ => ⟨hk_.1.1.1.1.2, hk_.1.1.1.2, hk_.1.1.2⟩))
                    have n10_ := Aside0.mk (Kd.V_mono (ok' := fun k_ => some k_ ≠ (v384 : Value).ownBlock ∧ some k_ ≠ (v388 : Value).ownBlock ∧ some k_ ≠ (.slice Ao65 t397.length co65 : Value).ownBlock ∧ some k_ ≠ (.slice Ao71 t403.length co71 : Value).ownBlock ∧ k_ ≠ gb376 ∧ k_ ≠ gb377 ∧ k_ ≠ gb395 ∧ k_ ≠ gb401 ∧ k_ ≠ gb415) ho0 (fun k_ hk_ => ⟨Or.elim hk_ (fun hs_ => fun e_ => (((HO385.out).1 k_ e_.symm).2) hs_) (fun hn_ => (Kd.fresh' (Kd.R_lt (kR HO385)) k_ hn_)), Or.elim hk_ (fun hs_ => fun e_ => (((HO389.out).1 k_ e_.symm).2) hs_) (fun hn_ => (Kd.fresh' (Kd.R_lt (kR HO389)) k_ hn_)), Or.elim hk_ (fun hs_ => fun e_ => (((HO399.out).1 k_ e_.symm).2) hs_) (fun hn_ => (Kd.fresh' (Kd.R_lt (kR HO399)) k_ hn_)), Or.elim hk_ (fun hs_ => fun e_ => (((HO405.out).1 k_ e_.symm).2) hs_) (fun hn_ => (Kd.fresh' (Kd.R_lt (kR HO405)) k_ hn_)), Or.elim hk_ (fun hs_ => fun e_ => (Kd.R_ne HO409.out BK376.out (by decide)) (by rw [← e_]; exact hs_)) (fun hn_ => (Kd.freshB (bk BK376) k_ hn_)), Or.elim hk_ (fun hs_ => fun e_ => (Kd.R_ne HO409.out BK377.out (by decide)) (by rw [← e_]; exact hs_)) (fun hn_ => (Kd.freshB (bk BK377) k_ hn_)), Or.elim hk_ (fun hs_ => fun e_ => (Kd.R_ne HO409.out BK395.out (by decide)) (by rw [← e_]; exact hs_)) (fun hn_ => (Kd.freshB (bk BK395) k_ hn_)), Or.elim hk_ (fun hs_ => fun e_ => (Kd.R_ne HO409.out BK401.out (by decide)) (by rw [← e_]; exact hs_)) (fun hn_ => (Kd.freshB (bk BK401) k_ hn_)), Or.elim hk_ (fun hs_ => fun e_ => (Kd.R_ne HO409.out BK415.out (by decide)) (by rw [← e_]; exact hs_)) (fun hn_ => (Kd.freshB (bk BK415) k_ hn_))⟩))
                    have n11_ := Aside0.mk (hb)
                    clear BK376 BK377 HO385 HO389 HO393 BK395 HO399 BK401 BK415 HO405 HB HO409
                    have BK376 := n0_
                    have BK377 := n1_
                    have HO385 := n2_
                    have HO389 := n3_
                    have HO393 := n4_
                    have BK395 := n5_
                    have HO399 := n6_
                    have BK401 := n7_
                    have BK415 := n8_
                    have HO405 := n9_
                    have HO413 := n10_
                    have HB := n11_
                    clear n0_ n1_ n2_ n3_ n4_ n5_ n6_ n7_ n8_ n9_ n10_ n11_
                    (try clear hb)
                    (try clear hkp)
                    (try clear ho0)
                    refine hK.out _ _ ⟨(blk_cell BK376.out 0).trans rfl, (blk_cell BK376.out 1).trans rfl, (blk_cell BK377.out 0).trans rfl, (blk_cell BK377.out 1).trans rfl⟩ (fun hHeld => ?_)
                    clear hK K
                    refine norm_ (a' := ?_) ?_ ?_
                    rotate_left
                    · show Act.put _ (some 45) _ = _
                      simp only [Act.put, List.setIfInBounds_toArray, List.set_cons_zero, List.set_cons_succ, i64_w, i32_w]
                      rfl
                    refine pure_ (i := 5) (N := some 40) (v := ?_) (a' := ?_) #[true, true, true, true, true, true, false, false, true, false, false] rfl rfl (any_of HT_.out (by kernel_rfl)) (fun _ _ _ h => h) (Or.inl ⟨by rfl, ?_⟩) ?_ ?_
                    rotate_left
                    · intro w'
                      go_simp
                      with_reducible rfl
                    rotate_left
                    · simp only [Act.put, List.setIfInBounds_toArray, List.set_cons_zero, List.set_cons_succ, i64_w, i32_w]
                      rfl
                    refine pure_ (i := 6) (N := some 46) (v := ?_) (a' := ?_) #[true, true, true, true, true, true, true, false, true, false, false] rfl rfl (any_of HT_.out (by kernel_rfl)) (fun _ _ _ h => h) (Or.inl ⟨by rfl, ?_⟩) ?_ ?_
                    rotate_left
                    · intro w'
                      go_simp
                      with_reducible rfl
                    rotate_left
                    · simp only [Act.put, List.setIfInBounds_toArray, List.set_cons_zero, List.set_cons_succ, i64_w, i32_w]
                      rfl
                    refine pure_ (i := 7) (N := some 47) (v := ?_) (a' := ?_) #[true, true, true, true, true, true, true, true, true, false, false] rfl rfl (any_of HT_.out (by kernel_rfl)) (fun _ _ _ h => h) (Or.inl ⟨by rfl, ?_⟩) ?_ ?_
                    rotate_left
                    · intro w'
                      go_simp
                      with_reducible rfl
                    rotate_left
                    · simp only [Act.put, List.setIfInBounds_toArray, List.set_cons_zero, List.set_cons_succ, i64_w, i32_w]
                      rfl
                    exact norm_ (by simp only [putAll, Act.put, List.setIfInBounds_toArray, List.set_cons_zero, List.set_cons_succ]) (hCont (.slice Ao71 t403.length co71, .slice Ao72 t407.length co72, v412, gb415) _ ⟨hHeld, (kR HO385), (kR HO389), (kV HO393), (kR HO399), (kR HO405), (kV HO413), (bk BK376), (bk BK377), (bk BK395), (bk BK401), (bk BK415), GW415.out, GE415.out, NB376_415.out, NB415_376.out, NB377_415.out, NB415_377.out, NB395_415.out, NB415_395.out, NB401_415.out, NB415_401.out, bw⟩)
                rintro ⟨v404, v408, v412, gb415⟩ w74 ⟨hS_, h0_, h1_, h2_, h3_, h4_, h5_, h6_, h7_, h8_, h9_, h10_, h11_, h12_, h13_, h14_, h15_, h16_, h17_, h18_, h19_, h20_, h21_⟩
                have n0_ : Aside0 (Kd.R (Kd.int .u32) 48 w74 w.heap.size (fun k_ => some k_ ≠ (v388 : Value).ownBlock ∧ some k_ ≠ (.slice Ao65 t397.length co65 : Value).ownBlock ∧ some k_ ≠ (v404 : Value).ownBlock) v384 t383) := ⟨h0_⟩
                have n1_ : Aside0 (Kd.R (Kd.int .u32) 48 w74 w.heap.size (fun k_ => some k_ ≠ (v384 : Value).ownBlock ∧ some k_ ≠ (.slice Ao65 t397.length co65 : Value).ownBlock ∧ some k_ ≠ (v404 : Value).ownBlock) v388 t387) := ⟨h1_⟩
                have n2_ : Aside0 (Kd.V (Kd.int .u32) 48 w74 w.heap.size (fun k_ => some k_ ≠ (v384 : Value).ownBlock ∧ some k_ ≠ (v388 : Value).ownBlock ∧ some k_ ≠ (.slice Ao65 t397.length co65 : Value).ownBlock ∧ some k_ ≠ (v404 : Value).ownBlock ∧ k_ ≠ gb376 ∧ k_ ≠ gb377 ∧ k_ ≠ gb395 ∧ k_ ≠ gb401 ∧ k_ ≠ gb415) (.slice Ao52 t391.length co52) t391) := ⟨h2_⟩
                have n3_ : Aside0 (Kd.R (Kd.int .u32) 48 w74 w.heap.size (fun k_ => some k_ ≠ (v384 : Value).ownBlock ∧ some k_ ≠ (v388 : Value).ownBlock ∧ some k_ ≠ (v404 : Value).ownBlock) (.slice Ao65 t397.length co65) t397) := ⟨h3_⟩
                have n4_ : Aside0 (Kd.R (Kd.int .u32) 48 w74 w.heap.size (fun k_ => some k_ ≠ (v384 : Value).ownBlock ∧ some k_ ≠ (v388 : Value).ownBlock ∧ some k_ ≠ (.slice Ao65 t397.length co65 : Value).ownBlock) v404 t403) := ⟨h4_⟩
                have n5_ : Aside0 (Kd.V (Kd.int .u32) 48 w74 w.heap.size (fun k_ => some k_ ≠ (v384 : Value).ownBlock ∧ some k_ ≠ (v388 : Value).ownBlock ∧ some k_ ≠ (.slice Ao65 t397.length co65 : Value).ownBlock ∧ some k_ ≠ (v404 : Value).ownBlock ∧ k_ ≠ gb376 ∧ k_ ≠ gb377 ∧ k_ ≠ gb395 ∧ k_ ≠ gb401 ∧ k_ ≠ gb415) v412 t411) := ⟨h5_⟩
                have n6_ : Aside0 (w74.heap[gb376]? = some (.cells #[.bool a0_0, .slice A0_1 l0_1.length c0_1] 24 (0, 0))) := ⟨h6_⟩
                have n7_ : Aside0 (w74.heap[gb377]? = some (.cells #[.bool a1_0, .slice A1_1 l1_1.length c1_1] 24 (0, 0))) := ⟨h7_⟩
                have n8_ : Aside0 (w74.heap[gb395]? = some (.cells #[.bool t390, .slice Ao52 t391.length co52] 24 (0, 0))) := ⟨h8_⟩
                have n9_ : Aside0 (w74.heap[gb401]? = some (.cells #[.bool t396, .slice Ao65 t397.length co65] 24 (0, 0))) := ⟨h9_⟩
                have n10_ : Aside0 (w74.heap[gb415]? = some (.cells #[.bool false, .slice none 0 0] 24 (0, 0))) := ⟨h10_⟩
                have n11_ : Aside0 (w.heap.size ≤ gb415) := ⟨h11_⟩
                have n12_ : Aside0 (w.heap.size ≤ gb415) := ⟨h12_⟩
                have n13_ : Aside0 (gb376 ≠ gb415) := ⟨h13_⟩
                have n14_ : Aside0 (gb415 ≠ gb376) := ⟨h14_⟩
                have n15_ : Aside0 (gb377 ≠ gb415) := ⟨h15_⟩
                have n16_ : Aside0 (gb415 ≠ gb377) := ⟨h16_⟩
                have n17_ : Aside0 (gb395 ≠ gb415) := ⟨h17_⟩
                have n18_ : Aside0 (gb415 ≠ gb395) := ⟨h18_⟩
                have n19_ : Aside0 (gb401 ≠ gb415) := ⟨h19_⟩
                have n20_ : Aside0 (gb415 ≠ gb401) := ⟨h20_⟩
                have n21_ : Aside0 (Below w.heap.size w w74) := ⟨h21_⟩
                clear HO385 HO389 HO393 HO399 BK376 BK377 BK395 BK401 HB
                clear h0_ h1_ h2_ h3_ h4_ h5_ h6_ h7_ h8_ h9_ h10_ h11_ h12_ h13_ h14_ h15_ h16_ h17_ h18_ h19_ h20_ h21_
                have HO385 := n0_
                have HO389 := n1_
                have HO393 := n2_
                have HO399 := n3_
                have HO405 := n4_
                have HO413 := n5_
                have BK376 := n6_
                have BK377 := n7_
                have BK395 := n8_
                have BK401 := n9_
                have BK415 := n10_
                have GW415 := n11_
                have GE415 := n12_
                have NB376_415 := n13_
                have NB415_376 := n14_
                have NB377_415 := n15_
                have NB415_377 := n16_
                have NB395_415 := n17_
                have NB415_395 := n18_
                have NB401_415 := n19_
                have NB415_401 := n20_
                have HB := n21_
                clear n0_ n1_ n2_ n3_ n4_ n5_ n6_ n7_ n8_ n9_ n10_ n11_ n12_ n13_ n14_ n15_ n16_ n17_ n18_ n19_ n20_ n21_
                have hHeld : w74.cell? ⟨gb376, 0, none⟩ = some (.bool a0_0) ∧ w74.cell? ⟨gb376, 1, none⟩ = some (.slice A0_1 l0_1.length c0_1) ∧ w74.cell? ⟨gb377, 0, none⟩ = some (.bool a1_0) ∧ w74.cell? ⟨gb377, 1, none⟩ = some (.slice A1_1 l1_1.length c1_1) := hS_
                obtain ⟨Ao76, co76, eo76⟩ := Kd.V_slice HO413.out
                (first | subst eo76 | (injection eo76 with f1_ f2_ f3_; have f4_ := f1_.symm; have f5_ := f3_.symm; clear f1_ f2_ f3_; subst f4_; subst f5_))
                refine norm_ (a' := ?_) ?_ ?_
                rotate_left
                · simp only [putAll, Act.put, List.setIfInBounds_toArray, List.set_cons_zero, List.set_cons_succ]
                  rfl
                refine one_ (i := 9) (N := none) #[true, true, true, true, true, true, true, true, true, true, false] rfl rfl (one_of HT_.out (by kernel_rfl)) (by decide) (fun K hK => ?_)
                have hs75 : w74.cell? ⟨gb415, 0, none⟩ = some (.bool false) := (blk_cell BK415.out 0).trans rfl
                have hfs75 := blk_frozen BK415.out 0
                have hns75_0 := NB376_415.out
                have hns75_1 := NB377_415.out
                have hns75_2 := NB395_415.out
                have hns75_3 := NB401_415.out
                have hms75_0 := NB415_376.out
                have hms75_1 := NB415_377.out
                have hms75_2 := NB415_395.out
                have hms75_3 := NB415_401.out
                have hs77 : w74.cell? ⟨gb415, 1, none⟩ = some (.slice none 0 0) := (blk_cell BK415.out 1).trans rfl
                have hfs77 := blk_frozen BK415.out 1
                have hns77_0 := NB376_415.out
                have hns77_1 := NB377_415.out
                have hns77_2 := NB395_415.out
                have hns77_3 := NB401_415.out
                have hms77_0 := NB415_376.out
                have hms77_1 := NB415_377.out
                have hms77_2 := NB415_395.out
                have hms77_3 := NB415_401.out
                refine skip_ (w1 := ?_) (by rfl) rfl ?_ ?_
                rotate_left
                · go_simp
                  rfl
                refine hK.out _ _ ⟨((cell_far (p := ⟨gb415, _, none⟩) NB376_415.out _).trans (((cell_far (p := ⟨gb415, _, none⟩) NB376_415.out _).trans (hHeld.1)))), ((cell_far (p := ⟨gb415, _, none⟩) NB376_415.out _).trans (((cell_far (p := ⟨gb415, _, none⟩) NB376_415.out _).trans (hHeld.2.1)))), ((cell_far (p := ⟨gb415, _, none⟩) NB377_415.out _).trans (((cell_far (p := ⟨gb415, _, none⟩) NB377_415.out _).trans (hHeld.2.2.1)))), ((cell_far (p := ⟨gb415, _, none⟩) NB377_415.out _).trans (((cell_far (p := ⟨gb415, _, none⟩) NB377_415.out _).trans (hHeld.2.2.2))))⟩ (fun hHeld => ?_)
                clear hK K
                refine pure_ (i := 10) (N := some 10) (v := ?_) (a' := ?_) #[true, true, true, true, true, true, true, true, true, true, true] rfl rfl (any_of HT_.out (by kernel_rfl)) (fun _ _ _ h => h) (Or.inl ⟨by rfl, ?_⟩) ?_ ?_
                rotate_left
                · intro w'
                  go_simp
                  with_reducible rfl
                rotate_left
                · simp only [Act.put, List.setIfInBounds_toArray, List.set_cons_zero, List.set_cons_succ, i64_w, i32_w]
                  rfl
                refine done_ (done_of HT_.out (by kernel_rfl)) ?_
                have hnb78 := NB376_415.out
                have hnc78 := NB415_376.out
                have hcz79_0 : w74.cell? ⟨gb376, 0, none⟩ = some (.bool a0_0) := (blk_cell BK376.out 0).trans rfl
                have hcz79_1 : w74.cell? ⟨gb376, 1, none⟩ = some (.slice A0_1 l0_1.length c0_1) := (blk_cell BK376.out 1).trans rfl
                have hfz79_0 := blk_frozen BK376.out 0
                have hfz79_1 := blk_frozen BK376.out 1
                have hnb80 := NB377_415.out
                have hnc80 := NB415_377.out
                have hcz81_0 : w74.cell? ⟨gb377, 0, none⟩ = some (.bool a1_0) := (blk_cell BK377.out 0).trans rfl
                have hcz81_1 : w74.cell? ⟨gb377, 1, none⟩ = some (.slice A1_1 l1_1.length c1_1) := (blk_cell BK377.out 1).trans rfl
                have hfz81_0 := blk_frozen BK377.out 0
                have hfz81_1 := blk_frozen BK377.out 1
                try go_wp2_with (first | ((with_reducible refine gate_callee (f := 21) rfl ?_); refine goesL_ (some 51) rfl rfl Tryd.func21 (by kernel_rfl) rfl #[.agg #[.bool a0_0, .slice A0_1 l0_1.length c0_1], .agg #[.bool a1_0, .slice A1_1 l1_1.length c1_1]] rfl (by (try simp only [List.map_toArray, List.map_cons, List.map_nil]); first | done | rfl | (simp only [List.length_drop, List.length_take]; rfl)) ?_; (with_reducible refine (marginaliaref01_Sub.calls kj2 a0_0 _ _ l0_1 a1_0 _ _ l1_1 t416 t417 t420 _ ?side1 ?side2 ?side3 ?side4 A32.out).mono ?_); (case side1 => exact Kd.C_below HR0_1.out bw); (case side2 => exact HC0_1.out); (case side3 => exact Kd.C_below HR1_1.out bw); (case side4 => exact HC1_1.out); rintro e w82 ⟨v418, rfl, ho0, hb⟩; refine ⟨_, rfl, ?_⟩; have n0_ := Aside0.mk (Kd.R_elder' (by (with_reducible repeat (first | apply Kd.R_alloc | apply Kd.R_drewN | apply Kd.R_drew)); exact (Kd.R_mono (Kd.R_far (p := ⟨gb415, 1, none⟩) (Kd.R_far (p := ⟨gb415, 0, none⟩) (Kd.R_types HO385.out BK415.out (by decide)) (fun _ hk => hk.2) (.bool t410)) (fun _ hk => hk.2) (.slice Ao76 t411.length co76)) (fun _ h_ => h_.1))) (Kd.R_base ho0) hb); have n1_ := Aside0.mk (Kd.R_elder' (by (with_reducible repeat (first | apply Kd.R_alloc | apply Kd.R_drewN | apply Kd.R_drew)); exact (Kd.R_mono (Kd.R_far (p := ⟨gb415, 1, none⟩) (Kd.R_far (p := ⟨gb415, 0, none⟩) (Kd.R_types HO389.out BK415.out (by decide)) (fun _ hk => hk.2) (.bool t410)) (fun _ hk => hk.2) (.slice Ao76 t411.length co76)) (fun _ h_ => h_.1))) (Kd.R_base ho0) hb); have n2_ := Aside0.mk (Kd.V_elder' (by (with_reducible repeat (first | apply Kd.V_alloc | apply Kd.V_drewN | apply Kd.V_drew)); exact (Kd.V_mono (Kd.V_far (p := ⟨gb415, 1, none⟩) (Kd.V_far (p := ⟨gb415, 0, none⟩) (Kd.V_mono HO393.out (fun k_ hk => (⟨hk, hk.2.2.2.2.2.2.2.2⟩ : _ ∧ k_ ≠ gb415))) (fun _ hk => hk.2) (.bool t410)) (fun _ hk => hk.2) (.slice Ao76 t411.length co76)) (fun _ h_ => h_.1))) (Kd.R_base ho0) hb); have n3_ := Aside0.mk (Kd.R_elder' (by (with_reducible repeat (first | apply Kd.R_alloc | apply Kd.R_drewN | apply Kd.R_drew)); exact (Kd.R_mono (Kd.R_far (p := ⟨gb415, 1, none⟩) (Kd.R_far (p := ⟨gb415, 0, none⟩) (Kd.R_types HO399.out BK415.out (by decide)) (fun _ hk => hk.2) (.bool t410)) (fun _ hk => hk.2) (.slice Ao76 t411.length co76)) (fun _ h_ => h_.1))) (Kd.R_base ho0) hb); have n4_ := Aside0.mk (Kd.R_elder' (by (with_reducible repeat (first | apply Kd.R_alloc | apply Kd.R_drewN | apply Kd.R_drew)); exact (Kd.R_mono (Kd.R_far (p := ⟨gb415, 1, none⟩) (Kd.R_far (p := ⟨gb415, 0, none⟩) (Kd.R_types HO405.out BK415.out (by decide)) (fun _ hk => hk.2) (.bool t410)) (fun _ hk => hk.2) (.slice Ao76 t411.length co76)) (fun _ h_ => h_.1))) (Kd.R_base ho0) hb); have n5_ := Aside0.mk (Kd.V_elder' (by (with_reducible repeat (first | apply Kd.V_alloc | apply Kd.V_drewN | apply Kd.V_drew)); exact (Kd.V_mono (Kd.V_far (p := ⟨gb415, 1, none⟩) (Kd.V_far (p := ⟨gb415, 0, none⟩) (Kd.V_mono HO413.out (fun k_ hk => (⟨hk, hk.2.2.2.2.2.2.2.2⟩ : _ ∧ k_ ≠ gb415))) (fun _ hk => hk.2) (.bool t410)) (fun _ hk => hk.2) (.slice Ao76 t411.length co76)) (fun _ h_ => h_.1))) (Kd.R_base ho0) hb); have n6_ := Aside0.mk (Kd.R_lower (Kd.R_new' (Kd.R_new' (Kd.R_new' (Kd.R_new' ho0 (Kd.R_lt (by (with_reducible repeat (first | apply Kd.R_alloc | apply Kd.R_drewN | apply Kd.R_drew)); exact (Kd.R_mono (Kd.R_far (p := ⟨gb415, 1, none⟩) (Kd.R_far (p := ⟨gb415, 0, none⟩) (Kd.R_types HO385.out BK415.out (by decide)) (fun _ hk => hk.2) (.bool t410)) (fun _ hk => hk.2) (.slice Ao76 t411.length co76)) (fun _ h_ => h_.1))))) (Kd.R_lt (by (with_reducible repeat (first | apply Kd.R_alloc | apply Kd.R_drewN | apply Kd.R_drew)); exact (Kd.R_mono (Kd.R_far (p := ⟨gb415, 1, none⟩) (Kd.R_far (p := ⟨gb415, 0, none⟩) (Kd.R_types HO389.out BK415.out (by decide)) (fun _ hk => hk.2) (.bool t410)) (fun _ hk => hk.2) (.slice Ao76 t411.length co76)) (fun _ h_ => h_.1))))) (Kd.R_lt (by (with_reducible repeat (first | apply Kd.R_alloc | apply Kd.R_drewN | apply Kd.R_drew)); exact (Kd.R_mono (Kd.R_far (p := ⟨gb415, 1, none⟩) (Kd.R_far (p := ⟨gb415, 0, none⟩) (Kd.R_types HO399.out BK415.out (by decide)) (fun _ hk => hk.2) (.bool t410)) (fun _ hk => hk.2) (.slice Ao76 t411.length co76)) (fun _ h_ => h_.1))))) (Kd.R_lt (by (with_reducible repeat (first | apply Kd.R_alloc | apply Kd.R_drewN | apply Kd.R_drew)); exact (Kd.R_mono (Kd.R_far (p := ⟨gb415, 1, none⟩) (Kd.R_far (p := ⟨gb415, 0, none⟩) (Kd.R_types HO405.out BK415.out (by decide)) (fun _ hk => hk.2) (.bool t410)) (fun _ hk => hk.2) (.slice Ao76 t411.length co76)) (fun _ h_ => h_.1))))) (below_size bw)); have n7_ := Aside0.mk (blk_below (g := gb376) (o := .cells #[.bool a0_0, .slice A0_1 l0_1.length c0_1] 24 (0, 0)) (by (with_reducible repeat (first | refine blk_drewN ?_ _ | refine blk_drew ?_ | refine blk_alloc ?_ _)); refine blk_far ?_ NB376_415.out _; (with_reducible repeat (first | refine blk_drewN ?_ _ | refine blk_drew ?_ | refine blk_alloc ?_ _)); refine blk_far ?_ NB376_415.out _; (with_reducible repeat (first | refine blk_drewN ?_ _ | refine blk_drew ?_ | refine blk_alloc ?_ _)); exact BK376.out) hb); have n8_ := Aside0.mk (blk_below (g := gb377) (o := .cells #[.bool a1_0, .slice A1_1 l1_1.length c1_1] 24 (0, 0)) (by (with_reducible repeat (first | refine blk_drewN ?_ _ | refine blk_drew ?_ | refine blk_alloc ?_ _)); refine blk_far ?_ NB377_415.out _; (with_reducible repeat (first | refine blk_drewN ?_ _ | refine blk_drew ?_ | refine blk_alloc ?_ _)); refine blk_far ?_ NB377_415.out _; (with_reducible repeat (first | refine blk_drewN ?_ _ | refine blk_drew ?_ | refine blk_alloc ?_ _)); exact BK377.out) hb); have n9_ := Aside0.mk (blk_below (g := gb395) (o := .cells #[.bool t390, .slice Ao52 t391.length co52] 24 (0, 0)) (by (with_reducible repeat (first | refine blk_drewN ?_ _ | refine blk_drew ?_ | refine blk_alloc ?_ _)); refine blk_far ?_ NB395_415.out _; (with_reducible repeat (first | refine blk_drewN ?_ _ | refine blk_drew ?_ | refine blk_alloc ?_ _)); refine blk_far ?_ NB395_415.out _; (with_reducible repeat (first | refine blk_drewN ?_ _ | refine blk_drew ?_ | refine blk_alloc ?_ _)); exact BK395.out) hb); have n10_ := Aside0.mk (blk_below (g := gb401) (o := .cells #[.bool t396, .slice Ao65 t397.length co65] 24 (0, 0)) (by (with_reducible repeat (first | refine blk_drewN ?_ _ | refine blk_drew ?_ | refine blk_alloc ?_ _)); refine blk_far ?_ NB401_415.out _; (with_reducible repeat (first | refine blk_drewN ?_ _ | refine blk_drew ?_ | refine blk_alloc ?_ _)); refine blk_far ?_ NB401_415.out _; (with_reducible repeat (first | refine blk_drewN ?_ _ | refine blk_drew ?_ | refine blk_alloc ?_ _)); exact BK401.out) hb); have n11_ := Aside0.mk (blk_below (g := gb415) (o := .cells #[.bool t410, .slice Ao76 t411.length co76] 24 (0, 0)) (by (with_reducible repeat (first | refine blk_drewN ?_ _ | refine blk_drew ?_ | refine blk_alloc ?_ _)); refine blk_put (cs := #[.bool t410, .slice none 0 0]) ?_ 1 _ rfl; (with_reducible repeat (first | refine blk_drewN ?_ _ | refine blk_drew ?_ | refine blk_alloc ?_ _)); refine blk_put (cs := #[.bool false, .slice none 0 0]) ?_ 0 _ rfl; (with_reducible repeat (first | refine blk_drewN ?_ _ | refine blk_drew ?_ | refine blk_alloc ?_ _)); exact BK415.out) hb); have n12_ := Aside0.mk (below_step bw hb); clear HO385 HO389 HO393 HO399 HO405 HO413 BK376 BK377 BK395 BK401 BK415 HB; have HO385 := n0_; have HO389 := n1_; have HO393 := n2_; have HO399 := n3_; have HO405 := n4_; have HO413 := n5_; have HO419 := n6_; have BK376 := n7_; have BK377 := n8_; have BK395 := n9_; have BK401 := n10_; have BK415 := n11_; have HB := n12_; clear n0_ n1_ n2_ n3_ n4_ n5_ n6_ n7_ n8_ n9_ n10_ n11_ n12_; (try clear hb); (try clear hb2); (try clear hk); (try clear hi); (try clear ho0)) | ((with_reducible refine gate_dst (N := 11) rfl ?_); refine box_event ?hg (N := 11) ?hd (cs := #[.bool false, .slice none 0 0]) (t := 24) ?hr ?_; (case hd => rfl); (case hg => rfl); (case hr => first | (go_simp; done) | (go_simp; rfl)); intro gb421 hg w83 hbox hb; have n0_ := Aside0.mk (Kd.R_below (kR HO385) hb); have n1_ := Aside0.mk (Kd.R_below (kR HO389) hb); have n2_ := Aside0.mk (Kd.V_below (Kd.V_elderB (kV HO393) gb421 (Nat.le_of_eq hg.symm)) hb); have n3_ := Aside0.mk (Kd.R_below (kR HO399) hb); have n4_ := Aside0.mk (Kd.R_below (kR HO405) hb); have n5_ := Aside0.mk (Kd.V_below (Kd.V_elderB (kV HO413) gb421 (Nat.le_of_eq hg.symm)) hb); have n6_ := Aside0.mk (Kd.R_below (kR HO419) hb); have n7_ := Aside0.mk (blk_below (bk BK376) hb); have n8_ := Aside0.mk (blk_below (bk BK377) hb); have n9_ := Aside0.mk (blk_below (bk BK395) hb); have n10_ := Aside0.mk (blk_below (bk BK401) hb); have n11_ := Aside0.mk (blk_below (bk BK415) hb); have n12_ := Aside0.mk (below_step bw hb); have n13_ := Aside0.mk (hbox); have n14_ := Aside0.mk ((szL hg)); have n15_ := Aside0.mk ((szL hg)); have n16_ := Aside0.mk ((neL hg BK376)); have n17_ := Aside0.mk ((neG hg BK376)); have n18_ := Aside0.mk ((neL hg BK377)); have n19_ := Aside0.mk ((neG hg BK377)); have n20_ := Aside0.mk ((neL hg BK395)); have n21_ := Aside0.mk ((neG hg BK395)); have n22_ := Aside0.mk ((neL hg BK401)); have n23_ := Aside0.mk ((neG hg BK401)); have n24_ := Aside0.mk ((neL hg BK415)); have n25_ := Aside0.mk ((neG hg BK415)); clear HO385 HO389 HO393 HO399 HO405 HO413 HO419 BK376 BK377 BK395 BK401 BK415 HB; have HO385 := n0_; have HO389 := n1_; have HO393 := n2_; have HO399 := n3_; have HO405 := n4_; have HO413 := n5_; have HO419 := n6_; have BK376 := n7_; have BK377 := n8_; have BK395 := n9_; have BK401 := n10_; have BK415 := n11_; have HB := n12_; have BK421 := n13_; have GW421 := n14_; have GE421 := n15_; have NB376_421 := n16_; have NB421_376 := n17_; have NB377_421 := n18_; have NB421_377 := n19_; have NB395_421 := n20_; have NB421_395 := n21_; have NB401_421 := n22_; have NB421_401 := n23_; have NB415_421 := n24_; have NB421_415 := n25_; clear n0_ n1_ n2_ n3_ n4_ n5_ n6_ n7_ n8_ n9_ n10_ n11_ n12_ n13_ n14_ n15_ n16_ n17_ n18_ n19_ n20_ n21_ n22_ n23_ n24_ n25_; clear hb hbox hg; have hnb84 := NB421_376.out; have hnc84 := NB376_421.out; have hnb85 := NB421_377.out; have hnc85 := NB377_421.out; have hnb86 := NB421_395.out; have hnc86 := NB395_421.out; have hnb87 := NB421_401.out; have hnc87 := NB401_421.out; have hnb88 := NB421_415.out; have hnc88 := NB415_421.out; have hcz89_0 : w83.cell? ⟨gb421, 0, none⟩ = some (.bool false) := (blk_cell BK421.out 0).trans rfl; have hcz89_1 : w83.cell? ⟨gb421, 1, none⟩ = some (.slice none 0 0) := (blk_cell BK421.out 1).trans rfl; have hfz89_0 := blk_frozen BK421.out 0; have hfz89_1 := blk_frozen BK421.out 1; obtain ⟨Ao90, co90, eo90⟩ := Kd.R_slice HO419.out; subst eo90))
                have n0_ : Aside0 (Kd.R (Kd.int .u32) 48 ((w83.setCell ⟨gb421, 0, none⟩ (.bool t416)).setCell ⟨gb421, 1, none⟩ (.slice Ao90 t417.length co90)) w.heap.size (fun k_ => some k_ ≠ (v388 : Value).ownBlock ∧ some k_ ≠ (.slice Ao65 t397.length co65 : Value).ownBlock ∧ some k_ ≠ (v404 : Value).ownBlock ∧ some k_ ≠ (.slice Ao90 t417.length co90 : Value).ownBlock) v384 t383) := ⟨by (with_reducible repeat (first | apply Kd.R_alloc | apply Kd.R_drewN | apply Kd.R_drew)); exact Kd.R_mono (Kd.R_far (p := ⟨gb421, 1, none⟩) (Kd.R_far (p := ⟨gb421, 0, none⟩) (Kd.R_types HO385.out BK421.out (by decide)) (fun _ hk => hk.2) (.bool t416)) (fun _ hk => hk.2) (.slice Ao90 t417.length co90)) (fun _ hk => ⟨hk.1.1.1, ⟨hk.1.1.2.1, ⟨hk.1.1.2.2, hk.1.2⟩⟩⟩)⟩
                have n1_ : Aside0 (Kd.R (Kd.int .u32) 48 ((w83.setCell ⟨gb421, 0, none⟩ (.bool t416)).setCell ⟨gb421, 1, none⟩ (.slice Ao90 t417.length co90)) w.heap.size (fun k_ => some k_ ≠ (v384 : Value).ownBlock ∧ some k_ ≠ (.slice Ao65 t397.length co65 : Value).ownBlock ∧ some k_ ≠ (v404 : Value).ownBlock ∧ some k_ ≠ (.slice Ao90 t417.length co90 : Value).ownBlock) v388 t387) := ⟨by (with_reducible repeat (first | apply Kd.R_alloc | apply Kd.R_drewN | apply Kd.R_drew)); exact Kd.R_mono (Kd.R_far (p := ⟨gb421, 1, none⟩) (Kd.R_far (p := ⟨gb421, 0, none⟩) (Kd.R_types HO389.out BK421.out (by decide)) (fun _ hk => hk.2) (.bool t416)) (fun _ hk => hk.2) (.slice Ao90 t417.length co90)) (fun _ hk => ⟨hk.1.1.1, ⟨hk.1.1.2.1, ⟨hk.1.1.2.2, hk.1.2⟩⟩⟩)⟩
                have n2_ : Aside0 (Kd.V (Kd.int .u32) 48 ((w83.setCell ⟨gb421, 0, none⟩ (.bool t416)).setCell ⟨gb421, 1, none⟩ (.slice Ao90 t417.length co90)) w.heap.size (fun k_ => some k_ ≠ (v384 : Value).ownBlock ∧ some k_ ≠ (v388 : Value).ownBlock ∧ some k_ ≠ (.slice Ao65 t397.length co65 : Value).ownBlock ∧ some k_ ≠ (v404 : Value).ownBlock ∧ some k_ ≠ (.slice Ao90 t417.length co90 : Value).ownBlock ∧ k_ ≠ gb376 ∧ k_ ≠ gb377 ∧ k_ ≠ gb395 ∧ k_ ≠ gb401 ∧ k_ ≠ gb415 ∧ k_ ≠ gb421) (.slice Ao52 t391.length co52) t391) := ⟨by (with_reducible repeat (first | apply Kd.V_alloc | apply Kd.V_drewN | apply Kd.V_drew)); exact Kd.V_mono (Kd.V_far (p := ⟨gb421, 1, none⟩) (Kd.V_far (p := ⟨gb421, 0, none⟩) (Kd.V_mono HO393.out (fun k_ hk => (⟨hk, hk.2⟩ : _ ∧ k_ ≠ gb421))) (fun _ hk => hk.2) (.bool t416)) (fun _ hk => hk.2) (.slice Ao90 t417.length co90)) (fun _ hk => ⟨hk.1.1.1.1, ⟨hk.1.1.1.2.1, ⟨hk.1.1.1.2.2.1, ⟨hk.1.1.1.2.2.2.1, ⟨hk.1.1.2, ⟨hk.1.1.1.2.2.2.2.1, ⟨hk.1.1.1.2.2.2.2.2.1, ⟨hk.1.1.1.2.2.2.2.2.2.1, ⟨hk.1.1.1.2.2.2.2.2.2.2.1, ⟨hk.1.1.1.2.2.2.2.2.2.2.2, hk.1.2⟩⟩⟩⟩⟩⟩⟩⟩⟩⟩)⟩
                have n3_ : Aside0 (Kd.R (Kd.int .u32) 48 ((w83.setCell ⟨gb421, 0, none⟩ (.bool t416)).setCell ⟨gb421, 1, none⟩ (.slice Ao90 t417.length co90)) w.heap.size (fun k_ => some k_ ≠ (v384 : Value).ownBlock ∧ some k_ ≠ (v388 : Value).ownBlock ∧ some k_ ≠ (v404 : Value).ownBlock ∧ some k_ ≠ (.slice Ao90 t417.length co90 : Value).ownBlock) (.slice Ao65 t397.length co65) t397) := ⟨by (with_reducible repeat (first | apply Kd.R_alloc | apply Kd.R_drewN | apply Kd.R_drew)); exact Kd.R_mono (Kd.R_far (p := ⟨gb421, 1, none⟩) (Kd.R_far (p := ⟨gb421, 0, none⟩) (Kd.R_types HO399.out BK421.out (by decide)) (fun _ hk => hk.2) (.bool t416)) (fun _ hk => hk.2) (.slice Ao90 t417.length co90)) (fun _ hk => ⟨hk.1.1.1, ⟨hk.1.1.2.1, ⟨hk.1.1.2.2, hk.1.2⟩⟩⟩)⟩
                have n4_ : Aside0 (Kd.R (Kd.int .u32) 48 ((w83.setCell ⟨gb421, 0, none⟩ (.bool t416)).setCell ⟨gb421, 1, none⟩ (.slice Ao90 t417.length co90)) w.heap.size (fun k_ => some k_ ≠ (v384 : Value).ownBlock ∧ some k_ ≠ (v388 : Value).ownBlock ∧ some k_ ≠ (.slice Ao65 t397.length co65 : Value).ownBlock ∧ some k_ ≠ (.slice Ao90 t417.length co90 : Value).ownBlock) v404 t403) := ⟨by (with_reducible repeat (first | apply Kd.R_alloc | apply Kd.R_drewN | apply Kd.R_drew)); exact Kd.R_mono (Kd.R_far (p := ⟨gb421, 1, none⟩) (Kd.R_far (p := ⟨gb421, 0, none⟩) (Kd.R_types HO405.out BK421.out (by decide)) (fun _ hk => hk.2) (.bool t416)) (fun _ hk => hk.2) (.slice Ao90 t417.length co90)) (fun _ hk => ⟨hk.1.1.1, ⟨hk.1.1.2.1, ⟨hk.1.1.2.2, hk.1.2⟩⟩⟩)⟩
                have n5_ : Aside0 (Kd.V (Kd.int .u32) 48 ((w83.setCell ⟨gb421, 0, none⟩ (.bool t416)).setCell ⟨gb421, 1, none⟩ (.slice Ao90 t417.length co90)) w.heap.size (fun k_ => some k_ ≠ (v384 : Value).ownBlock ∧ some k_ ≠ (v388 : Value).ownBlock ∧ some k_ ≠ (.slice Ao65 t397.length co65 : Value).ownBlock ∧ some k_ ≠ (v404 : Value).ownBlock ∧ some k_ ≠ (.slice Ao90 t417.length co90 : Value).ownBlock ∧ k_ ≠ gb376 ∧ k_ ≠ gb377 ∧ k_ ≠ gb395 ∧ k_ ≠ gb401 ∧ k_ ≠ gb415 ∧ k_ ≠ gb421) (.slice Ao76 t411.length co76) t411) := ⟨by (with_reducible repeat (first | apply Kd.V_alloc | apply Kd.V_drewN | apply Kd.V_drew)); exact Kd.V_mono (Kd.V_far (p := ⟨gb421, 1, none⟩) (Kd.V_far (p := ⟨gb421, 0, none⟩) (Kd.V_mono HO413.out (fun k_ hk => (⟨hk, hk.2⟩ : _ ∧ k_ ≠ gb421))) (fun _ hk => hk.2) (.bool t416)) (fun _ hk => hk.2) (.slice Ao90 t417.length co90)) (fun _ hk => ⟨hk.1.1.1.1, ⟨hk.1.1.1.2.1, ⟨hk.1.1.1.2.2.1, ⟨hk.1.1.1.2.2.2.1, ⟨hk.1.1.2, ⟨hk.1.1.1.2.2.2.2.1, ⟨hk.1.1.1.2.2.2.2.2.1, ⟨hk.1.1.1.2.2.2.2.2.2.1, ⟨hk.1.1.1.2.2.2.2.2.2.2.1, ⟨hk.1.1.1.2.2.2.2.2.2.2.2, hk.1.2⟩⟩⟩⟩⟩⟩⟩⟩⟩⟩)⟩
                have n6_ : Aside0 (Kd.R (Kd.int .u32) 48 ((w83.setCell ⟨gb421, 0, none⟩ (.bool t416)).setCell ⟨gb421, 1, none⟩ (.slice Ao90 t417.length co90)) w.heap.size (fun k_ => some k_ ≠ (v384 : Value).ownBlock ∧ some k_ ≠ (v388 : Value).ownBlock ∧ some k_ ≠ (.slice Ao65 t397.length co65 : Value).ownBlock ∧ some k_ ≠ (v404 : Value).ownBlock) (.slice Ao90 t417.length co90) t417) := ⟨by (with_reducible repeat (first | apply Kd.R_alloc | apply Kd.R_drewN | apply Kd.R_drew)); exact Kd.R_mono (Kd.R_far (p := ⟨gb421, 1, none⟩) (Kd.R_far (p := ⟨gb421, 0, none⟩) (Kd.R_types HO419.out BK421.out (by decide)) (fun _ hk => hk.2) (.bool t416)) (fun _ hk => hk.2) (.slice Ao90 t417.length co90)) (fun _ hk => ⟨hk.1.1.1.1.2, ⟨hk.1.1.1.2, ⟨hk.1.1.2, hk.1.2⟩⟩⟩)⟩
                have n7_ : Aside0 (((w83.setCell ⟨gb421, 0, none⟩ (.bool t416)).setCell ⟨gb421, 1, none⟩ (.slice Ao90 t417.length co90)).heap[gb376]? = some (.cells #[.bool a0_0, .slice A0_1 l0_1.length c0_1] 24 (0, 0))) := ⟨by (with_reducible repeat (first | refine blk_drewN ?_ _ | refine blk_drew ?_ | refine blk_alloc ?_ _)); refine blk_far ?_ NB376_421.out _; (with_reducible repeat (first | refine blk_drewN ?_ _ | refine blk_drew ?_ | refine blk_alloc ?_ _)); refine blk_far ?_ NB376_421.out _; (with_reducible repeat (first | refine blk_drewN ?_ _ | refine blk_drew ?_ | refine blk_alloc ?_ _)); exact BK376.out⟩
                have n8_ : Aside0 (((w83.setCell ⟨gb421, 0, none⟩ (.bool t416)).setCell ⟨gb421, 1, none⟩ (.slice Ao90 t417.length co90)).heap[gb377]? = some (.cells #[.bool a1_0, .slice A1_1 l1_1.length c1_1] 24 (0, 0))) := ⟨by (with_reducible repeat (first | refine blk_drewN ?_ _ | refine blk_drew ?_ | refine blk_alloc ?_ _)); refine blk_far ?_ NB377_421.out _; (with_reducible repeat (first | refine blk_drewN ?_ _ | refine blk_drew ?_ | refine blk_alloc ?_ _)); refine blk_far ?_ NB377_421.out _; (with_reducible repeat (first | refine blk_drewN ?_ _ | refine blk_drew ?_ | refine blk_alloc ?_ _)); exact BK377.out⟩
                have n9_ : Aside0 (((w83.setCell ⟨gb421, 0, none⟩ (.bool t416)).setCell ⟨gb421, 1, none⟩ (.slice Ao90 t417.length co90)).heap[gb395]? = some (.cells #[.bool t390, .slice Ao52 t391.length co52] 24 (0, 0))) := ⟨by (with_reducible repeat (first | refine blk_drewN ?_ _ | refine blk_drew ?_ | refine blk_alloc ?_ _)); refine blk_far ?_ NB395_421.out _; (with_reducible repeat (first | refine blk_drewN ?_ _ | refine blk_drew ?_ | refine blk_alloc ?_ _)); refine blk_far ?_ NB395_421.out _; (with_reducible repeat (first | refine blk_drewN ?_ _ | refine blk_drew ?_ | refine blk_alloc ?_ _)); exact BK395.out⟩
                have n10_ : Aside0 (((w83.setCell ⟨gb421, 0, none⟩ (.bool t416)).setCell ⟨gb421, 1, none⟩ (.slice Ao90 t417.length co90)).heap[gb401]? = some (.cells #[.bool t396, .slice Ao65 t397.length co65] 24 (0, 0))) := ⟨by (with_reducible repeat (first | refine blk_drewN ?_ _ | refine blk_drew ?_ | refine blk_alloc ?_ _)); refine blk_far ?_ NB401_421.out _; (with_reducible repeat (first | refine blk_drewN ?_ _ | refine blk_drew ?_ | refine blk_alloc ?_ _)); refine blk_far ?_ NB401_421.out _; (with_reducible repeat (first | refine blk_drewN ?_ _ | refine blk_drew ?_ | refine blk_alloc ?_ _)); exact BK401.out⟩
                have n11_ : Aside0 (((w83.setCell ⟨gb421, 0, none⟩ (.bool t416)).setCell ⟨gb421, 1, none⟩ (.slice Ao90 t417.length co90)).heap[gb415]? = some (.cells #[.bool t410, .slice Ao76 t411.length co76] 24 (0, 0))) := ⟨by (with_reducible repeat (first | refine blk_drewN ?_ _ | refine blk_drew ?_ | refine blk_alloc ?_ _)); refine blk_far ?_ NB415_421.out _; (with_reducible repeat (first | refine blk_drewN ?_ _ | refine blk_drew ?_ | refine blk_alloc ?_ _)); refine blk_far ?_ NB415_421.out _; (with_reducible repeat (first | refine blk_drewN ?_ _ | refine blk_drew ?_ | refine blk_alloc ?_ _)); exact BK415.out⟩
                have n12_ : Aside0 (((w83.setCell ⟨gb421, 0, none⟩ (.bool t416)).setCell ⟨gb421, 1, none⟩ (.slice Ao90 t417.length co90)).heap[gb421]? = some (.cells #[.bool t416, .slice Ao90 t417.length co90] 24 (0, 0))) := ⟨by (with_reducible repeat (first | refine blk_drewN ?_ _ | refine blk_drew ?_ | refine blk_alloc ?_ _)); refine blk_put (cs := #[.bool t416, .slice none 0 0]) ?_ 1 _ rfl; (with_reducible repeat (first | refine blk_drewN ?_ _ | refine blk_drew ?_ | refine blk_alloc ?_ _)); refine blk_put (cs := #[.bool false, .slice none 0 0]) ?_ 0 _ rfl; (with_reducible repeat (first | refine blk_drewN ?_ _ | refine blk_drew ?_ | refine blk_alloc ?_ _)); exact BK421.out⟩
                have n13_ : Aside0 (Below w.heap.size w ((w83.setCell ⟨gb421, 0, none⟩ (.bool t416)).setCell ⟨gb421, 1, none⟩ (.slice Ao90 t417.length co90))) := ⟨bw⟩
                (try clear HO385)
                (try clear HO389)
                (try clear HO393)
                (try clear HO399)
                (try clear HO405)
                (try clear HO413)
                (try clear HO419)
                (try clear BK376)
                (try clear BK377)
                (try clear BK395)
                (try clear BK401)
                (try clear BK415)
                (try clear BK421)
                (try clear HB)
                generalize ((w83.setCell ⟨gb421, 0, none⟩ (.bool t416)).setCell ⟨gb421, 1, none⟩ (.slice Ao90 t417.length co90)) = w91 at n0_ n1_ n2_ n3_ n4_ n5_ n6_ n7_ n8_ n9_ n10_ n11_ n12_ n13_ ⊢
                have HO385 := n0_
                have HO389 := n1_
                have HO393 := n2_
                have HO399 := n3_
                have HO405 := n4_
                have HO413 := n5_
                have HO419 := n6_
                have BK376 := n7_
                have BK377 := n8_
                have BK395 := n9_
                have BK401 := n10_
                have BK415 := n11_
                have BK421 := n12_
                have HB := n13_
                clear n0_ n1_ n2_ n3_ n4_ n5_ n6_ n7_ n8_ n9_ n10_ n11_ n12_ n13_
                have n0_ := Aside0.mk (Kd.R_drew HO385.out)
                have n1_ := Aside0.mk (Kd.R_drew HO389.out)
                have n2_ := Aside0.mk (Kd.V_drew HO393.out)
                have n3_ := Aside0.mk (Kd.R_drew HO399.out)
                have n4_ := Aside0.mk (Kd.R_drew HO405.out)
                have n5_ := Aside0.mk (Kd.V_drew HO413.out)
                have n6_ := Aside0.mk (Kd.R_drew HO419.out)
                have n7_ := Aside0.mk (blk_drew BK376.out)
                have n8_ := Aside0.mk (blk_drew BK377.out)
                have n9_ := Aside0.mk (blk_drew BK395.out)
                have n10_ := Aside0.mk (blk_drew BK401.out)
                have n11_ := Aside0.mk (blk_drew BK415.out)
                have n12_ := Aside0.mk (blk_drew BK421.out)
                have n13_ := Aside0.mk (below_drew1 HB.out)
                clear HO385 HO389 HO393 HO399 HO405 HO413 HO419 BK376 BK377 BK395 BK401 BK415 BK421 HB
                have HO385 := n0_
                have HO389 := n1_
                have HO393 := n2_
                have HO399 := n3_
                have HO405 := n4_
                have HO413 := n5_
                have HO419 := n6_
                have BK376 := n7_
                have BK377 := n8_
                have BK395 := n9_
                have BK401 := n10_
                have BK415 := n11_
                have BK421 := n12_
                have HB := n13_
                clear n0_ n1_ n2_ n3_ n4_ n5_ n6_ n7_ n8_ n9_ n10_ n11_ n12_ n13_
                refine start_ (n := 30) (S := fun w' => w'.cell? ⟨gb376, 0, none⟩ = some (.bool a0_0) ∧ w'.cell? ⟨gb376, 1, none⟩ = some (.slice A0_1 l0_1.length c0_1) ∧ w'.cell? ⟨gb377, 0, none⟩ = some (.bool a1_0) ∧ w'.cell? ⟨gb377, 1, none⟩ = some (.slice A1_1 l1_1.length c1_1) ∧ w'.cell? ⟨gb395, 0, none⟩ = some (.bool t390) ∧ w'.cell? ⟨gb395, 1, none⟩ = some (.slice Ao52 t391.length co52) ∧ w'.cell? ⟨gb401, 0, none⟩ = some (.bool t396) ∧ w'.cell? ⟨gb401, 1, none⟩ = some (.slice Ao65 t397.length co65) ∧ w'.cell? ⟨gb415, 0, none⟩ = some (.bool t410) ∧ w'.cell? ⟨gb415, 1, none⟩ = some (.slice Ao76 t411.length co76) ∧ w'.cell? ⟨gb421, 0, none⟩ = some (.bool t416) ∧ w'.cell? ⟨gb421, 1, none⟩ = some (.slice Ao90 t417.length co90)) (ds := []) #[false, false, false, false, false, false, false, false, false, false, false, false, false, false, false, false, false, false, false, false, false, false, false, false, false, false, false, false, false, false] (by kernel_rfl) rfl rfl ⟨(blk_cell BK376.out 0).trans rfl, (blk_cell BK376.out 1).trans rfl, (blk_cell BK377.out 0).trans rfl, (blk_cell BK377.out 1).trans rfl, (blk_cell BK395.out 0).trans rfl, (blk_cell BK395.out 1).trans rfl, (blk_cell BK401.out 0).trans rfl, (blk_cell BK401.out 1).trans rfl, (blk_cell BK415.out 0).trans rfl, (blk_cell BK415.out 1).trans rfl, (blk_cell BK421.out 0).trans rfl, (blk_cell BK421.out 1).trans rfl⟩ (fun hHeld => ?_); refine with_tabW marginalialaw01_NumSums.tab7 marginalialaw01_NumSums.bits7 (fun HT_ HW_ => ?_)
                generalize w91.drew = w92 at HO385 HO389 HO393 HO399 HO405 HO413 HO419 BK376 BK377 BK395 BK401 BK415 BK421 HB hHeld ⊢
                refine take_ (i := 0) (N := some 54) (v := ?_) (a' := ?_) #[true, false, false, false, false, false, false, false, false, false, false, false, false, false, false, false, false, false, false, false, false, false, false, false, false, false, false, false, false, false] rfl rfl (take_ofW HT_.out HW_.out (by kernel_rfl)) (fun _ _ _ h => h) (Or.inl ⟨by rfl, ?_⟩) hHeld ?_ ?_
                rotate_left
                · rintro w' ⟨s0, s1, s2, s3, s4, s5, s6, s7, s8, s9, s10, s11⟩
                  go_simp
                  with_reducible rfl
                rotate_left
                · simp only [Act.put, List.setIfInBounds_toArray, List.set_cons_zero, List.set_cons_succ, i64_w, i32_w]
                  rfl
                refine take_ (i := 2) (N := some 56) (v := ?_) (a' := ?_) #[true, false, true, false, false, false, false, false, false, false, false, false, false, false, false, false, false, false, false, false, false, false, false, false, false, false, false, false, false, false] rfl rfl (take_ofW HT_.out HW_.out (by kernel_rfl)) (fun _ _ _ h => h) (Or.inl ⟨by rfl, ?_⟩) hHeld ?_ ?_
                rotate_left
                · rintro w' ⟨s0, s1, s2, s3, s4, s5, s6, s7, s8, s9, s10, s11⟩
                  go_simp
                  with_reducible rfl
                rotate_left
                · simp only [Act.put, List.setIfInBounds_toArray, List.set_cons_zero, List.set_cons_succ, i64_w, i32_w]
                  rfl
                refine take_ (i := 5) (N := some 59) (v := ?_) (a' := ?_) #[true, false, true, false, false, true, false, false, false, false, false, false, false, false, false, false, false, false, false, false, false, false, false, false, false, false, false, false, false, false] rfl rfl (take_ofW HT_.out HW_.out (by kernel_rfl)) (fun _ _ _ h => h) (Or.inl ⟨by rfl, ?_⟩) hHeld ?_ ?_
                rotate_left
                · rintro w' ⟨s0, s1, s2, s3, s4, s5, s6, s7, s8, s9, s10, s11⟩
                  go_simp
                  with_reducible rfl
                rotate_left
                · simp only [Act.put, List.setIfInBounds_toArray, List.set_cons_zero, List.set_cons_succ, i64_w, i32_w]
                  rfl
                refine take_ (i := 6) (N := some 60) (v := ?_) (a' := ?_) #[true, false, true, false, false, true, true, false, false, false, false, false, false, false, false, false, false, false, false, false, false, false, false, false, false, false, false, false, false, false] rfl rfl (take_ofW HT_.out HW_.out (by kernel_rfl)) (fun _ _ _ h => h) (Or.inl ⟨by rfl, ?_⟩) hHeld ?_ ?_
                rotate_left
                · rintro w' ⟨s0, s1, s2, s3, s4, s5, s6, s7, s8, s9, s10, s11⟩
                  go_simp
                  with_reducible rfl
                rotate_left
                · simp only [Act.put, List.setIfInBounds_toArray, List.set_cons_zero, List.set_cons_succ, i64_w, i32_w]
                  rfl
                refine one_ (i := 1) (N := some 55) #[true, true, true, false, false, true, true, false, false, false, false, false, false, false, false, false, false, false, false, false, false, false, false, false, false, false, false, false, false, false] rfl rfl (one_of HT_.out (by kernel_rfl)) (by decide) (fun K hK => ?_)
                refine goes_ Tryd.func15 (by kernel_rfl) rfl #[.agg #[.bool a0_0, .slice A0_1 l0_1.length c0_1]] (by rfl) rfl rfl (by (try simp only [List.map_toArray, List.map_cons, List.map_nil]); first | done | rfl | (simp only [List.length_drop, List.length_take]; rfl)) ?_
                with_reducible refine (marginalialaw01_own.calls a0_0 _ _ l0_1 t422 t423 _ ?side1 ?side2 A33.out).mono ?_
                (case side1 => repeat (first | exact (Kd.C_below HR0_1.out HB.out) | (with_reducible refine Kd.C_alloc ?_ _) | (with_reducible refine Kd.C_drewN ?_ _) | (with_reducible refine Kd.C_drew ?_)))
                (case side2 => exact HC0_1.out)
                rintro e w93 ⟨v424, rfl, ho0, hb⟩
                refine ⟨_, rfl, ?_⟩
                have n0_ := Aside0.mk (Kd.R_elder' (kR HO385) (Kd.R_base ho0) hb)
                have n1_ := Aside0.mk (Kd.R_elder' (kR HO389) (Kd.R_base ho0) hb)
                have n2_ := Aside0.mk (Kd.V_elder' (kV HO393) (Kd.R_base ho0) hb)
                have n3_ := Aside0.mk (Kd.R_elder' (kR HO399) (Kd.R_base ho0) hb)
                have n4_ := Aside0.mk (Kd.R_elder' (kR HO405) (Kd.R_base ho0) hb)
                have n5_ := Aside0.mk (Kd.V_elder' (kV HO413) (Kd.R_base ho0) hb)
                have n6_ := Aside0.mk (Kd.R_elder' (kR HO419) (Kd.R_base ho0) hb)
                have n7_ := Aside0.mk (Kd.R_lower (Kd.R_new' (Kd.R_new' (Kd.R_new' (Kd.R_new' (Kd.R_new' ho0 (Kd.R_lt (kR HO385))) (Kd.R_lt (kR HO389))) (Kd.R_lt (kR HO399))) (Kd.R_lt (kR HO405))) (Kd.R_lt (kR HO419))) (below_size bw))
                have n8_ := Aside0.mk (blk_below (bk BK376) hb)
                have n9_ := Aside0.mk (blk_below (bk BK377) hb)
                have n10_ := Aside0.mk (blk_below (bk BK395) hb)
                have n11_ := Aside0.mk (blk_below (bk BK401) hb)
                have n12_ := Aside0.mk (blk_below (bk BK415) hb)
                have n13_ := Aside0.mk (blk_below (bk BK421) hb)
                have n14_ := Aside0.mk (below_step bw hb)
                clear HO385 HO389 HO393 HO399 HO405 HO413 HO419 BK376 BK377 BK395 BK401 BK415 BK421 HB
                have HO385 := n0_
                have HO389 := n1_
                have HO393 := n2_
                have HO399 := n3_
                have HO405 := n4_
                have HO413 := n5_
                have HO419 := n6_
                have HO425 := n7_
                have BK376 := n8_
                have BK377 := n9_
                have BK395 := n10_
                have BK401 := n11_
                have BK415 := n12_
                have BK421 := n13_
                have HB := n14_
                clear n0_ n1_ n2_ n3_ n4_ n5_ n6_ n7_ n8_ n9_ n10_ n11_ n12_ n13_ n14_
                (try clear hb)
                (try clear hb2)
                (try clear hk)
                (try clear hi)
                (try clear ho0)
                refine hK.out _ _ ⟨(blk_cell BK376.out 0).trans rfl, (blk_cell BK376.out 1).trans rfl, (blk_cell BK377.out 0).trans rfl, (blk_cell BK377.out 1).trans rfl, (blk_cell BK395.out 0).trans rfl, (blk_cell BK395.out 1).trans rfl, (blk_cell BK401.out 0).trans rfl, (blk_cell BK401.out 1).trans rfl, (blk_cell BK415.out 0).trans rfl, (blk_cell BK415.out 1).trans rfl, (blk_cell BK421.out 0).trans rfl, (blk_cell BK421.out 1).trans rfl⟩ (fun hHeld => ?_)
                clear hK K
                refine norm_ (a' := ?_) ?_ ?_
                rotate_left
                · show Act.put _ (some 55) _ = _
                  simp only [Act.put, List.setIfInBounds_toArray, List.set_cons_zero, List.set_cons_succ, i64_w, i32_w]
                  rfl
                refine one_ (i := 3) (N := some 57) #[true, true, true, true, false, true, true, false, false, false, false, false, false, false, false, false, false, false, false, false, false, false, false, false, false, false, false, false, false, false] rfl rfl (one_of HT_.out (by kernel_rfl)) (by decide) (fun K hK => ?_)
                refine goes_ Tryd.func15 (by kernel_rfl) rfl #[.agg #[.bool a1_0, .slice A1_1 l1_1.length c1_1]] (by rfl) rfl rfl (by (try simp only [List.map_toArray, List.map_cons, List.map_nil]); first | done | rfl | (simp only [List.length_drop, List.length_take]; rfl)) ?_
                with_reducible refine (marginalialaw01_own.calls a1_0 _ _ l1_1 t426 t427 _ ?side1 ?side2 A34.out).mono ?_
                (case side1 => repeat (first | exact (Kd.C_below HR1_1.out HB.out) | (with_reducible refine Kd.C_alloc ?_ _) | (with_reducible refine Kd.C_drewN ?_ _) | (with_reducible refine Kd.C_drew ?_)))
                (case side2 => exact HC1_1.out)
                rintro e w94 ⟨v428, rfl, ho0, hb⟩
                refine ⟨_, rfl, ?_⟩
                have n0_ := Aside0.mk (Kd.R_elder' (kR HO385) (Kd.R_base ho0) hb)
                have n1_ := Aside0.mk (Kd.R_elder' (kR HO389) (Kd.R_base ho0) hb)
                have n2_ := Aside0.mk (Kd.V_elder' (kV HO393) (Kd.R_base ho0) hb)
                have n3_ := Aside0.mk (Kd.R_elder' (kR HO399) (Kd.R_base ho0) hb)
                have n4_ := Aside0.mk (Kd.R_elder' (kR HO405) (Kd.R_base ho0) hb)
                have n5_ := Aside0.mk (Kd.V_elder' (kV HO413) (Kd.R_base ho0) hb)
                have n6_ := Aside0.mk (Kd.R_elder' (kR HO419) (Kd.R_base ho0) hb)
                have n7_ := Aside0.mk (Kd.R_elder' (kR HO425) (Kd.R_base ho0) hb)
                have n8_ := Aside0.mk (Kd.R_lower (Kd.R_new' (Kd.R_new' (Kd.R_new' (Kd.R_new' (Kd.R_new' (Kd.R_new' ho0 (Kd.R_lt (kR HO385))) (Kd.R_lt (kR HO389))) (Kd.R_lt (kR HO399))) (Kd.R_lt (kR HO405))) (Kd.R_lt (kR HO419))) (Kd.R_lt (kR HO425))) (below_size bw))
                have n9_ := Aside0.mk (blk_below (bk BK376) hb)
                have n10_ := Aside0.mk (blk_below (bk BK377) hb)
                have n11_ := Aside0.mk (blk_below (bk BK395) hb)
                have n12_ := Aside0.mk (blk_below (bk BK401) hb)
                have n13_ := Aside0.mk (blk_below (bk BK415) hb)
                have n14_ := Aside0.mk (blk_below (bk BK421) hb)
                have n15_ := Aside0.mk (below_step bw hb)
                clear HO385 HO389 HO393 HO399 HO405 HO413 HO419 HO425 BK376 BK377 BK395 BK401 BK415 BK421 HB
                have HO385 := n0_
                have HO389 := n1_
                have HO393 := n2_
                have HO399 := n3_
                have HO405 := n4_
                have HO413 := n5_
                have HO419 := n6_
                have HO425 := n7_
                have HO429 := n8_
                have BK376 := n9_
                have BK377 := n10_
                have BK395 := n11_
                have BK401 := n12_
                have BK415 := n13_
                have BK421 := n14_
                have HB := n15_
                clear n0_ n1_ n2_ n3_ n4_ n5_ n6_ n7_ n8_ n9_ n10_ n11_ n12_ n13_ n14_ n15_
                (try clear hb)
                (try clear hb2)
                (try clear hk)
                (try clear hi)
                (try clear ho0)
                obtain ⟨Ao95, co95, eo95⟩ := Kd.R_slice HO425.out
                (first | subst eo95 | (injection eo95 with f1_ f2_ f3_; have f4_ := f1_.symm; have f5_ := f3_.symm; clear f1_ f2_ f3_; subst f4_; subst f5_))
                obtain ⟨Ao96, co96, eo96⟩ := Kd.R_slice HO429.out
                (first | subst eo96 | (injection eo96 with f1_ f2_ f3_; have f4_ := f1_.symm; have f5_ := f3_.symm; clear f1_ f2_ f3_; subst f4_; subst f5_))
                refine hK.out _ _ ⟨(blk_cell BK376.out 0).trans rfl, (blk_cell BK376.out 1).trans rfl, (blk_cell BK377.out 0).trans rfl, (blk_cell BK377.out 1).trans rfl, (blk_cell BK395.out 0).trans rfl, (blk_cell BK395.out 1).trans rfl, (blk_cell BK401.out 0).trans rfl, (blk_cell BK401.out 1).trans rfl, (blk_cell BK415.out 0).trans rfl, (blk_cell BK415.out 1).trans rfl, (blk_cell BK421.out 0).trans rfl, (blk_cell BK421.out 1).trans rfl⟩ (fun hHeld => ?_)
                clear hK K
                refine norm_ (a' := ?_) ?_ ?_
                rotate_left
                · show Act.put _ (some 57) _ = _
                  simp only [Act.put, List.setIfInBounds_toArray, List.set_cons_zero, List.set_cons_succ, i64_w, i32_w]
                  rfl
                refine one_ (i := 4) (N := some 58) #[true, true, true, true, true, true, true, false, false, false, false, false, false, false, false, false, false, false, false, false, false, false, false, false, false, false, false, false, false, false] rfl rfl (one_of HT_.out (by kernel_rfl)) (by decide) (fun K hK => ?_)
                refine goes_ Tryd.func22 (by kernel_rfl) rfl #[.agg #[.bool t422, .slice Ao95 t423.length co95], .agg #[.bool t426, .slice Ao96 t427.length co96]] (by rfl) rfl rfl (by (try simp only [List.map_toArray, List.map_cons, List.map_nil]); first | done | rfl | (simp only [List.length_drop, List.length_take]; rfl)) ?_
                with_reducible refine (num_Cmp.calls kj2 t422 _ _ t423 t426 _ _ t427 t430 _ ?side1 ?side2 ?side3 ?side4 A35.out).mono ?_
                (case side1 => repeat (first | exact (Kd.R_reads' HO425.out).2.2 | (with_reducible refine Kd.C_alloc ?_ _) | (with_reducible refine Kd.C_drewN ?_ _) | (with_reducible refine Kd.C_drew ?_)))
                (case side2 => exact (Kd.R_reads' HO425.out).2.1)
                (case side3 => repeat (first | exact (Kd.R_reads' HO429.out).2.2 | (with_reducible refine Kd.C_alloc ?_ _) | (with_reducible refine Kd.C_drewN ?_ _) | (with_reducible refine Kd.C_drew ?_)))
                (case side4 => exact (Kd.R_reads' HO429.out).2.1)
                rintro e w97 ⟨rfl, hb⟩
                refine ⟨_, rfl, ?_⟩
                have n0_ := Aside0.mk (Kd.R_below (kR HO385) hb)
                have n1_ := Aside0.mk (Kd.R_below (kR HO389) hb)
                have n2_ := Aside0.mk (Kd.V_below (kV HO393) hb)
                have n3_ := Aside0.mk (Kd.R_below (kR HO399) hb)
                have n4_ := Aside0.mk (Kd.R_below (kR HO405) hb)
                have n5_ := Aside0.mk (Kd.V_below (kV HO413) hb)
                have n6_ := Aside0.mk (Kd.R_below (kR HO419) hb)
                have n7_ := Aside0.mk (Kd.R_below (kR HO425) hb)
                have n8_ := Aside0.mk (Kd.R_below (kR HO429) hb)
                have n9_ := Aside0.mk (blk_below (bk BK376) hb)
                have n10_ := Aside0.mk (blk_below (bk BK377) hb)
                have n11_ := Aside0.mk (blk_below (bk BK395) hb)
                have n12_ := Aside0.mk (blk_below (bk BK401) hb)
                have n13_ := Aside0.mk (blk_below (bk BK415) hb)
                have n14_ := Aside0.mk (blk_below (bk BK421) hb)
                have n15_ := Aside0.mk (below_step bw hb)
                clear HO385 HO389 HO393 HO399 HO405 HO413 HO419 HO425 HO429 BK376 BK377 BK395 BK401 BK415 BK421 HB
                have HO385 := n0_
                have HO389 := n1_
                have HO393 := n2_
                have HO399 := n3_
                have HO405 := n4_
                have HO413 := n5_
                have HO419 := n6_
                have HO425 := n7_
                have HO429 := n8_
                have BK376 := n9_
                have BK377 := n10_
                have BK395 := n11_
                have BK401 := n12_
                have BK415 := n13_
                have BK421 := n14_
                have HB := n15_
                clear n0_ n1_ n2_ n3_ n4_ n5_ n6_ n7_ n8_ n9_ n10_ n11_ n12_ n13_ n14_ n15_
                (try clear hb)
                (try clear hb2)
                (try clear hk)
                (try clear hi)
                refine hK.out _ _ ⟨(blk_cell BK376.out 0).trans rfl, (blk_cell BK376.out 1).trans rfl, (blk_cell BK377.out 0).trans rfl, (blk_cell BK377.out 1).trans rfl, (blk_cell BK395.out 0).trans rfl, (blk_cell BK395.out 1).trans rfl, (blk_cell BK401.out 0).trans rfl, (blk_cell BK401.out 1).trans rfl, (blk_cell BK415.out 0).trans rfl, (blk_cell BK415.out 1).trans rfl, (blk_cell BK421.out 0).trans rfl, (blk_cell BK421.out 1).trans rfl⟩ (fun hHeld => ?_)
                clear hK K
                refine norm_ (a' := ?_) ?_ ?_
                rotate_left
                · show Act.put _ (some 58) _ = _
                  simp only [Act.put, List.setIfInBounds_toArray, List.set_cons_zero, List.set_cons_succ, i64_w, i32_w]
                  rfl
                refine one_ (i := 7) (N := some 61) #[true, true, true, true, true, true, true, true, false, false, false, false, false, false, false, false, false, false, false, false, false, false, false, false, false, false, false, false, false, false] rfl rfl (one_of HT_.out (by kernel_rfl)) (by decide) (fun K hK => ?_)
                refine goes_ Tryd.func23 (by kernel_rfl) rfl #[.agg #[.bool a0_0, .slice A0_1 l0_1.length c0_1], .agg #[.bool a1_0, .slice A1_1 l1_1.length c1_1]] (by rfl) rfl rfl (by (try simp only [List.map_toArray, List.map_cons, List.map_nil]); first | done | rfl | (simp only [List.length_drop, List.length_take]; rfl)) ?_
                with_reducible refine (marginaliaref01_Cmp.calls kj2 a0_0 _ _ l0_1 a1_0 _ _ l1_1 t431 _ ?side1 ?side2 ?side3 ?side4 A36.out).mono ?_
                (case side1 => repeat (first | exact (Kd.C_below HR0_1.out HB.out) | (with_reducible refine Kd.C_alloc ?_ _) | (with_reducible refine Kd.C_drewN ?_ _) | (with_reducible refine Kd.C_drew ?_)))
                (case side2 => exact HC0_1.out)
                (case side3 => repeat (first | exact (Kd.C_below HR1_1.out HB.out) | (with_reducible refine Kd.C_alloc ?_ _) | (with_reducible refine Kd.C_drewN ?_ _) | (with_reducible refine Kd.C_drew ?_)))
                (case side4 => exact HC1_1.out)
                rintro e w98 ⟨rfl, hb⟩
                refine ⟨_, rfl, ?_⟩
                have n0_ := Aside0.mk (Kd.R_below (kR HO385) hb)
                have n1_ := Aside0.mk (Kd.R_below (kR HO389) hb)
                have n2_ := Aside0.mk (Kd.V_below (kV HO393) hb)
                have n3_ := Aside0.mk (Kd.R_below (kR HO399) hb)
                have n4_ := Aside0.mk (Kd.R_below (kR HO405) hb)
                have n5_ := Aside0.mk (Kd.V_below (kV HO413) hb)
                have n6_ := Aside0.mk (Kd.R_below (kR HO419) hb)
                have n7_ := Aside0.mk (Kd.R_below (kR HO425) hb)
                have n8_ := Aside0.mk (Kd.R_below (kR HO429) hb)
                have n9_ := Aside0.mk (blk_below (bk BK376) hb)
                have n10_ := Aside0.mk (blk_below (bk BK377) hb)
                have n11_ := Aside0.mk (blk_below (bk BK395) hb)
                have n12_ := Aside0.mk (blk_below (bk BK401) hb)
                have n13_ := Aside0.mk (blk_below (bk BK415) hb)
                have n14_ := Aside0.mk (blk_below (bk BK421) hb)
                have n15_ := Aside0.mk (below_step bw hb)
                clear HO385 HO389 HO393 HO399 HO405 HO413 HO419 HO425 HO429 BK376 BK377 BK395 BK401 BK415 BK421 HB
                have HO385 := n0_
                have HO389 := n1_
                have HO393 := n2_
                have HO399 := n3_
                have HO405 := n4_
                have HO413 := n5_
                have HO419 := n6_
                have HO425 := n7_
                have HO429 := n8_
                have BK376 := n9_
                have BK377 := n10_
                have BK395 := n11_
                have BK401 := n12_
                have BK415 := n13_
                have BK421 := n14_
                have HB := n15_
                clear n0_ n1_ n2_ n3_ n4_ n5_ n6_ n7_ n8_ n9_ n10_ n11_ n12_ n13_ n14_ n15_
                (try clear hb)
                (try clear hb2)
                (try clear hk)
                (try clear hi)
                refine hK.out _ _ ⟨(blk_cell BK376.out 0).trans rfl, (blk_cell BK376.out 1).trans rfl, (blk_cell BK377.out 0).trans rfl, (blk_cell BK377.out 1).trans rfl, (blk_cell BK395.out 0).trans rfl, (blk_cell BK395.out 1).trans rfl, (blk_cell BK401.out 0).trans rfl, (blk_cell BK401.out 1).trans rfl, (blk_cell BK415.out 0).trans rfl, (blk_cell BK415.out 1).trans rfl, (blk_cell BK421.out 0).trans rfl, (blk_cell BK421.out 1).trans rfl⟩ (fun hHeld => ?_)
                clear hK K
                refine norm_ (a' := ?_) ?_ ?_
                rotate_left
                · show Act.put _ (some 61) _ = _
                  simp only [Act.put, List.setIfInBounds_toArray, List.set_cons_zero, List.set_cons_succ, i64_w, i32_w]
                  rfl
                refine pure_ (i := 8) (N := some 62) (v := ?_) (a' := ?_) #[true, true, true, true, true, true, true, true, true, false, false, false, false, false, false, false, false, false, false, false, false, false, false, false, false, false, false, false, false, false] rfl rfl (any_of HT_.out (by kernel_rfl)) (fun _ _ _ h => h) (Or.inl ⟨by rfl, ?_⟩) ?_ ?_
                rotate_left
                · intro w'
                  go_simp
                  with_reducible rfl
                rotate_left
                · simp only [Act.put, List.setIfInBounds_toArray, List.set_cons_zero, List.set_cons_succ, i64_w, i32_w]
                  rfl
                refine pure_ (i := 9) (N := some 63) (v := ?_) (a' := ?_) #[true, true, true, true, true, true, true, true, true, true, false, false, false, false, false, false, false, false, false, false, false, false, false, false, false, false, false, false, false, false] rfl rfl (any_of HT_.out (by kernel_rfl)) (fun _ _ _ h => h) (Or.inl ⟨by rfl, ?_⟩) ?_ ?_
                rotate_left
                · intro w'
                  go_simp
                  with_reducible rfl
                rotate_left
                · simp only [Act.put, List.setIfInBounds_toArray, List.set_cons_zero, List.set_cons_succ, i64_w, i32_w]
                  rfl
                refine take_ (i := 10) (N := some 64) (v := ?_) (a' := ?_) #[true, true, true, true, true, true, true, true, true, true, true, false, false, false, false, false, false, false, false, false, false, false, false, false, false, false, false, false, false, false] rfl rfl (take_ofW HT_.out HW_.out (by kernel_rfl)) (fun _ _ _ h => h) (Or.inl ⟨by rfl, ?_⟩) hHeld ?_ ?_
                rotate_left
                · rintro w' ⟨s0, s1, s2, s3, s4, s5, s6, s7, s8, s9, s10, s11⟩
                  go_simp
                  with_reducible rfl
                rotate_left
                · simp only [Act.put, List.setIfInBounds_toArray, List.set_cons_zero, List.set_cons_succ, i64_w, i32_w]
                  rfl
                refine take_ (i := 11) (N := some 65) (v := ?_) (a' := ?_) #[true, true, true, true, true, true, true, true, true, true, true, true, false, false, false, false, false, false, false, false, false, false, false, false, false, false, false, false, false, false] rfl rfl (take_ofW HT_.out HW_.out (by kernel_rfl)) (fun _ _ _ h => h) (Or.inl ⟨by rfl, ?_⟩) hHeld ?_ ?_
                rotate_left
                · rintro w' ⟨s0, s1, s2, s3, s4, s5, s6, s7, s8, s9, s10, s11⟩
                  go_simp
                  with_reducible rfl
                rotate_left
                · simp only [Act.put, List.setIfInBounds_toArray, List.set_cons_zero, List.set_cons_succ, i64_w, i32_w]
                  rfl
                refine one_ (i := 12) (N := some 66) #[true, true, true, true, true, true, true, true, true, true, true, true, true, false, false, false, false, false, false, false, false, false, false, false, false, false, false, false, false, false] rfl rfl (one_of HT_.out (by kernel_rfl)) (by decide) (fun K hK => ?_)
                refine goes_ Tryd.func17 (by kernel_rfl) rfl #[.agg #[.bool t390, .slice Ao52 t391.length co52], .agg #[.bool t396, .slice Ao65 t397.length co65]] (by rfl) rfl rfl (by (try simp only [List.map_toArray, List.map_cons, List.map_nil]); first | done | rfl | (simp only [List.length_drop, List.length_take]; rfl)) ?_
                with_reducible refine (marginaliaref01_Same.calls kj2 t390 _ _ t391 t396 _ _ t397 true _ ?side1 ?side2 ?side3 ?side4 A38.out).mono ?_
                (case side1 => repeat (first | exact (Kd.V_reads' HO393.out).2.2 | (with_reducible refine Kd.C_alloc ?_ _) | (with_reducible refine Kd.C_drewN ?_ _) | (with_reducible refine Kd.C_drew ?_)))
                (case side2 => exact (Kd.V_reads' HO393.out).2.1)
                (case side3 => repeat (first | exact (Kd.R_reads' HO399.out).2.2 | (with_reducible refine Kd.C_alloc ?_ _) | (with_reducible refine Kd.C_drewN ?_ _) | (with_reducible refine Kd.C_drew ?_)))
                (case side4 => exact (Kd.R_reads' HO399.out).2.1)
                rintro e w99 ⟨rfl, hb⟩
                refine ⟨_, rfl, ?_⟩
                have n0_ := Aside0.mk (Kd.R_below (kR HO385) hb)
                have n1_ := Aside0.mk (Kd.R_below (kR HO389) hb)
                have n2_ := Aside0.mk (Kd.V_below (kV HO393) hb)
                have n3_ := Aside0.mk (Kd.R_below (kR HO399) hb)
                have n4_ := Aside0.mk (Kd.R_below (kR HO405) hb)
                have n5_ := Aside0.mk (Kd.V_below (kV HO413) hb)
                have n6_ := Aside0.mk (Kd.R_below (kR HO419) hb)
                have n7_ := Aside0.mk (Kd.R_below (kR HO425) hb)
                have n8_ := Aside0.mk (Kd.R_below (kR HO429) hb)
                have n9_ := Aside0.mk (blk_below (bk BK376) hb)
                have n10_ := Aside0.mk (blk_below (bk BK377) hb)
                have n11_ := Aside0.mk (blk_below (bk BK395) hb)
                have n12_ := Aside0.mk (blk_below (bk BK401) hb)
                have n13_ := Aside0.mk (blk_below (bk BK415) hb)
                have n14_ := Aside0.mk (blk_below (bk BK421) hb)
                have n15_ := Aside0.mk (below_step bw hb)
                clear HO385 HO389 HO393 HO399 HO405 HO413 HO419 HO425 HO429 BK376 BK377 BK395 BK401 BK415 BK421 HB
                have HO385 := n0_
                have HO389 := n1_
                have HO393 := n2_
                have HO399 := n3_
                have HO405 := n4_
                have HO413 := n5_
                have HO419 := n6_
                have HO425 := n7_
                have HO429 := n8_
                have BK376 := n9_
                have BK377 := n10_
                have BK395 := n11_
                have BK401 := n12_
                have BK415 := n13_
                have BK421 := n14_
                have HB := n15_
                clear n0_ n1_ n2_ n3_ n4_ n5_ n6_ n7_ n8_ n9_ n10_ n11_ n12_ n13_ n14_ n15_
                (try clear hb)
                (try clear hb2)
                (try clear hk)
                (try clear hi)
                refine hK.out _ _ ⟨(blk_cell BK376.out 0).trans rfl, (blk_cell BK376.out 1).trans rfl, (blk_cell BK377.out 0).trans rfl, (blk_cell BK377.out 1).trans rfl, (blk_cell BK395.out 0).trans rfl, (blk_cell BK395.out 1).trans rfl, (blk_cell BK401.out 0).trans rfl, (blk_cell BK401.out 1).trans rfl, (blk_cell BK415.out 0).trans rfl, (blk_cell BK415.out 1).trans rfl, (blk_cell BK421.out 0).trans rfl, (blk_cell BK421.out 1).trans rfl⟩ (fun hHeld => ?_)
                clear hK K
                refine norm_ (a' := ?_) ?_ ?_
                rotate_left
                · show Act.put _ (some 66) _ = _
                  simp only [Act.put, List.setIfInBounds_toArray, List.set_cons_zero, List.set_cons_succ, i64_w, i32_w]
                  rfl
                refine pure_ (i := 13) (N := some 67) (v := ?_) (a' := ?_) #[true, true, true, true, true, true, true, true, true, true, true, true, true, true, false, false, false, false, false, false, false, false, false, false, false, false, false, false, false, false] rfl rfl (any_of HT_.out (by kernel_rfl)) (fun _ _ _ h => h) (Or.inl ⟨by rfl, ?_⟩) ?_ ?_
                rotate_left
                · intro w'
                  go_simp
                  with_reducible rfl
                rotate_left
                · simp only [Act.put, List.setIfInBounds_toArray, List.set_cons_zero, List.set_cons_succ, i64_w, i32_w]
                  rfl
                refine pure_ (i := 14) (N := some 68) (v := ?_) (a' := ?_) #[true, true, true, true, true, true, true, true, true, true, true, true, true, true, true, false, false, false, false, false, false, false, false, false, false, false, false, false, false, false] rfl rfl (any_of HT_.out (by kernel_rfl)) (fun _ _ _ h => h) (Or.inl ⟨by rfl, ?_⟩) ?_ ?_
                rotate_left
                · intro w'
                  go_simp
                  with_reducible rfl
                rotate_left
                · simp only [Act.put, List.setIfInBounds_toArray, List.set_cons_zero, List.set_cons_succ, i64_w, i32_w]
                  rfl
                refine pure_ (i := 15) (N := some 69) (v := ?_) (a' := ?_) #[true, true, true, true, true, true, true, true, true, true, true, true, true, true, true, true, false, false, false, false, false, false, false, false, false, false, false, false, false, false] rfl rfl (any_of HT_.out (by kernel_rfl)) (fun _ _ _ h => h) (Or.inl ⟨by rfl, ?_⟩) ?_ ?_
                rotate_left
                · intro w'
                  go_simp
                  with_reducible rfl
                rotate_left
                · simp only [Act.put, List.setIfInBounds_toArray, List.set_cons_zero, List.set_cons_succ, i64_w, i32_w]
                  rfl
                refine pure_ (i := 16) (N := some 70) (v := ?_) (a' := ?_) #[true, true, true, true, true, true, true, true, true, true, true, true, true, true, true, true, true, false, false, false, false, false, false, false, false, false, false, false, false, false] rfl rfl (any_of HT_.out (by kernel_rfl)) (fun _ _ _ h => h) (Or.inl ⟨by rfl, ?_⟩) ?_ ?_
                rotate_left
                · intro w'
                  go_simp
                  with_reducible rfl
                rotate_left
                · simp only [Act.put, List.setIfInBounds_toArray, List.set_cons_zero, List.set_cons_succ, i64_w, i32_w]
                  rfl
                refine pure_ (i := 17) (N := some 71) (v := ?_) (a' := ?_) #[true, true, true, true, true, true, true, true, true, true, true, true, true, true, true, true, true, true, false, false, false, false, false, false, false, false, false, false, false, false] rfl rfl (any_of HT_.out (by kernel_rfl)) (fun _ _ _ h => h) (Or.inl ⟨by rfl, ?_⟩) ?_ ?_
                rotate_left
                · intro w'
                  go_simp
                  with_reducible rfl
                rotate_left
                · simp only [Act.put, List.setIfInBounds_toArray, List.set_cons_zero, List.set_cons_succ, i64_w, i32_w]
                  rfl
                refine pure_ (i := 18) (N := some 72) (v := ?_) (a' := ?_) #[true, true, true, true, true, true, true, true, true, true, true, true, true, true, true, true, true, true, true, false, false, false, false, false, false, false, false, false, false, false] rfl rfl (any_of HT_.out (by kernel_rfl)) (fun _ _ _ h => h) (Or.inl ⟨by rfl, ?_⟩) ?_ ?_
                rotate_left
                · intro w'
                  go_simp
                  with_reducible rfl
                rotate_left
                · simp only [Act.put, List.setIfInBounds_toArray, List.set_cons_zero, List.set_cons_succ, i64_w, i32_w]
                  rfl
                refine pure_ (i := 19) (N := some 73) (v := ?_) (a' := ?_) #[true, true, true, true, true, true, true, true, true, true, true, true, true, true, true, true, true, true, true, true, false, false, false, false, false, false, false, false, false, false] rfl rfl (any_of HT_.out (by kernel_rfl)) (fun _ _ _ h => h) (Or.inl ⟨by rfl, ?_⟩) ?_ ?_
                rotate_left
                · intro w'
                  go_simp
                  with_reducible rfl
                rotate_left
                · simp only [Act.put, List.setIfInBounds_toArray, List.set_cons_zero, List.set_cons_succ, i64_w, i32_w]
                  rfl
                refine take_ (i := 20) (N := some 74) (v := ?_) (a' := ?_) #[true, true, true, true, true, true, true, true, true, true, true, true, true, true, true, true, true, true, true, true, true, false, false, false, false, false, false, false, false, false] rfl rfl (take_ofW HT_.out HW_.out (by kernel_rfl)) (fun _ _ _ h => h) (Or.inl ⟨by rfl, ?_⟩) hHeld ?_ ?_
                rotate_left
                · rintro w' ⟨s0, s1, s2, s3, s4, s5, s6, s7, s8, s9, s10, s11⟩
                  go_simp
                  with_reducible rfl
                rotate_left
                · simp only [Act.put, List.setIfInBounds_toArray, List.set_cons_zero, List.set_cons_succ, i64_w, i32_w]
                  rfl
                refine take_ (i := 21) (N := some 75) (v := ?_) (a' := ?_) #[true, true, true, true, true, true, true, true, true, true, true, true, true, true, true, true, true, true, true, true, true, true, false, false, false, false, false, false, false, false] rfl rfl (take_ofW HT_.out HW_.out (by kernel_rfl)) (fun _ _ _ h => h) (Or.inl ⟨by rfl, ?_⟩) hHeld ?_ ?_
                rotate_left
                · rintro w' ⟨s0, s1, s2, s3, s4, s5, s6, s7, s8, s9, s10, s11⟩
                  go_simp
                  with_reducible rfl
                rotate_left
                · simp only [Act.put, List.setIfInBounds_toArray, List.set_cons_zero, List.set_cons_succ, i64_w, i32_w]
                  rfl
                refine one_ (i := 22) (N := some 76) #[true, true, true, true, true, true, true, true, true, true, true, true, true, true, true, true, true, true, true, true, true, true, true, false, false, false, false, false, false, false] rfl rfl (one_of HT_.out (by kernel_rfl)) (by decide) (fun K hK => ?_)
                refine goes_ Tryd.func17 (by kernel_rfl) rfl #[.agg #[.bool t410, .slice Ao76 t411.length co76], .agg #[.bool t416, .slice Ao90 t417.length co90]] (by rfl) rfl rfl (by (try simp only [List.map_toArray, List.map_cons, List.map_nil]); first | done | rfl | (simp only [List.length_drop, List.length_take]; rfl)) ?_
                with_reducible refine (marginaliaref01_Same.calls kj2 t410 _ _ t411 t416 _ _ t417 true _ ?side1 ?side2 ?side3 ?side4 A41.out).mono ?_
                (case side1 => repeat (first | exact (Kd.V_reads' HO413.out).2.2 | (with_reducible refine Kd.C_alloc ?_ _) | (with_reducible refine Kd.C_drewN ?_ _) | (with_reducible refine Kd.C_drew ?_)))
                (case side2 => exact (Kd.V_reads' HO413.out).2.1)
                (case side3 => repeat (first | exact (Kd.R_reads' HO419.out).2.2 | (with_reducible refine Kd.C_alloc ?_ _) | (with_reducible refine Kd.C_drewN ?_ _) | (with_reducible refine Kd.C_drew ?_)))
                (case side4 => exact (Kd.R_reads' HO419.out).2.1)
                rintro e w100 ⟨rfl, hb⟩
                refine ⟨_, rfl, ?_⟩
                have n0_ := Aside0.mk (Kd.R_below (kR HO385) hb)
                have n1_ := Aside0.mk (Kd.R_below (kR HO389) hb)
                have n2_ := Aside0.mk (Kd.V_below (kV HO393) hb)
                have n3_ := Aside0.mk (Kd.R_below (kR HO399) hb)
                have n4_ := Aside0.mk (Kd.R_below (kR HO405) hb)
                have n5_ := Aside0.mk (Kd.V_below (kV HO413) hb)
                have n6_ := Aside0.mk (Kd.R_below (kR HO419) hb)
                have n7_ := Aside0.mk (Kd.R_below (kR HO425) hb)
                have n8_ := Aside0.mk (Kd.R_below (kR HO429) hb)
                have n9_ := Aside0.mk (blk_below (bk BK376) hb)
                have n10_ := Aside0.mk (blk_below (bk BK377) hb)
                have n11_ := Aside0.mk (blk_below (bk BK395) hb)
                have n12_ := Aside0.mk (blk_below (bk BK401) hb)
                have n13_ := Aside0.mk (blk_below (bk BK415) hb)
                have n14_ := Aside0.mk (blk_below (bk BK421) hb)
                have n15_ := Aside0.mk (below_step bw hb)
                clear HO385 HO389 HO393 HO399 HO405 HO413 HO419 HO425 HO429 BK376 BK377 BK395 BK401 BK415 BK421 HB
                have HO385 := n0_
                have HO389 := n1_
                have HO393 := n2_
                have HO399 := n3_
                have HO405 := n4_
                have HO413 := n5_
                have HO419 := n6_
                have HO425 := n7_
                have HO429 := n8_
                have BK376 := n9_
                have BK377 := n10_
                have BK395 := n11_
                have BK401 := n12_
                have BK415 := n13_
                have BK421 := n14_
                have HB := n15_
                clear n0_ n1_ n2_ n3_ n4_ n5_ n6_ n7_ n8_ n9_ n10_ n11_ n12_ n13_ n14_ n15_
                (try clear hb)
                (try clear hb2)
                (try clear hk)
                (try clear hi)
                refine hK.out _ _ ⟨(blk_cell BK376.out 0).trans rfl, (blk_cell BK376.out 1).trans rfl, (blk_cell BK377.out 0).trans rfl, (blk_cell BK377.out 1).trans rfl, (blk_cell BK395.out 0).trans rfl, (blk_cell BK395.out 1).trans rfl, (blk_cell BK401.out 0).trans rfl, (blk_cell BK401.out 1).trans rfl, (blk_cell BK415.out 0).trans rfl, (blk_cell BK415.out 1).trans rfl, (blk_cell BK421.out 0).trans rfl, (blk_cell BK421.out 1).trans rfl⟩ (fun hHeld => ?_)
                clear hK K
                refine norm_ (a' := ?_) ?_ ?_
                rotate_left
                · show Act.put _ (some 76) _ = _
                  simp only [Act.put, List.setIfInBounds_toArray, List.set_cons_zero, List.set_cons_succ, i64_w, i32_w]
                  rfl
                refine pure_ (i := 23) (N := some 77) (v := ?_) (a' := ?_) #[true, true, true, true, true, true, true, true, true, true, true, true, true, true, true, true, true, true, true, true, true, true, true, true, false, false, false, false, false, false] rfl rfl (any_of HT_.out (by kernel_rfl)) (fun _ _ _ h => h) (Or.inl ⟨by rfl, ?_⟩) ?_ ?_
                rotate_left
                · intro w'
                  go_simp
                  with_reducible rfl
                rotate_left
                · simp only [Act.put, List.setIfInBounds_toArray, List.set_cons_zero, List.set_cons_succ, i64_w, i32_w]
                  rfl
                refine pure_ (i := 24) (N := some 78) (v := ?_) (a' := ?_) #[true, true, true, true, true, true, true, true, true, true, true, true, true, true, true, true, true, true, true, true, true, true, true, true, true, false, false, false, false, false] rfl rfl (any_of HT_.out (by kernel_rfl)) (fun _ _ _ h => h) (Or.inl ⟨by rfl, ?_⟩) ?_ ?_
                rotate_left
                · intro w'
                  go_simp
                  with_reducible rfl
                rotate_left
                · simp only [Act.put, List.setIfInBounds_toArray, List.set_cons_zero, List.set_cons_succ, i64_w, i32_w]
                  rfl
                refine pure_ (i := 25) (N := some 79) (v := ?_) (a' := ?_) #[true, true, true, true, true, true, true, true, true, true, true, true, true, true, true, true, true, true, true, true, true, true, true, true, true, true, false, false, false, false] rfl rfl (any_of HT_.out (by kernel_rfl)) (fun _ _ _ h => h) (Or.inl ⟨by rfl, ?_⟩) ?_ ?_
                rotate_left
                · intro w'
                  go_simp
                  with_reducible rfl
                rotate_left
                · simp only [Act.put, List.setIfInBounds_toArray, List.set_cons_zero, List.set_cons_succ, i64_w, i32_w]
                  rfl
                refine pure_ (i := 26) (N := some 80) (v := ?_) (a' := ?_) #[true, true, true, true, true, true, true, true, true, true, true, true, true, true, true, true, true, true, true, true, true, true, true, true, true, true, true, false, false, false] rfl rfl (any_of HT_.out (by kernel_rfl)) (fun _ _ _ h => h) (Or.inl ⟨by rfl, ?_⟩) ?_ ?_
                rotate_left
                · intro w'
                  go_simp
                  with_reducible rfl
                rotate_left
                · simp only [Act.put, List.setIfInBounds_toArray, List.set_cons_zero, List.set_cons_succ, i64_w, i32_w]
                  rfl
                refine pure_ (i := 27) (N := some 81) (v := ?_) (a' := ?_) #[true, true, true, true, true, true, true, true, true, true, true, true, true, true, true, true, true, true, true, true, true, true, true, true, true, true, true, true, false, false] rfl rfl (any_of HT_.out (by kernel_rfl)) (fun _ _ _ h => h) (Or.inl ⟨by rfl, ?_⟩) ?_ ?_
                rotate_left
                · intro w'
                  go_simp
                  with_reducible rfl
                rotate_left
                · simp only [Act.put, List.setIfInBounds_toArray, List.set_cons_zero, List.set_cons_succ, i64_w, i32_w]
                  rfl
                refine pure_ (i := 28) (N := some 82) (v := ?_) (a' := ?_) #[true, true, true, true, true, true, true, true, true, true, true, true, true, true, true, true, true, true, true, true, true, true, true, true, true, true, true, true, true, false] rfl rfl (any_of HT_.out (by kernel_rfl)) (fun _ _ _ h => h) (Or.inl ⟨by rfl, ?_⟩) ?_ ?_
                rotate_left
                · intro w'
                  go_simp
                  with_reducible rfl
                rotate_left
                · simp only [Act.put, List.setIfInBounds_toArray, List.set_cons_zero, List.set_cons_succ, i64_w, i32_w]
                  rfl
                refine pure_ (i := 29) (N := some 4) (v := ?_) (a' := ?_) #[true, true, true, true, true, true, true, true, true, true, true, true, true, true, true, true, true, true, true, true, true, true, true, true, true, true, true, true, true, true] rfl rfl (any_of HT_.out (by kernel_rfl)) (fun _ _ _ h => h) (Or.inl ⟨by rfl, ?_⟩) ?_ ?_
                rotate_left
                · intro w'
                  go_simp
                  with_reducible rfl
                rotate_left
                · simp only [Act.put, List.setIfInBounds_toArray, List.set_cons_zero, List.set_cons_succ, i64_w, i32_w]
                  rfl
                refine done_ (done_of HT_.out (by kernel_rfl)) ?_
                try go_wp2
                go_ret
                exact ⟨by first | rfl | (simp [errW_none, errW_some] <;> rfl) | (simp [*, errW_none, errW_some] <;> rfl), bw⟩
              · replace c42 := Bool.eq_false_iff.mpr c42
                subst c42
                have H1 : (none) = some r := by rw [if_neg (show ¬ (false = true) by decide)] at H; exact H
                clear H
                have H := H1
                clear H1
                exact absurd H (by simp)
            · rw [if_neg c40] at H
              have c40b0 : (t394 == t400) = false := beq_eq_false_iff_ne.mpr c40
              have c40b1 : (t394 != t400) = true := bne_iff_ne.mpr c40
              exact absurd H (by simp)
          · replace c39 := Bool.eq_false_iff.mpr c39
            subst c39
            have H1 : (none) = some r := by rw [if_neg (show ¬ (false = true) by decide)] at H; exact H
            clear H
            have H := H1
            clear H1
            exact absurd H (by simp)
        · rw [if_neg c37] at H
          have c37b0 : (t430 == t431) = false := beq_eq_false_iff_ne.mpr c37
          have c37b1 : (t430 != t431) = true := bne_iff_ne.mpr c37
          exact absurd H (by simp)
end Go.Proofs.YtflmioakfboanaaDoor.PNumSums
end
section
namespace Go.Proofs.YtflmioakfboanaaDoor.PNumSums
open Go.RowKit Go.Proofs.YtflmioakfboanaaDoorW.PrintWords Go.Proofs.YtflmioakfboanaaDoorW.PrintLast
def marginalialaw01_NumSums.Pure : Prop := ∀ (a0_0 : Bool) (l0_1 : List Int) (a1_0 : Bool) (l1_1 : List Int), l0_1.length ≤ maxLen → (∀ x ∈ l0_1, (Lit.int .u32 x).wf = true) → l1_1.length ≤ maxLen → (∀ x ∈ l1_1, (Lit.int .u32 x).wf = true) → ∃ k, marginalialaw01_NumSums.f k a0_0 l0_1 a1_0 l1_1 = some true
end Go.Proofs.YtflmioakfboanaaDoor.PNumSums
end
section
namespace Go.Proofs.YtflmioakfboanaaDoor.Val
open Go.RowKit Go.Proofs.YtflmioakfboanaaDoorW.PrintWords
def val (B : Int) : List Int → Int
  | [] => 0
  | x :: l => x + B * val B l
def Lim (B : Int) (l : List Int) : Prop := ∀ x ∈ l, 0 ≤ x ∧ x < B
def Norm (l : List Int) : Prop := ∀ h : l ≠ [], l.getLast h ≠ 0
def Cut (l r : List Int) : Prop := ∃ n, l = r ++ List.replicate n 0 ∧ Norm r
theorem val_append (B : Int) (l m : List Int) : val B (l ++ m) = val B l + B ^ l.length * val B m := by
  induction l with
  | nil => simp [val]
  | cons x l ih => simp only [List.cons_append, val, ih, List.length_cons, Int.pow_succ]; grind
theorem val_replicate (B : Int) (n : Nat) : val B (List.replicate n 0) = 0 := by
  induction n with
  | zero => rfl
  | succ n ih => simp [List.replicate_succ, val, ih]
theorem val_snoc (B : Int) (l : List Int) (x : Int) : val B (l ++ [x]) = val B l + B ^ l.length * x := by
  rw [val_append]; simp [val]
theorem rd_at (l : List Int) (i : Nat) (h : i < l.length) : rd l (i : Int) = l[i] := by
  unfold rd; simp [List.getD_eq_getElem?_getD, List.getElem?_eq_getElem h]
theorem Lim.nil (B : Int) : Lim B [] := by intro x hx; simp at hx
theorem Lim.append {B : Int} {l m : List Int} (h : Lim B l) (k : Lim B m) : Lim B (l ++ m) := by
  intro x hx
  rcases List.mem_append.1 hx with h1 | h1
  · exact h x h1
  · exact k x h1
theorem Lim.snoc {B : Int} {l : List Int} {x : Int} (h : Lim B l) (h0 : 0 ≤ x) (h1 : x < B) : Lim B (l ++ [x]) := h.append (by intro y hy; simp at hy; subst hy; exact ⟨h0, h1⟩)
theorem Lim.left {B : Int} {l m : List Int} (h : Lim B (l ++ m)) : Lim B l := fun x hx => h x (List.mem_append_left _ hx)
theorem Lim.set {B : Int} {l : List Int} (h : Lim B l) (i : Nat) (v : Int) (h0 : 0 ≤ v) (h1 : v < B) : Lim B (l.set i v) := by
  intro x hx
  rcases List.mem_or_eq_of_mem_set hx with h2 | h2
  · exact h x h2
  · subst h2; exact ⟨h0, h1⟩
theorem Lim.rd {B : Int} {l : List Int} (h : Lim B l) (i : Int) (h0 : 0 ≤ i) (h1 : i < l.length) : 0 ≤ rd l i ∧ rd l i < B := by
  obtain ⟨n, rfl⟩ := Int.eq_ofNat_of_zero_le h0
  rw [rd_at l n (by omega)]
  exact h _ (List.getElem_mem _)
theorem pow_pos' {B : Int} (hB : 0 < B) (n : Nat) : 0 < B ^ n := Int.pow_pos hB
theorem pow_mono {B : Int} (hB : 1 ≤ B) {m n : Nat} (h : m ≤ n) : B ^ m ≤ B ^ n := by
  induction n with
  | zero => have : m = 0 := by omega
            subst this; exact Int.le_refl _
  | succ n ih =>
    by_cases e : m = n + 1
    · subst e; exact Int.le_refl _
    · have h1 := ih (by omega)
      have h2 := pow_pos' (show 0 < B by omega) n
      have h3 : B ^ n * 1 ≤ B ^ n * B := Int.mul_le_mul_of_nonneg_left hB (Int.le_of_lt h2)
      rw [Int.pow_succ]
      omega
theorem val_nonneg {B : Int} (hB : 0 < B) {l : List Int} (h : Lim B l) : 0 ≤ val B l := by
  induction l with
  | nil => exact Int.le_refl _
  | cons x l ih =>
    have h1 := (h x (by simp)).1
    have h2 := ih fun y hy => h y (by simp [hy])
    have h3 := Int.mul_nonneg (Int.le_of_lt hB) h2
    simp only [val]; omega
theorem val_lt {B : Int} (hB : 0 < B) {l : List Int} (h : Lim B l) : val B l < B ^ l.length := by
  induction l with
  | nil => simp [val]
  | cons x l ih =>
    have h1 := (h x (by simp)).2
    have h2 := ih fun y hy => h y (by simp [hy])
    have h3 : B * (val B l + 1) ≤ B * B ^ l.length := Int.mul_le_mul_of_nonneg_left (by omega) (Int.le_of_lt hB)
    simp only [val, List.length_cons, Int.pow_succ]
    have h4 : B ^ l.length * B = B * B ^ l.length := Int.mul_comm _ _
    rw [h4]
    rw [Int.mul_add, Int.mul_one] at h3
    omega
theorem Norm.nil : Norm [] := fun h => absurd rfl h
theorem norm_le {B : Int} (hB : 0 < B) {l : List Int} (h : Lim B l) (hn : Norm l) (h0 : l ≠ []) : B ^ (l.length - 1) ≤ val B l := by
  obtain ⟨m, x, rfl⟩ : ∃ m x, l = m ++ [x] := ⟨l.dropLast, l.getLast h0, (List.dropLast_concat_getLast h0).symm⟩
  have hx := hn h0
  simp at hx
  have hx1 := h x (by simp)
  rw [val_snoc]
  have h1 := val_nonneg hB h.left
  have h2 : B ^ m.length * 1 ≤ B ^ m.length * x := Int.mul_le_mul_of_nonneg_left (by omega) (Int.le_of_lt (pow_pos' hB _))
  simp
  omega
theorem val_zero_iff {B : Int} (hB : 0 < B) {l : List Int} (h : Lim B l) (hn : Norm l) : val B l = 0 ↔ l = [] := by
  constructor
  · intro hv
    rcases Decidable.em (l = []) with h0 | h0
    · exact h0
    · have := norm_le hB h hn h0
      have := pow_pos' hB (l.length - 1)
      omega
  · rintro rfl; rfl
theorem norm_tail {x : Int} {l : List Int} (h : Norm (x :: l)) : Norm l := by
  intro h0
  have := h (by simp)
  rwa [List.getLast_cons h0] at this
theorem uniq {B : Int} (hB : 0 < B) : ∀ {l m : List Int}, Lim B l → Lim B m → Norm l → Norm m → val B l = val B m → l = m
  | [], m, _, hm, _, nm, e => ((val_zero_iff hB hm nm).1 e.symm).symm
  | l, [], hl, _, nl, _, e => (val_zero_iff hB hl nl).1 e
  | x :: l, y :: m, hl, hm, nl, nm, e => by
    simp only [val] at e
    have hx := hl x (by simp)
    have hy := hm y (by simp)
    have e1 : (x + B * val B l) % B = (y + B * val B m) % B := by rw [e]
    rw [Int.add_mul_emod_self_left, Int.add_mul_emod_self_left, Int.emod_eq_of_lt hx.1 hx.2, Int.emod_eq_of_lt hy.1 hy.2] at e1
    subst e1
    have e2 : val B l = val B m := Int.eq_of_mul_eq_mul_left (a := B) (by omega) (by omega)
    rw [uniq hB (fun z hz => hl z (by simp [hz])) (fun z hz => hm z (by simp [hz])) (norm_tail nl) (norm_tail nm) e2]
theorem Cut.val {B : Int} {l r : List Int} (h : Cut l r) : val B r = val B l := by
  obtain ⟨n, rfl, _⟩ := h
  rw [val_append, val_replicate]; simp
theorem Cut.lim {B : Int} {l r : List Int} (h : Cut l r) (hl : Lim B l) : Lim B r := by
  obtain ⟨n, rfl, _⟩ := h
  exact hl.left
theorem Cut.norm {l r : List Int} (h : Cut l r) : Norm r := by
  obtain ⟨_, _, hn⟩ := h
  exact hn
theorem Cut.len {l r : List Int} (h : Cut l r) : r.length ≤ l.length := by
  obtain ⟨n, rfl, _⟩ := h
  simp
theorem len_le_iff {B : Int} (hB : 1 < B) {l : List Int} (h : Lim B l) (hn : Norm l) (n : Nat) : l.length ≤ n ↔ val B l < B ^ n := by
  have hB0 : 0 < B := by omega
  constructor
  · intro hl
    have h1 := val_lt hB0 h
    have h2 : B ^ l.length ≤ B ^ n := pow_mono (by omega) hl
    omega
  · intro hv
    apply Decidable.byContradiction
    intro hc
    have h0 : l ≠ [] := by rintro rfl; simp at hc
    have h1 := norm_le hB0 h hn h0
    have h2 : B ^ n ≤ B ^ (l.length - 1) := pow_mono (by omega) (by omega)
    omega
theorem norm_of_rd {l : List Int} (h : 0 < l.length → rd l ((l.length : Int) - 1) ≠ 0) : Norm l := by
  intro h0
  have hl : 0 < l.length := by cases l with | nil => exact absurd rfl h0 | cons => simp
  have h1 := h hl
  rw [show ((l.length : Int) - 1) = ((l.length - 1 : Nat) : Int) from by omega, rd_at l _ (by omega)] at h1
  rw [List.getLast_eq_getElem]
  exact h1
theorem norm_rd {l : List Int} (h : Norm l) (hl : 0 < l.length) : rd l ((l.length : Int) - 1) ≠ 0 := by
  have h0 : l ≠ [] := by rintro rfl; simp at hl
  have := h h0
  rw [List.getLast_eq_getElem] at this
  rw [show ((l.length : Int) - 1) = ((l.length - 1 : Nat) : Int) from by omega, rd_at l _ (by omega)]
  exact this
theorem cut_step {l : List Int} (hl : 0 < l.length) (h0 : rd l ((l.length : Int) - 1) = 0) {r : List Int} (h : Cut (l.take (l.length - 1)) r) : Cut l r := by
  obtain ⟨n, e, hn⟩ := h
  refine ⟨n + 1, ?_, hn⟩
  rw [show ((l.length : Int) - 1) = ((l.length - 1 : Nat) : Int) from by omega, rd_at l _ (by omega)] at h0
  have e1 : l = l.take (l.length - 1) ++ [l[l.length - 1]] := by
    rw [List.take_append_getElem]
    rw [List.take_of_length_le (by omega)]
  rw [e1, e, h0, List.replicate_succ', List.append_assoc]
theorem cut_done {l : List Int} (h : Norm l) : Cut l l := ⟨0, by simp, h⟩
theorem wrap64_of {x : Int} (h0 : -9223372036854775808 ≤ x) (h1 : x ≤ 9223372036854775807) : wrap64 x = x := by
  unfold wrap64; omega
theorem w_succ (i : Nat) (h : i ≤ 4611686018427387904) : wrap64 ((i : Int) + 1) = ((i + 1 : Nat) : Int) := by rw [wrap64_of (by omega) (by omega)]; omega
def cmpV (x y : Int) : Int := if x < y then -1 else if x = y then 0 else 1
theorem cmpV_lt {x y : Int} (h : x < y) : cmpV x y = -1 := if_pos h
theorem cmpV_eq {x y : Int} (h : x = y) : cmpV x y = 0 := by unfold cmpV; rw [if_neg (by omega), if_pos h]
theorem cmpV_gt {x y : Int} (h : y < x) : cmpV x y = 1 := by unfold cmpV; rw [if_neg (by omega), if_neg (by omega)]
theorem cmpV_ge {x y : Int} : cmpV x y ≥ 0 ↔ y ≤ x := by
  unfold cmpV
  split
  · omega
  · split <;> omega
theorem rd_out (l : List Int) (i : Nat) (h : l.length ≤ i) : rd l (i : Int) = 0 := by
  unfold rd; simp [List.getD_eq_getElem?_getD, List.getElem?_eq_none h]
theorem val_take_succ (B : Int) (l : List Int) (i : Nat) : val B (l.take (i + 1)) = val B (l.take i) + B ^ i * rd l (i : Int) := by
  by_cases h : i < l.length
  · rw [List.take_succ_eq_append_getElem h, val_snoc, ← rd_at l i h, List.length_take, Nat.min_eq_left (by omega)]
  · rw [rd_out l i (by omega), List.take_of_length_le (by omega), List.take_of_length_le (by omega), Int.mul_zero, Int.add_zero]
theorem lim_rd0 {B : Int} (hB : 0 < B) {l : List Int} (h : Lim B l) (i : Nat) : 0 ≤ rd l (i : Int) ∧ rd l (i : Int) < B := by
  by_cases hi : i < l.length
  · exact h.rd (i : Int) (by omega) (by omega)
  · rw [rd_out l i (by omega)]; exact ⟨Int.le_refl _, hB⟩
theorem val_drop (B : Int) (l : List Int) (i : Nat) (h : i < l.length) : val B (l.drop i) = rd l (i : Int) + B * val B (l.drop (i + 1)) := by
  rw [List.drop_eq_getElem_cons h, ← rd_at l i h]; rfl
theorem val_split (B : Int) (l : List Int) (i : Nat) (h : i ≤ l.length) : val B l = val B (l.take i) + B ^ i * val B (l.drop i) := by
  have := val_append B (l.take i) (l.drop i)
  rw [List.take_append_drop, List.length_take, Nat.min_eq_left h] at this
  exact this
theorem Lim.take {B : Int} {l : List Int} (h : Lim B l) (i : Nat) : Lim B (l.take i) := fun x hx => h x (List.mem_of_mem_take hx)
theorem lt_at {B : Int} (hB : 0 < B) {l m : List Int} (hl : Lim B l) (hm : Lim B m) (i : Nat) (h1 : i < l.length) (h2 : i < m.length) (hd : l.drop (i + 1) = m.drop (i + 1)) (h : rd l (i : Int) < rd m (i : Int)) : val B l < val B m := by
  rw [val_split B l i (by omega), val_split B m i (by omega), val_drop B l i h1, val_drop B m i h2, hd]
  have a1 := val_lt hB (hl.take i)
  have a2 := val_nonneg hB (hm.take i)
  have a3 : B ^ (l.take i).length = B ^ i := by rw [List.length_take, Nat.min_eq_left (by omega)]
  rw [a3] at a1
  have a4 := pow_pos' hB i
  have a5 : B ^ i * ((rd l (i : Int) + B * val B (m.drop (i + 1))) + 1) ≤ B ^ i * (rd m (i : Int) + B * val B (m.drop (i + 1))) := Int.mul_le_mul_of_nonneg_left (by omega) (by omega)
  rw [Int.mul_add, Int.mul_one] at a5
  omega
theorem lt_len {B : Int} (hB : 0 < B) {l m : List Int} (hl : Lim B l) (hm : Lim B m) (nm : Norm m) (h : l.length < m.length) : val B l < val B m := by
  have a1 := val_lt hB hl
  have a2 := norm_le hB hm nm (by rintro rfl; simp at h)
  have a3 : B ^ l.length ≤ B ^ (m.length - 1) := pow_mono (by omega) (by omega)
  omega
theorem len_le_of_val {B : Int} (hB : 0 < B) {l m : List Int} (hl : Lim B l) (hm : Lim B m) (nm : Norm m) (h : val B m ≤ val B l) : m.length ≤ l.length := by
  apply Decidable.byContradiction
  intro hc
  have := lt_len hB hl hm nm (by omega)
  omega
theorem drop_step {l m : List Int} (hlen : l.length = m.length) (i : Nat) (hi : i < l.length) (hd : l.drop (i + 1) = m.drop (i + 1)) (h : rd l (i : Int) = rd m (i : Int)) : l.drop i = m.drop i := by
  rw [List.drop_eq_getElem_cons hi, List.drop_eq_getElem_cons (l := m) (i := i) (by omega), hd]
  rw [rd_at l i hi, rd_at m i (by omega)] at h
  rw [h]
def Evt {α : Type} (g : Nat → Option α) (r : α) : Prop := ∃ K, ∀ k, K ≤ k → g k = some r
theorem Evt.of {α : Type} {g : Nat → Option α} {r : α} (h : ∀ k, g k = some r) : Evt g r := ⟨0, fun k _ => h k⟩
theorem Evt.of1 {α : Type} {g : Nat → Option α} {r : α} (h : ∀ k, g (k + 1) = some r) : Evt g r := ⟨1, fun k hk => by
  obtain ⟨m, rfl⟩ : ∃ m, k = m + 1 := ⟨k - 1, by omega⟩
  exact h m⟩
theorem Evt.step {α : Type} {g h : Nat → Option α} {r : α} (e : ∀ k, g (k + 1) = h k) (hh : Evt h r) : Evt g r := by
  obtain ⟨K, hK⟩ := hh
  refine ⟨K + 1, fun k hk => ?_⟩
  obtain ⟨m, rfl⟩ : ∃ m, k = m + 1 := ⟨k - 1, by omega⟩
  rw [e]
  exact hK m (by omega)
theorem Evt.congr {α : Type} {g h : Nat → Option α} {r : α} (hh : Evt h r) (e : ∀ k, g k = h k) : Evt g r := by
  obtain ⟨K, hK⟩ := hh
  exact ⟨K, fun k hk => by rw [e]; exact hK k hk⟩
theorem Evt.bind {α β : Type} {g : Nat → Option α} {a : α} {h : α → Nat → Option β} {r : β} (hg : Evt g a) (hh : Evt (h a) r) : Evt (fun k => (g k).bind fun x => h x k) r := by
  obtain ⟨K, hK⟩ := hg
  obtain ⟨L, hL⟩ := hh
  refine ⟨K + L, fun k hk => ?_⟩
  show (g k).bind _ = _
  rw [hK k (by omega)]
  exact hL k (by omega)
theorem Evt.pos {α : Type} {c : Prop} [Decidable c] {g h : Nat → Option α} {r : α} (hc : c) (hg : Evt g r) : Evt (fun k => if c then g k else h k) r := hg.congr fun _ => if_pos hc
theorem Evt.neg {α : Type} {c : Prop} [Decidable c] {g h : Nat → Option α} {r : α} (hc : ¬ c) (hh : Evt h r) : Evt (fun k => if c then g k else h k) r := hh.congr fun _ => if_neg hc
theorem Evt.some_ {α : Type} (r : α) : Evt (fun _ => some r) r := Evt.of fun _ => rfl
theorem Evt.ex {α : Type} {g : Nat → Option α} {r : α} (h : Evt g r) : ∃ k, g k = some r := by
  obtain ⟨K, hK⟩ := h
  exact ⟨K, hK K (Nat.le_refl _)⟩
end Go.Proofs.YtflmioakfboanaaDoor.Val
end
section
namespace Go.Proofs.YtflmioakfboanaaDoor.PNumSums
open Go.RowKit Go.Proofs.YtflmioakfboanaaDoorW.PrintWords Go.Proofs.YtflmioakfboanaaDoorW.PrintLast Go.Proofs.YtflmioakfboanaaDoor.Val
theorem cut_ev : ∀ (d : Nat) (l : List Int), l.length = d → d ≤ 4611686018427387904 → ∃ r, Cut l r ∧ Evt (fun k => num_cut.l0 k l) r
  | 0, l, hd, _ => by
    obtain rfl : l = [] := List.length_eq_zero_iff.1 hd
    exact ⟨[], cut_done Norm.nil, Evt.of1 fun k => by simp [num_cut.l0]⟩
  | d + 1, l, hd, hl => by
    have e : wrap64 ((l.length : Int) - 1) = (l.length : Int) - 1 := wrap64_of (by omega) (by omega)
    by_cases h0 : rd l ((l.length : Int) - 1) = 0
    · obtain ⟨r, hc, hr⟩ := cut_ev d (l.take (l.length - 1)) (by rw [List.length_take]; omega) (by omega)
      refine ⟨r, cut_step (by omega) h0 hc, Evt.step (fun k => ?_) hr⟩
      simp only [num_cut.l0]
      rw [if_pos (by omega), e, if_pos (by omega), if_pos (by omega), if_pos h0, if_pos (by omega)]
      have e2 : ((l.length : Int) - 1).toNat = l.length - 1 := by omega
      rw [e2]
    · refine ⟨l, cut_done (norm_of_rd fun _ => h0), Evt.of1 fun k => ?_⟩
      simp only [num_cut.l0]
      rw [if_pos (by omega), e, if_pos (by omega), if_pos (by omega), if_neg h0]
theorem of_ev (a : Bool) (l : List Int) (hl : l.length ≤ 4611686018427387904) :
    ∃ r, Cut l r ∧ Evt (fun k => num_of.f k a l) (if r.length > 64 then (false, [], 6) else (a && decide (0 < r.length), r, 0)) := by
  obtain ⟨r, hc, hr⟩ := cut_ev l.length l rfl hl
  refine ⟨r, hc, ?_⟩
  refine Evt.bind (g := fun k => num_cut.f k l) (h := fun t _ => if (t.length : Int) > 64 then some (false, [], 6) else if a = true then some (decide (0 < t.length), t, 0) else some (false, t, 0)) hr (Evt.of fun k => ?_)
  by_cases h : r.length > 64
  · rw [if_pos h, if_pos (by omega)]
  · rw [if_neg h, if_neg (by omega)]
    cases a <;> simp
structure Snd (a : Bool) (l : List Int) : Prop where
  len : l.length ≤ 64
  lim : ∀ x ∈ l, x < 1000000000
  norm : Norm l
  zero : l = [] → a = false
theorem sound_spec (a : Bool) (l : List Int) (hl : l.length ≤ 4611686018427387904) : ∃ b, num_Sound.f a l = some b ∧ (b = true ↔ Snd a l) := by
  unfold num_Sound.f
  by_cases h0 : (l.length : Int) = 0
  · rw [if_pos h0]
    obtain rfl : l = [] := List.length_eq_zero_iff.1 (by omega)
    refine ⟨_, rfl, ?_⟩
    constructor
    · intro h; exact ⟨by simp, by simp, Norm.nil, fun _ => by simpa using h⟩
    · intro h; simpa using h.zero rfl
  · rw [if_neg h0]
    have e : wrap64 ((l.length : Int) - 1) = (l.length : Int) - 1 := wrap64_of (by omega) (by omega)
    by_cases h1 : (l.length : Int) ≤ 64
    · rw [if_pos h1, e, if_pos (by omega), if_pos (by omega)]
      by_cases h2 : rd l ((l.length : Int) - 1) = 0
      · rw [if_pos h2]
        refine ⟨false, rfl, ?_⟩
        constructor
        · intro h; cases h
        · intro h; exact absurd h2 (norm_rd h.norm (by omega))
      · rw [if_neg h2]
        unfold slices_ContainsFunc_uint32_uint32.f
        rw [if_pos rfl]
        refine ⟨_, rfl, ?_⟩
        constructor
        · intro h
          simp at h
          exact ⟨by omega, h, norm_of_rd fun _ => h2, fun h3 => by subst h3; simp at h0⟩
        · intro h
          simpa using h.lim
    · rw [if_neg h1]
      refine ⟨false, rfl, ?_⟩
      constructor
      · intro h; cases h
      · intro h; have := h.len; omega
theorem rsound_loop (a : Bool) (l : List Int) (hl : l.length ≤ 4611686018427387904) : ∀ (d i : Nat), i + d = l.length → (∀ j, j < i → rd l (j : Int) < 1000000000) →
    ∃ b, Evt (fun k => marginaliaref01_Sound.l0 k (l.length : Int) (i : Int) a l) b ∧ (b = true ↔ (∀ x ∈ l, x < 1000000000) ∧ Norm l)
  | 0, i, hi, hp => by
    have hlim : ∀ x ∈ l, x < 1000000000 := by
      intro x hx
      obtain ⟨j, hj, rfl⟩ := List.getElem_of_mem hx
      have := hp j (by omega)
      rwa [rd_at l j hj] at this
    by_cases h0 : (l.length : Int) = 0
    · have e0 : l = [] := List.length_eq_zero_iff.1 (by omega)
      refine ⟨true, Evt.of1 fun k => ?_, by subst e0; simp [Norm.nil]⟩
      simp only [marginaliaref01_Sound.l0]
      rw [if_neg (by omega), if_pos h0]
    · have e : wrap64 ((l.length : Int) - 1) = (l.length : Int) - 1 := wrap64_of (by omega) (by omega)
      refine ⟨rd l ((l.length : Int) - 1) != 0, Evt.of1 fun k => ?_, ?_⟩
      · simp only [marginaliaref01_Sound.l0]
        rw [if_neg (by omega), if_neg h0, e, if_pos (by omega), if_pos (by omega)]
      · constructor
        · intro h; exact ⟨hlim, norm_of_rd fun _ => by simpa using h⟩
        · intro h; simpa using norm_rd h.2 (by omega)
  | d + 1, i, hi, hp => by
    by_cases h : rd l (i : Int) ≥ 1000000000
    · refine ⟨false, Evt.of1 fun k => ?_, ?_⟩
      · simp only [marginaliaref01_Sound.l0]
        rw [if_pos (by omega), if_pos (by omega), if_pos (by omega), if_pos h]
      · constructor
        · intro h2; cases h2
        · intro h2
          have := h2.1 (rd l (i : Int)) (by rw [rd_at l i (by omega)]; exact List.getElem_mem _)
          omega
    · obtain ⟨b, hb, hi2⟩ := rsound_loop a l hl d (i + 1) (by omega) (fun j hj => by
        by_cases e : j = i
        · subst e; omega
        · exact hp j (by omega))
      refine ⟨b, Evt.step (fun k => ?_) hb, hi2⟩
      simp only [marginaliaref01_Sound.l0]
      rw [if_pos (by omega), if_pos (by omega), if_pos (by omega), if_neg h, wrap64_of (by omega) (by omega)]
      rfl
theorem rsound_ev (a : Bool) (l : List Int) (hl : l.length ≤ 4611686018427387904) : ∃ b, Evt (fun k => marginaliaref01_Sound.f k a l) b ∧ (b = true ↔ Snd a l) := by
  by_cases h1 : (l.length : Int) > 64
  · refine ⟨false, Evt.of1 fun k => ?_, ?_⟩
    · unfold marginaliaref01_Sound.f
      rw [if_pos h1]; simp [marginaliaref01_Sound.j0]
    · constructor
      · intro h; cases h
      · intro h; have := h.len; omega
  · by_cases h0 : (l.length : Int) = 0
    · have e0 : l = [] := List.length_eq_zero_iff.1 (by omega)
      subst e0
      cases a with
      | true =>
        refine ⟨false, Evt.of1 fun k => by simp [marginaliaref01_Sound.f, marginaliaref01_Sound.j0], ?_⟩
        constructor
        · intro h; cases h
        · intro h; have := h.zero rfl; cases this
      | false =>
        refine ⟨true, Evt.step (h := fun k => marginaliaref01_Sound.l0 k 0 0 false []) (fun k => by simp [marginaliaref01_Sound.f, marginaliaref01_Sound.j0]) (Evt.of1 fun k => by simp [marginaliaref01_Sound.l0]), ?_⟩
        constructor
        · intro _; exact ⟨by simp, by simp, Norm.nil, fun _ => rfl⟩
        · intro _; rfl
    · obtain ⟨b, hb, hi⟩ := rsound_loop a l hl l.length 0 (by omega) (fun j hj => absurd hj (Nat.not_lt_zero _))
      refine ⟨b, Evt.step (fun k => ?_) hb, ?_⟩
      · unfold marginaliaref01_Sound.f
        rw [if_neg h1, if_neg h0]
        simp only [marginaliaref01_Sound.j0]; rw [if_neg (by simp)]
        rfl
      · rw [hi]
        constructor
        · intro h; exact ⟨by omega, h.1, h.2, fun h3 => by subst h3; simp at h0⟩
        · intro h; exact ⟨h.lim, h.norm⟩
theorem trim_ev (l : List Int) (hl : l.length ≤ 4611686018427387904) : ∀ (i : Nat), i ≤ l.length → (∃ n, l = l.take i ++ List.replicate n 0) →
    ∃ r, Cut l r ∧ Evt (fun k => marginaliaref01_trim.l0 k l (i : Int)) r
  | 0, _, hc => by
    obtain ⟨n, hn⟩ := hc
    refine ⟨l.take 0, ⟨n, hn, by simpa using Norm.nil⟩, Evt.of1 fun k => ?_⟩
    simp only [marginaliaref01_trim.l0]
    rw [if_neg (by omega), if_pos (by omega), if_pos (by omega)]
    rfl
  | i + 1, hi, hc => by
    have e : wrap64 (((i + 1 : Nat) : Int) - 1) = (i : Int) := by rw [wrap64_of (by omega) (by omega)]; omega
    by_cases h0 : rd l (i : Int) = 0
    · obtain ⟨r, hr, hv⟩ := trim_ev l hl i (by omega) (by
        obtain ⟨n, hn⟩ := hc
        refine ⟨n + 1, ?_⟩
        have h0' := h0
        rw [rd_at l i (by omega)] at h0'
        have e1 : l.take (i + 1) = l.take i ++ [0] := by rw [List.take_succ_eq_append_getElem (by omega), h0']
        rw [e1] at hn
        rw [List.replicate_succ]
        simpa using hn)
      refine ⟨r, hr, Evt.step (fun k => ?_) hv⟩
      simp only [marginaliaref01_trim.l0]
      rw [if_pos (by omega), e, if_pos (by omega), if_pos (by omega), if_pos h0]
    · obtain ⟨n, hn⟩ := hc
      refine ⟨l.take (i + 1), ⟨n, hn, norm_of_rd fun _ => ?_⟩, Evt.of1 fun k => ?_⟩
      · have e1 : (((l.take (i + 1)).length : Int) - 1) = (i : Int) := by simp; omega
        rw [e1, rd_at _ i (by simp; omega), List.getElem_take, ← rd_at l i (by omega)]
        exact h0
      · simp only [marginaliaref01_trim.l0]
        rw [if_pos (by omega), e, if_pos (by omega), if_pos (by omega), if_neg h0, if_pos (by omega), if_pos (by omega)]
        rfl
theorem rtrim_ev (l : List Int) (hl : l.length ≤ 4611686018427387904) : ∃ r, Cut l r ∧ Evt (fun k => marginaliaref01_trim.f k l) r := by
  obtain ⟨r, h1, h2⟩ := trim_ev l hl l.length (Nat.le_refl _) ⟨0, by simp⟩
  exact ⟨r, h1, h2⟩
theorem same_loop (a b : Bool) (l : List Int) (hl : l.length ≤ 4611686018427387904) : ∀ (d i : Nat), i + d = l.length → Evt (fun k => marginaliaref01_Same.l0 k (i : Int) a l b l) true
  | 0, i, hi => Evt.of1 fun k => by
    simp only [marginaliaref01_Same.l0]
    rw [if_neg (by omega)]
  | d + 1, i, hi => Evt.step (fun k => by
    simp only [marginaliaref01_Same.l0]
    rw [if_pos (by omega), if_pos (by omega), if_pos (by omega), if_pos True.intro, wrap64_of (by omega) (by omega)]
    rfl) (same_loop a b l hl d (i + 1) (by omega))
theorem same_refl (a : Bool) (l : List Int) (hl : l.length ≤ 4611686018427387904) : Evt (fun k => marginaliaref01_Same.f k a l a l) true := by
  refine Evt.step (fun k => ?_) (same_loop a a l hl l.length 0 (by omega))
  unfold marginaliaref01_Same.f
  rw [if_neg (by simp)]
  simp only [marginaliaref01_Same.j0]
  rw [if_neg (by simp)]
  rfl
theorem own_spec (a : Bool) (l : List Int) (hl : l.length < 35184372088832) : marginalialaw01_own.f a l = some (a, l) := by
  unfold marginalialaw01_own.f
  simp [hl]
end Go.Proofs.YtflmioakfboanaaDoor.PNumSums
end
